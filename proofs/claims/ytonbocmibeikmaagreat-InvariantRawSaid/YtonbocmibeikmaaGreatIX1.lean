/- My own texts, put together by a program of mine. -/
import Derived.Test.YtonbocmibeikmaaGreatIX0
set_option linter.unusedSimpArgs false
set_option linter.unusedVariables false
set_option maxRecDepth 100000
set_option maxHeartbeats 4000000
section
namespace Go.Ab
section
variable {P:Program}{C:Cfg}
variable {ops:Array Oper}{st:St}
theorem o4.pre {l:List Oper}{st':St}{Q:St→Prop}(k:Nat)(h:PQ C ops (l.take k) st=some st')(hk:o4 P C ops (l.drop k) st' Q):o4 P C ops l st Q:=by
 have key:∀(l1:List Oper) (s:St),PQ C ops l1 s=some st'→o4 P C ops (l1++l.drop k) s Q:=by
  intro l1;induction l1 with
  | nil=>
   intro s hs;simp only[PQ,Option.some.injEq]at hs;subst hs;exact hk
  | cons o l1 ih=>
   intro s hs;simp only[PQ]at hs;split at hs
   ·rename_i hw;split at hs
    ·rename_i x h' hp;exact .plain hw hp (ih _ hs)
    ·cases hs
   ·rename_i hw;exact .skip hw (ih _ hs)
   ·cases hs
 rw[←List.take_append_drop k l];exact key _ _ h
theorem o4.split {l:List Oper}{Q:St→Prop}{b:Bool}(d:Nat)(hv:st.sl.getD d .any=.bool b)(ht:b=true→o4 P C ops l st Q)(hf:b=false→o4 P C ops l st Q):o4 P C ops l st Q:=by
 cases b with
 | true=>exact ht rfl
 | false=>exact hf rfl
variable {c:Code}
theorem c9.split {Q:Exit→St→Prop}{b:Bool}(d:Nat)(hv:st.sl.getD d .any=.bool b)(ht:b=true→c9 P C c st Q)(hf:b=false→c9 P C c st Q):c9 P C c st Q:=by
 cases b with
 | true=>exact ht rfl
 | false=>exact hf rfl
theorem c9.A0 {c:Operand}{x y:Code}{Q:Exit→St→Prop}(hc:rho C st.sl c=.bool true)(r:c9 P C x st Q):c9 P C (.cond c x y) st Q:=.cond hc r
theorem c9.DO {c:Operand}{x y:Code}{Q:Exit→St→Prop}(hc:rho C st.sl c=.bool false)(r:c9 P C y st Q):c9 P C (.cond c x y) st Q:=.cond hc r
theorem Ends.mk {fn:Func}{R:AV→c6→Prop}{x:AV}(hx:yD C fn.results st.sl st.h=some x)(hr:R x st.h):Ends C fn R .ret st:=⟨x,hx,hr⟩
def Fin (h:c6)(Q:AV→Prop)(x:AV)(h1:c6):Prop:=∃l y,h1=h++l∧jQ h.length h1 6 x=some y∧Q y
theorem CallA.body (g:Good P C){f:FuncId}{fn:Func}{c:Code}{args:List AV}{h:c6}{Q:AV→Prop}(hf:C.fns f=some fn)(hb:fn.body=some c)
  (r:c9 P C c ⟨args++List.replicate (fn.ntmps-args.length) .any,h⟩ (Ends C fn (Fin h Q))):CallA P C f args h (fun x h'=>Q x∧h'=h):=
 CallA.shut (CallA.lU g hf hb r) fun _ _ ⟨l,y,h2,h3,h4⟩=>⟨l,y,h2,h3,h4,rfl⟩
def FJ:List AV→List AV→Prop
 | [],[]=>True
 | x::xs,y::ys=>(x=y∨x=.any)∧FJ xs ys
 | _,_=>False
theorem FJ.get:∀{xs ys:List AV},FJ xs ys→xs.length=ys.length∧∀t,xs.getD t .any=ys.getD t .any∨xs.getD t .any=.any
 | [],[],_=>⟨rfl,fun t=>.inl rfl⟩
 | x::xs,y::ys,h=>by
  obtain ⟨h1,h2⟩:=h;obtain ⟨k1,k2⟩:=FJ.get h2;refine ⟨by simp[k1],fun t=>?_⟩
  match t with
  | 0=>simpa using h1
  | t+1=>simpa using k2 t
 | [],_::_,h=>h.elim
 | _::_,[],h=>h.elim
theorem c9.fit {sl:List AV}{h:c6}{Q:Exit→St→Prop}(sl':List AV)(hs:FJ sl' sl)(r:c9 P C c ⟨sl',h⟩ Q):c9 P C c ⟨sl,h⟩ Q:=
 c9.less (FJ.get hs).1 (FJ.get hs).2 r
def Fits (I:Nat→St→Prop)(m:Nat)(st:St):Prop:=∃sl,FJ sl st.sl∧I m ⟨sl,st.h⟩
theorem c9.aR {Q:Exit→St→Prop}(I:Nat→St→Prop)(n:Nat)(h0:Fits I n st)(round:∀m sl h,I m ⟨sl,h⟩→c9 P C c ⟨sl,h⟩ (Round (Fits I) m Q)):c9 P C (.loop c) st Q:=by refine c9.loop (Fits I) n h0 fun m st' ⟨sl,h1,h2⟩=>?_;obtain ⟨s,hh⟩:=st';exact c9.fit sl h1 (round m sl hh h2)
theorem wrap64 {n:Int}(h1:-9223372036854775808≤n)(h2:n<9223372036854775808):IntKind.wrap .i64 n=n:=by unfold IntKind.wrap;have e1:(2:Int)^IntKind.bits .i64=18446744073709551616:=rfl;have e2:(2:Int)^(IntKind.bits .i64-1)=9223372036854775808:=rfl;have e3:IntKind.signed .i64=true:=rfl;simp only[e1,e2,e3,Bool.true_and,decide_eq_true_eq];split<;>omega
theorem bTT:(true==true)=true:=rfl
theorem bTF:(true==false)=false:=rfl
theorem bFT:(false==true)=false:=rfl
theorem bFF:(false==false)=true:=rfl
end
section
variable {P:Program}{C:Cfg}
theorem gA {α β:Type}{f g:α→β}:∀{l:List α},(∀x∈l,f x=g x)→l.map f=l.map g
 | [],_=>rfl
 | x::l,h=>by rw[List.map_cons,List.map_cons,h x (by simp),gA fun y hy=>h y (by simp[hy])]
variable {c:Call}{ρ ρ':Operand→AV}
theorem K0 (hρ:∀x∈c.operands,ρ x=ρ' x):∀x∈c.args.toList,ρ x=ρ' x:=
 fun x hx=>hρ x (by unfold Call.operands;exact Array.mem_append.2 (.inr t217))
theorem vQ (hρ:∀x∈c.args.toList,ρ x=ρ' x):iL C ρ c=iL C ρ' c:=by
 unfold iL;split
 ·split
  ·rename_i x t h1 h2;rw[hρ x t172]
  ·rfl
 ·split
  ·rename_i x t h1 h2;rw[hρ x t172]
  ·rfl
 ·split
  ·rename_i x y h1;rw[hρ x t172,hρ y t172]
  ·rfl
 ·split
  ·rename_i x y h1;rw[hρ x t172,hρ y t172]
  ·rfl
 ·rfl
theorem A3 (hρ:∀x∈c.operands,ρ x=ρ' x):aH C ρ c=aH C ρ' c:=by
 have hm:c.args.toList.map ρ=c.args.toList.map ρ':=gA (K0 hρ);unfold aH;split
 ·rename_i f hc;rw[hρ f (by unfold Call.operands;rw[hc];simp),hm]
 ·rename_i r n hc;rw[hρ r (by unfold Call.operands;rw[hc];simp),hm]
 ·rfl
variable {o:Op}{h:c6}
theorem K1 (hρ:∀x∈o.operands,ρ x=ρ' x):v8 C ρ h o=v8 C ρ' h o:=by
 cases o with
 | call c=>
  have ha:=K0 (c:=c) hρ;unfold v8;rw[show fC C ρ (.call c)=fC C ρ' (.call c) from vQ ha,show gV C ρ h (.call c)=gV C ρ' h (.call c) from rfl];have he:nZ C ρ h (.call c)=nZ C ρ' h (.call c):=by
   simp only[nZ];split
   ·split
    ·rename_i b x t u h1 h2;rw[ha b t172,ha x t172]
    ·rfl
   ·split
    ·rename_i b x t u h1 h2;rw[ha b t172,ha x t172]
    ·rfl
   ·rfl
  rw[he]
 | build t parts=>
  have:(parts.toList.map fun p=>(p.1,ρ p.2))=parts.toList.map fun p=>(p.1,ρ' p.2):=gA fun p hp=>by rw[hρ p.2 t153]
  simp only[v8,fC,gV,nZ,this]
 | buildSlice t n parts=>
  have:(parts.toList.map fun p=>(p.1,ρ p.2))=parts.toList.map fun p=>(p.1,ρ' p.2):=gA fun p hp=>by rw[hρ p.2 t153]
  simp only[v8,fC,gV,nZ,this]
 | makeFunc f a c=>
  have h1:a.toList.map ρ=a.toList.map ρ':=gA fun p hp=>hρ p (Array.mem_append.2 (.inl (by simpa using hp)));have h2:c.toList.map ρ=c.toList.map ρ':=gA fun p hp=>hρ p (Array.mem_append.2 (.inr (by simpa using hp)));simp only[v8,fC,gV,nZ,h1,h2]
 | slice t x l hh m=>
  have h1:=hρ x t66;have h2:l.map ρ=l.map ρ':=by cases l with
   | none=>rfl
   | some y=>simp[hρ y t66]
  have h3:hh.map ρ=hh.map ρ':=by cases hh with
   | none=>rfl
   | some y=>simp[hρ y t66]
  cases m<;>simp only[v8,fC,gV,nZ,h1,h2,h3]
 | move x=>simp only[v8,fC,hρ x t66]
 | assign x=>simp only[v8,fC,hρ x t66]
 | pick c a b=>simp only[v8,fC,gV,nZ,hρ c t66,hρ a t66,hρ b t66]
 | box t x=>simp only[v8,fC,gV,nZ,hρ x t66]
 | load t x=>simp only[v8,fC,gV,nZ,hρ x t66]
 | store t p x=>simp only[v8,fC,gV,nZ,hρ x t66,hρ p t66]
 | nilCheck x=>simp only[v8,fC,gV,nZ,hρ x t66]
 | binOp op t x y u=>simp only[v8,fC,gV,nZ,hρ x t66,hρ y t66]
 | unOp op t x=>simp only[v8,fC,gV,nZ,hρ x t66]
 | convert s d x=>simp only[v8,fC,gV,nZ,hρ x t66]
 | makeInterface t x=>simp only[v8,fC,gV,nZ,hρ x t66]
 | makeSlice t x y=>simp only[v8,fC,gV,nZ,hρ x t66,hρ y t66]
 | fieldAddr t x f=>simp only[v8,fC,gV,nZ,hρ x t66]
 | field t x f=>simp only[v8,fC,gV,nZ,hρ x t66]
 | indexAddr t x i=>simp only[v8,fC,gV,nZ,hρ x t66,hρ i t66]
 | index t x i=>simp only[v8,fC,gV,nZ,hρ x t66,hρ i t66]
 | extract x i=>simp only[v8,fC,gV,nZ,hρ x t66]
 | _=>rfl
theorem OpA.congr {K:AV→c6→Prop}(hρ:∀x∈o.operands,ρ x=ρ' x)(r:OpA P C ρ h o K):OpA P C ρ' h o K:=by
 rcases r with ⟨x,h',h1,h2⟩ | ⟨c,f,args,rfl,h1,h2,h3⟩
 ·exact .inl ⟨x,h',by rw[←K1 hρ];exact h1,h2⟩
 ·exact .inr ⟨c,f,args,rfl,by rw[←A3 hρ];exact h1,h2,h3⟩
variable {ops:Array Oper}
theorem vR {o:Oper}{sl:List AV}:∀x∈o.op.operands,rho C sl x=DM C (o.looksAt ops) sl x:=by
 intro x hx;cases x with
 | tmp t=>
  have:t∈o.looksAt ops:=by unfold Oper.looksAt;refine List.mem_append.2 (.inl (List.mem_filterMap.2 ⟨.tmp t,t217,rfl⟩))
  simp only[DM,rho,List.contains_iff_mem,this,if_true]
 | _=>rfl
def eI.PU (p:eI)(ops:Array Oper):Bool:=
 (List.range ops.size).all fun i=>p.isE i||(List.range (p.gX ops.size+1)).all fun k=>k==p.gX i||! p.meets ops.size i k
def kF (P:Program)(C:Cfg)(ops:Array Oper)(p:eI):List Oper→Nat→St→(St→Prop)→Prop
 | [],_,st,Q=>Q st
 | o::rest,i,st,Q=>
  (aX ops st.sl o=some true∧∃x h',OpA P C (rho C st.sl) st.h o.op (fun y h=>y=x∧h=h')∧(p.isE i=false→h'=st.h)∧kF P C ops p rest (i+1) ⟨eY st.sl o.dst x,h'⟩ Q)∨
  (aX ops st.sl o=some false∧p.isE i=false∧kF P C ops p rest (i+1) ⟨eY st.sl o.dst (.tup []),st.h⟩ Q)
theorem Y3 {hs:List c6}{k:Nat}(x:c6)(hk:k<hs.length):(x::hs).reverse.getD k []=hs.reverse.getD k []:=by simp only[List.reverse_cons,List.getD_eq_getElem?_getD];rw[List.getElem?_append_left (by simpa using hk)]
theorem kK {ops:Array Oper}{p:eI}(hs:p.PU ops=true){Q:St→Prop}:∀(l:List Oper) (i:Nat) (st:St) (H:List c6) (pend:List (Nat×(c6→Prop))),i+l.length=ops.size→kF P C ops p l i st Q→
  H.headD []=st.h→H.length=p.gX i+1→(∀x∈pend,x.1<i∧p.isE x.1=false∧x.2 (H.reverse.getD (p.gX x.1) []))→J4 P C ops p l i st.sl H pend Q
 | [],i,st,H,pend,hi,r,hh,hl,hp=>by
  refine ⟨fun x hx k hk hm=>?_,?_⟩
  ·obtain ⟨h1,h2,h3⟩:=hp x hx;have hi':i=ops.size:=by simpa using hi
   have:=List.all_eq_true.1 hs x.1 (List.mem_range.2 (by omega));rw[h2,Bool.false_or]at this;have:=List.all_eq_true.1 this k (List.mem_range.2 (by rw[←hi',←hl];exact hk));rw[hm]at this;simp at this;rw[this];exact h3
  ·obtain ⟨sl,h⟩:=st;simp only at hh;rw[hh];exact r
 | o::rest,i,st,H,pend,hi,r,hh,hl,hp=>by
  have hrest:i+1+rest.length=ops.size:=by rw[←hi];simp;omega
  have hgt:∀j,j<i→p.gX j<H.length:=fun j hj=>by have:=vM p (Nat.le_of_lt hj);omega
  have hcur:H.reverse.getD (p.gX i) []=st.h:=by
   rw[←hh];cases H with
   | nil=>simp at hl
   | cons x H=>
    simp at hl;rw[List.getD_eq_getElem?_getD,List.reverse_cons,List.getElem?_append_right t65];simp[hl]
  rcases r with ⟨h1,x,h',h2,h3,h4⟩ | ⟨h1,h2,h4⟩
  ·have h2':=OpA.congr (vR (ops:=ops)) h2;cases hE:p.isE i with
   | true=>
    refine .inl ⟨h1,hE,x,h',?_,kK hs rest (i+1) _ (h'::H) pend hrest h4 rfl t210 fun y hy=>?_⟩
    ·rw[hh];exact h2'
    ·obtain ⟨k1,k2,k3⟩:=hp y hy;exact ⟨by omega,k2,by rw[Y3 _ (hgt _ k1)];exact k3⟩
   | false=>
    have he:=h3 hE;subst he;refine .inr (.inr (.inl ⟨h1,hE,x,kK hs rest (i+1) ⟨eY st.sl o.dst x,st.h⟩ H _ hrest h4 hh t210 fun y hy=>?_⟩));rcases List.mem_cons.1 hy with rfl | hy
    ·refine ⟨by simp,hE,?_⟩;show OpA P C _ (H.reverse.getD (p.gX i) []) o.op _;rw[hcur];exact h2'
    ·obtain ⟨k1,k2,k3⟩:=hp y hy;exact ⟨by omega,k2,k3⟩
  ·refine .inr (.inr (.inr ⟨h1,h2,kK hs rest (i+1) ⟨eY st.sl o.dst (.tup []),st.h⟩ H pend hrest h4 hh t162 fun y hy=>?_⟩));obtain ⟨k1,k2,k3⟩:=hp y hy;exact ⟨by omega,k2,k3⟩
variable {st:St}
theorem c9.PU (g:Good P C){id:Nat}{Q:Exit→St→Prop}(p:eI)(hp:p.ok ops st.sl.length=true)(hs:p.PU ops=true)(r:kF P C ops p ops.toList 0 st fun st'=>Q .normal st'):c9 P C (.region id ops true) st Q:=
 c9.draw g p hp (kK hs ops.toList 0 st [st.h] [] (by simp) r rfl (by simp[eI.gX]) (by simp))
def oZ (C:Cfg)(ρ:Operand→AV)(h:c6)(o:Op):Option AV:=
 match fC C ρ o with
 | some x=>some x
 | none=>gV C ρ h o
def DP (C:Cfg)(e:Bool)(ρ:Operand→AV)(h:c6)(o:Op):Option (AV×c6):=
 match e with
 | true=>v8 C ρ h o
 | false=>(oZ C ρ h o).map fun x=>(x,h)
def A4 (C:Cfg)(ops:Array Oper)(p:eI):List Oper→Nat→St→Option St
 | [],_,st=>some st
 | o::rest,i,st=>match aX ops st.sl o with
  | some true=>match DP C (p.isE i) (rho C st.sl) st.h o.op with
   | some (x,h')=>A4 C ops p rest (i+1) ⟨eY st.sl o.dst x,h'⟩
   | none=>none
  | some false=>match p.isE i with
   | true=>none
   | false=>A4 C ops p rest (i+1) ⟨eY st.sl o.dst (.tup []),st.h⟩
  | none=>none
theorem iM {x:AV}(hq:oZ C ρ h o=some x):v8 C ρ h o=some (x,h):=by
 unfold oZ at hq;unfold v8;split at hq
 ·rename_i y hy;first | rw[hy,hq] | (cases hq;rfl)
 ·rename_i hn;first | rw[hn,hq] | rw[hq]
theorem kF.pre {p:eI}{l:List Oper}{i:Nat}{st':St}{Q:St→Prop}(k:Nat)(h:A4 C ops p (l.take k) i st=some st')(hk:kF P C ops p (l.drop k) (i+(l.take k).length) st' Q):kF P C ops p l i st Q:=by
 have key:∀(l1:List Oper) (i:Nat) (s:St),A4 C ops p l1 i s=some st'→kF P C ops p (l.drop k) (i+l1.length) st' Q→kF P C ops p (l1++l.drop k) i s Q:=by
  intro l1;induction l1 with
  | nil=>
   intro i s hs hk;simp only[A4,Option.some.injEq]at hs;subst hs;exact hk
  | cons o l1 ih=>
   intro i s hs hk;have hk':kF P C ops p (l.drop k) (i+1+l1.length) st' Q:=by rw[show i+1+l1.length=i+(o::l1).length from by simp;omega];exact hk
   simp only[A4]at hs;split at hs
   ·rename_i hw;split at hs
    ·rename_i x h' hp;cases hE:p.isE i with
     | true=>
      rw[hE]at hp;exact .inl ⟨hw,x,h',.plain hp ⟨rfl,rfl⟩,fun h=>by simp[hE]at h,ih _ _ hs hk'⟩
     | false=>
      rw[hE]at hp;simp only[DP,Option.map_eq_some_iff,Prod.mk.injEq]at hp;obtain ⟨y,hy,rfl,rfl⟩:=hp;exact .inl ⟨hw,y,s.h,.plain (iM hy) ⟨rfl,rfl⟩,fun _=>rfl,ih _ _ hs hk'⟩
    ·cases hs
   ·rename_i hw;split at hs
    ·cases hs
    ·rename_i hE;exact .inr ⟨hw,hE,ih _ _ hs hk'⟩
   ·cases hs
 rw[←List.take_append_drop k l];exact key _ _ _ h hk
theorem kF.split {p:eI}{l:List Oper}{i:Nat}{Q:St→Prop}{b:Bool}(d:Nat)(hv:st.sl.getD d .any=.bool b)(ht:b=true→kF P C ops p l i st Q)(hf:b=false→kF P C ops p l i st Q):kF P C ops p l i st Q:=by
 cases b with
 | true=>exact ht rfl
 | false=>exact hf rfl
theorem kF.call {ops:Array Oper}{p:eI}{o:Oper}{rest:List Oper}{i:Nat}{st:St}{Q:St→Prop}{c:Call}{f:FuncId}{args:List AV}{x:AV}(hw:aX ops st.sl o=some true)(ho:o.op=.call c)(ht:aH C (rho C st.sl) c=some (f,args))(hb:p9 C f=true)
  (hc:CallA P C f args st.h fun y h'=>y=x∧h'=st.h) (hk:kF P C ops p rest (i+1) ⟨eY st.sl o.dst x,st.h⟩ Q):kF P C ops p (o::rest) i st Q:=
 .inl ⟨hw,x,st.h,t230,fun _=>rfl,hk⟩
theorem o4.ZL {ops:Array Oper}{o:Oper}{rest:List Oper}{st:St}{Q:St→Prop}{c:Call}{f:FuncId}{args:List AV}{x:AV}(hw:aX ops st.sl o=some true)(ho:o.op=.call c)(ht:aH C (rho C st.sl) c=some (f,args))(hb:p9 C f=true)
  (hc:CallA P C f args st.h fun y h'=>y=x∧h'=st.h) (hk:o4 P C ops rest ⟨eY st.sl o.dst x,st.h⟩ Q):o4 P C ops (o::rest) st Q:=
 .call hw ho ht hb (hc.mono fun _ _ ⟨h1,h2⟩=>by rw[h1,h2];exact hk)
end
variable {P:Program}
def GD (P:Program)(x:TypeId×String×FuncId):Bool:=
 match P.info? x.1 with
 | some i=>match i.methods.find? (·.name==x.2.1) with
  | some m=>m.path.isEmpty&&(match m.func with
   | some (g,false)=>Nat.beq g x.2.2
   | _=>false)&&(match P.underlying x.1 with
   | some (.struct _)=>true
   | _=>false)
  | none=>false
 | none=>false
def K2:List (TypeId×String×FuncId)→TypeId→String→Option FuncId
 | [],_,_=>none
 | (t,n,f)::rest,t',n'=>match Nat.beq t t' with
  | true=>match n==n' with
   | true=>some f
   | false=>K2 rest t' n'
  | false=>K2 rest t' n'
theorem vS:∀{tab:List (TypeId×String×FuncId)} {t:TypeId} {n:String} {f:FuncId},K2 tab t n=some f→(t,n,f)∈tab
 | [],_,_,_,h=>by simp[K2]at h
 | (t,n,f)::rest,t',n',f',h=>by
  simp only[K2]at h;split at h
  ·rename_i ht;split at h
   ·rename_i hn;cases h;rw[Nat.eq_of_beq_eq_true ht,eq_of_beq hn];exact List.mem_cons_self
   ·exact List.mem_cons_of_mem _ (vS h)
  ·exact List.mem_cons_of_mem _ (vS h)
theorem GF {tab:List (TypeId×String×FuncId)}(h:tab.all (GD P)=true)(t:TypeId)(name:String)(f:FuncId)(hl:K2 tab t name=some f)(v:Value)(w:World) :
  (method (P.types.size+Made.depth) t v name).run P w=.ok (f,v) w∧(nilAhead (P.types.size+Made.depth) t v name).run P w=.ok (some false) w:=by
 have hc:=List.all_eq_true.1 h _ (vS hl);unfold GD at hc;split at hc
 ·rename_i i hi;split at hc
  ·rename_i m hm;replace hc:=s3z hc;obtain ⟨⟨h1,h2⟩,h3⟩:=hc;split at h2
   ·rename_i g hg;have hgf:=Nat.eq_of_beq_eq_true h2;subst hgf;split at h3
    ·rename_i fs hu;obtain ⟨n,hn⟩:∃n,P.types.size+Made.depth=n+1:=⟨P.types.size+99,by simp[Made.depth]⟩;have hp:m.path.toList=[]:=by simpa using h1
     rw[hn];simp only at hi hm hu;constructor
     ·simp[method,typeInfo,hi,hm,hp,hg,follow,receiverAt,run_underlying hu,Place.get]
     ·simp[nilAhead,typeInfo,hi,hm,hp,hg,followBlind,run_underlying hu]
    ·cases h3
   ·cases h2
  ·cases hc
 ·cases hc
inductive Tr (α:Type) where
 | lf (x:α)
 | nd (l r:Tr α)
def Tr.get {α:Type}:Tr α→Nat→α
 | .lf x,_=>x
 | .nd l r,n=>match n%2 with
  | 0=>l.get (n / 2)
  | _=>r.get (n / 2)
def Tr.at {α:Type}(t:Tr α)(d:α)(n:Nat)(i:Nat):α:=match Nat.blt i n with
 | true=>t.get i
 | false=>d
theorem Tr.at_out {α:Type}{t:Tr α}{d:α}{n i:Nat}(h:n≤i):t.at d n i=d:=by
 unfold Tr.at;split
 ·rename_i hb;rw[Nat.blt_eq]at hb;omega
 ·rfl
theorem K3 {P:Program}{C:Cfg}{n m:Nat}{tt:Tr TI}{ft:Tr (Option Func)}(hu:(List.range n).all (fun t=>J8 P C t&&J9 P C t)=true)(ht:C.ti=tt.at default n)(hf:C.fns=ft.at none m)
  (hfn:∀f,f<m→∀fn,ft.get f=some fn→P.funcs[f]?=some fn∧(fn.name == "runtime.NumGoroutine")=false)
  (hm:∀t name f,C.FI t name=some f→∀(v:Value) (w:World),(method (P.types.size+Made.depth) t v name).run P w=.ok (f,v) w∧(nilAhead (P.types.size+Made.depth) t v name).run P w=.ok (some false) w)
  (hx:P.follows .mixedOrders=true):Good P C:=by
 refine ⟨fun t=>?_,fun f fn h=>?_,hm,hx⟩
 ·by_cases htn:t<n
  ·have:=List.all_eq_true.1 hu t (List.mem_range.2 htn);replace this:=s3z this;exact PO this.1 this.2
  ·have h:C.ut t=.other:=by show (C.ti t).und=.other;rw[ht,Tr.at_out (Nat.le_of_not_lt htn)];rfl
   refine ⟨by rw[h];trivial,fun hk=>?_⟩;rw[h]at hk;cases hk
 ·rw[hf]at h;unfold Tr.at at h;split at h
  ·rename_i hb;rw[Nat.blt_eq]at hb;exact hfn f hb fn h
  ·cases h
section
variable {P:Program}{C:Cfg}{G:Nat→AV}{B:Nat}{h:c6}{φ:Map}{w:World}
def qF:AV→Option AV
 | .j4=>some (.vec 0 [])
 | .any=>some .any
 | .bool b=>some (.bool b)
 | .int k i=>some (.int k i)
 | .str s=>some (.str s)
 | .lV=>some .lV
 | .pU=>some .pU
 | .tJ=>some .tJ
 | .vec m cs=>some (.vec m cs)
 | .lT cs o=>some (.lT cs o)
 | _=>none
theorem GG {v:Value}{x y:AV}(hx:qF x=some y)(r:Rel h φ w v x):PRel w (eQ h φ w) v y:=by
 cases x;case j4=>
  replace hx:=s4z hx;subst hx;cases r.eK;exact .yE _ _
 case any=>replace hx:=s4z hx;subst hx;exact .any _
 case bool b=>replace hx:=s4z hx;subst hx;cases r.bP;exact .bool _
 case int k m=>replace hx:=s4z hx;subst hx;cases r.z5;exact .int _ _
 case str s=>replace hx:=s4z hx;subst hx;cases r.eX;exact .str _
 case lV=>replace hx:=s4z hx;subst hx;cases r.zP;exact .lV
 case pU=>replace hx:=s4z hx;subst hx;cases r with | pure hp=>exact hp
 case tJ=>replace hx:=s4z hx;subst hx;cases r with | pure hp=>exact hp
 case vec m cs=>replace hx:=s4z hx;subst hx;exact r.nH
 case lT cs o=>replace hx:=s4z hx;subst hx;exact r.oA
 all_goals simp[qF]at hx
def DQ (β g off len:Nat)(cs:List AV):List AV→List AV→Prop
 | [],[]=>True
 | y::ys,x::xs=>(y=x∨(x=.own β g off len∧y=.vec len cs))∧DQ β g off len cs ys xs
 | _,_=>False
theorem DQ.get {β g off len:Nat}{cs:List AV}:∀{ys xs:List AV},DQ β g off len cs ys xs→ys.length=xs.length∧∀(j:Nat) (y x:AV),ys[j]?=some y→xs[j]?=some x→y=x∨(x=.own β g off len∧y=.vec len cs)
 | [],[],_=>⟨rfl,fun j y x h=>by simp at h⟩
 | y::ys,x::xs,h=>by
  obtain ⟨h1,h2⟩:=h;obtain ⟨k1,k2⟩:=DQ.get h2;refine ⟨by simp[k1],fun j u v hu hv=>?_⟩
  match j with
  | 0=>simp at hu hv;subst hu hv;exact h1
  | j+1=>exact k2 j u v t149 t158
 | [],_::_,h=>h.elim
 | _::_,[],h=>h.elim
theorem o4.u9 {ops:Array Oper}{o:Oper}{rest:List Oper}{st:St}{Q:St→Prop}{c:Call}{f:FuncId}{args:List AV}{x:AV}{H:c6}(hw:aX ops st.sl o=some true)(ho:o.op=.call c)(ht:aH C (rho C st.sl) c=some (f,args))(hb:p9 C f=true)
  (hc:CallA P C f args st.h fun y h'=>y=x∧h'=H) (hk:o4 P C ops rest ⟨eY st.sl o.dst x,H⟩ Q):o4 P C ops (o::rest) st Q:=
 .call hw ho ht hb (hc.mono fun _ _ ⟨h1,h2⟩=>by rw[h1,h2];exact hk)
end
section
variable {P:Program}{C:Cfg}{G:Nat→AV}{B:Nat}{h:c6}{φ:Map}{w:World}
theorem Refs.mono {n m:Nat}(hnm:n≤m){x:AV}(r:Refs n x):Refs m x:=by
 induction r with
 | any=>exact .any
 | bool b=>exact .bool b
 | int k i=>exact .int k i
 | str s=>exact .str s
 | lV=>exact .lV
 | j4=>exact .j4
 | pU=>exact .pU
 | tJ=>exact .tJ
 | vec m cs=>exact .vec m cs
 | lT cs o=>exact .lT cs o
 | ptr β g off hb=>exact .ptr β g off (by omega)
 | own β g off len hb=>exact .own β g off len (by omega)
 | fn f a c _ _ iha ihc=>exact .fn f a c iha ihc
 | iface t v _ ih=>exact .iface t v ih
 | agg xs _ ih=>exact .agg xs ih
 | tup xs _ ih=>exact .tup xs ih
theorem Y4 (hb l1 l2:c6):(hb++(l1++l2)).take (hb.length+l1.length)=hb++l1:=by rw[←List.append_assoc,←List.length_append,List.take_left]
def iW (n:Nat):List AV→Prop
 | []=>True
 | x::xs=>Refs n x∧iW n xs
theorem iW.get {n:Nat}:∀{xs:List AV},iW n xs→∀x∈xs,Refs n x
 | [],_,x,hx=>by simp at hx
 | y::ys,h,x,hx=>by
  rcases List.mem_cons.1 hx with rfl | hx
  ·exact h.1
  ·exact iW.get h.2 x hx
def DR (n:Nat):List AV→List AV→Prop
 | [],[]=>True
 | x::xs,y::ys=>(x=y∨(y=.j4∧x=.own n 0 0 0))∧DR n xs ys
 | _,_=>False
theorem DR.get {n:Nat}:∀{xs ys:List AV},DR n xs ys→xs.length=ys.length∧∀t,xs.getD t .any=ys.getD t .any∨(ys.getD t .any=.j4∧xs.getD t .any=.own n 0 0 0)
 | [],[],_=>⟨rfl,fun t=>.inl rfl⟩
 | x::xs,y::ys,h=>by
  obtain ⟨h1,h2⟩:=h;obtain ⟨k1,k2⟩:=DR.get h2;refine ⟨by simp[k1],fun t=>?_⟩
  match t with
  | 0=>simpa using h1
  | t+1=>simpa using k2 t
 | [],_::_,h=>h.elim
 | _::_,[],h=>h.elim
theorem c9.virtual {c:Code}{sl:List AV}{Q:Exit→St→Prop}(sl':List AV)(hs:DR h.length sl' sl)(r:c9 P C c ⟨sl',h++[⟨0,true,0,0,[],0⟩]⟩ Q):c9 P C c ⟨sl,h⟩ Q:=by
 intro B φ w a i s;obtain ⟨i',ev⟩:=pW i;obtain ⟨k1,k2⟩:=hs.get;refine wp_mono (r B φ w a i' ⟨by rw[k1];exact s.size,fun t=>?_,s.nI⟩) fun e a2 w2 ⟨st',φ',q1,q2,q3,q4⟩=>⟨st',φ',q1,ev.trans q2,q3,q4⟩;show Rel _ φ w _ (sl'.getD t .any);rcases k2 t with e | ⟨e1,e2⟩
 ·rw[e];exact ev.rel (s.rel t)
 ·rw[e2];have hr:=s.rel t;have hr':Rel h φ w (a.tmps.getD t undef) .j4:=by rw[←e1];exact hr
  rw[hr'.eK];refine .own h.length 0 0 0 0 none ⟨0,true,0,0,[],0⟩ (by simp) (Nat.le_refl _) (Nat.le_refl _) (Nat.zero_le _) (fun h=>by omega) (fun _ _=>⟨rfl,rfl⟩) (fun _ h=>by cases h)
end
section
variable {P:Program}{C:Cfg}{G:Nat→AV}{B:Nat}{h:c6}{φ φ':Map}{w w':World}
def laid (h:c6)(β:Nat)(b blk:Blk):c6:=h.set β { blk with gen:=b.gen+1 }
def bI (h:c6)(φ':Map)(β:Nat):Map:=fun γ=>if γ=β then φ' h.length else φ' γ
variable {β:Nat}{b blk:Blk}
theorem iN (hb:h[β]?=some b){γ:Nat}{c:Blk}(hc:(laid h β b blk)[γ]?=some c):(γ≠β∧h[γ]?=some c)∨(γ=β∧c={ blk with gen:=b.gen+1 }):=by
 have hl:=(List.getElem?_eq_some_iff.1 hb).1;unfold laid at hc;by_cases e:γ=β
 ·subst e;rw[List.getElem?_set_self hl]at hc;exact .inr ⟨rfl,(Option.some.inj hc).symm⟩
 ·rw[List.getElem?_set_ne (Ne.symm e)]at hc;exact .inl ⟨e,hc⟩
theorem iJ {γ:Nat}{c:Blk}(hc:h[γ]?=some c):(h++[blk])[γ]?=some c:=by rw[List.getElem?_append_left (List.getElem?_eq_some_iff.1 hc).1];exact hc
theorem GI (hb:h[β]?=some b)(hv:blk.cQ=false){k:Nat}(hk:X6 (h++[blk]) φ' w' k):X6 (laid h β b blk) (bI h φ' β) w' k:=by
 refine ⟨hk.1,fun γ c hc hcv=>?_⟩;rcases iN hb hc with ⟨e,hc'⟩ | ⟨rfl,rfl⟩
 ·simp only[bI,e,if_false];exact hk.2 γ c (iJ hc') hcv
 ·simp only[bI,if_true];exact hk.2 h.length blk (by simp) hv
theorem pH (hb:h[β]?=some b)(hv:blk.cQ=false){k j:Nat}(hk:eQ (h++[blk]) φ' w' k j):eQ (laid h β b blk) (bI h φ' β) w' k j:=by
 refine ⟨hk.1,fun γ c hc hcv=>?_⟩;rcases iN hb hc with ⟨e,hc'⟩ | ⟨rfl,rfl⟩
 ·simp only[bI,e,if_false];exact hk.2 γ c (iJ hc') hcv
 ·simp only[bI,if_true];exact hk.2 h.length blk (by simp) hv
theorem Y5 (hb:h[β]?=some b)(hbv:b.cQ=true)(hv:blk.cQ=false){v:Value}{x:AV}(r:Rel (h++[blk]) φ' w' v x):Refs h.length x→Rel (laid h β b blk) (bI h φ' β) w' v x:=by
 have hl:=(List.getElem?_eq_some_iff.1 hb).1;have at_:(laid h β b blk)[β]?=some { blk with gen:=b.gen+1 }:=by unfold laid;rw[List.getElem?_set_self hl]
 have ne_:∀{γ:Nat} {c:Blk},γ≠β→γ<h.length→(h++[blk])[γ]?=some c→(laid h β b blk)[γ]?=some c:=by intro γ c e hγ hc;unfold laid;rw[List.getElem?_set_ne (Ne.symm e)];rw[List.getElem?_append_left hγ]at hc;exact hc
 induction r with
 | pure hp=>exact fun _=>.pure (hp.mono fun k j hk=>⟨rfl,pH hb hv hk⟩)
 | ptr γ g off bl c hc hg hcv=>
  intro hx;have hγ:γ<h.length:=by cases hx;assumption
  by_cases e:γ=β
  ·subst e;have hcb:c=b:=by rw[List.getElem?_append_left hγ,hb]at hc;exact (Option.some.inj hc).symm
   subst hcb;exact .ptr γ g off bl _ at_ t101 (fun he=>by simp only at he;omega)
  ·exact .ptr γ g off bl c (ne_ e hγ hc) hg (fun h1 h2=>by simp only[bI,e,if_false];exact hcv h1 h2)
 | own γ g off len cap ad c hc hg hlc hcm had hn hcv=>
  intro hx;have hγ:γ<h.length:=by cases hx;assumption
  by_cases e:γ=β
  ·subst e;have hcb:c=b:=by rw[List.getElem?_append_left hγ,hb]at hc;exact (Option.some.inj hc).symm
   subst hcb;exact .own γ g off len cap ad _ at_ t101 hlc hcm had (fun he=>by simp only at he;omega) (fun he=>by simp only at he;omega)
  ·exact .own γ g off len cap ad c (ne_ e hγ hc) hg hlc hcm had hn (fun h1 h2=>by simp only[bI,e,if_false];exact hcv h1 h2)
 | fn f a c xs ys ha hc _ _ iha ihc=>
  intro hx;cases hx with
  | fn _ _ _ h1 h2=>exact .fn f a c xs ys ha hc (fun j v x k1 k2=>iha j v x k1 k2 (h1 x (List.mem_of_getElem? k2))) (fun j v x k1 k2=>ihc j v x k1 k2 (h2 x (List.mem_of_getElem? k2)))
 | iface t v x _ ih=>
  intro hx;cases hx with
  | iface _ _ h1=>exact .iface t v x (ih h1)
 | agg a xs ha h1 _ ih=>
  intro hx;cases hx with
  | agg _ h2=>exact .agg a xs ha h1 fun j v x k1 k2=>ih j v x k1 k2 (h2 x (List.mem_of_getElem? k2))
 | tup a xs ha _ ih=>
  intro hx;cases hx with
  | tup _ h2=>exact .tup a xs ha fun j v x k1 k2=>ih j v x k1 k2 (h2 x (List.mem_of_getElem? k2))
theorem PV (i0:Pic G B h φ w)(i:Pic G B (h++[blk]) φ' w')(e:Ev h φ w (h++[blk]) φ' w')(hb:h[β]?=some b)(hbv:b.cQ=true)(hv:blk.cQ=false)(hc:∀x∈blk.cells,Refs h.length x) :
  Pic G B (laid h β b blk) (bI h φ' β) w'∧Ev h φ w (laid h β b blk) (bI h φ' β) w':=by
 have hnew:(h++[blk])[h.length]?=some blk:=by simp
 have ev:Ev h φ w (laid h β b blk) (bI h φ' β) w':=by
  refine ⟨e.os,e.tape,e.output,e.size,fun k hk=>⟨(e.lU k hk).1,GI hb hv (e.lU k hk).2⟩,fun k j hk=>⟨(e.cells k j hk).1,pH hb hv (e.cells k j hk).2⟩,by simp[laid],fun γ c c' h1 h2=>?_⟩;rcases iN hb h2 with ⟨hne,h2'⟩ | ⟨rfl,rfl⟩
  ·rw[h1]at h2';cases h2';have:=e.Gs γ c c h1 (iJ h1);refine ⟨Nat.le_refl _,fun _=>⟨?_,rfl,rfl⟩⟩;simp only[bI,hne,if_false];exact (this.2 rfl).1
  ·rw[hb]at h1;cases h1;exact ⟨t101,fun he=>by simp only at he;omega⟩
 refine ⟨⟨fun γ c hγ hcv=>?_,fun γ γ' c c' h1 h2 v1 v2 he=>?_,fun γ c hγ hcv=>?_,fun γ c hγ hcv=>?_,i.room,fun g=>(i.eJ g).mono fun k j hk=>⟨rfl,pH hb hv hk⟩⟩,ev⟩
 ·rcases iN hb hγ with ⟨hne,hγ'⟩ | ⟨rfl,rfl⟩
  ·obtain ⟨cur0,_,_,k3,k4⟩:=i0.blk γ c hγ' hcv;obtain ⟨cur,q1,q2,q3,q4⟩:=i.blk γ c (iJ hγ') hcv;simp only[bI,hne,if_false];refine ⟨cur,q1,q2,q3,fun j v x a1 a2=>⟨(q4 j v x a1 a2).1,?_⟩⟩;have hj:j<cur0.size:=Nat.lt_of_lt_of_le (List.getElem?_eq_some_iff.1 a2).1 k3;exact Y5 hb hbv hv (q4 j v x a1 a2).2 (Refs.GC (k4 j cur0[j] x (Array.getElem?_eq_getElem hj) a2).2)
  ·obtain ⟨cur,q1,q2,q3,q4⟩:=i.blk h.length blk hnew hv;simp only[bI,if_true];exact ⟨cur,q1,q2,q3,fun j v x a1 a2=>⟨(q4 j v x a1 a2).1,Y5 hb hbv hv (q4 j v x a1 a2).2 (hc x (List.mem_of_getElem? a2))⟩⟩
 ·rcases iN hb h1 with ⟨n1,k1⟩ | ⟨rfl,rfl⟩<;>rcases iN hb h2 with ⟨n2,k2⟩ | ⟨rfl,rfl⟩
  ·simp only[bI,n1,n2,if_false]at he;exact i.inj γ γ' c c' (iJ k1) (iJ k2) v1 v2 he
  ·simp only[bI,n1,if_false,if_true]at he;have:=i.inj γ h.length c blk (iJ k1) hnew v1 hv he;have:=(List.getElem?_eq_some_iff.1 k1).1;omega
  ·simp only[bI,n2,if_false,if_true]at he;have:=i.inj h.length γ' blk c' hnew (iJ k2) hv v2 he;have:=(List.getElem?_eq_some_iff.1 k2).1;omega
  ·rfl
 ·rcases iN hb hγ with ⟨hne,hγ'⟩ | ⟨rfl,rfl⟩
  ·simp only[bI,hne,if_false];exact i.base γ c (iJ hγ') hcv
  ·simp only[bI,if_true];exact i.base h.length blk hnew hv
 ·rcases iN hb hγ with ⟨hne,hγ'⟩ | ⟨rfl,rfl⟩
  ·exact i.cQ γ c (iJ hγ') hcv
  ·simp only at hcv;rw[hv]at hcv;cases hcv
def mkA (C:Cfg)(ρ:Operand→AV)(o:Op):Option (Bool×Nat×Blk):=
 match o with
 | .alloc t=>match C.cQ t with
  | []=>if (C.ut t).known=true∧(C.ti t).zero.length=C.sz t then some (true,0,⟨0,false,t,C.sz t,(C.ti t).zero,0⟩) else none
  | _=>none
 | .box t x=>match C.cQ t with
  | []=>if (ρ x).storable=true∧(ρ x).cellsOf.length=C.sz t then some (true,0,⟨0,false,t,C.sz t,(ρ x).cellsOf,0⟩) else none
  | _=>none
 | .buildSlice t len parts=>match C.ut t with
  | .slice e=>if len*C.sz e≤16777216∧0<C.sz e then (match yC (fun i=>if i<len then some (i*C.sz e,C.sz e) else none) ((List.replicate len (C.ti e).zero).flatten) (parts.toList.map fun p=>(p.1,ρ p.2)) with
    | some cells=>if cells.length=len*C.sz e∧len≤maxLen then some (false,len,⟨0,false,e,C.sz e,cells,0⟩) else none
    | none=>none) else none
  | _=>none
 | .makeSlice t l c=>match C.ut t,ρ l,ρ c with
  | .slice e,.int _ n,.int _ m=>if n=m∧0≤n∧(C.ti e).bytes*n≤281474976710656∧n≤(maxLen:Int)∧0<C.sz e∧(C.ti e).zero.length=C.sz e then
    some (false,n.toNat,⟨0,false,e,C.sz e,(List.replicate n.toNat (C.ti e).zero).flatten,0⟩) else none
  | _,_,_=>none
 | _=>none
theorem GJ {ρ:Operand→AV}{o:Op}{p:Bool}{n:Nat}(hm:mkA C ρ o=some (p,n,blk)):nZ C ρ h o=some (if p then .ptr h.length 0 0 else .own h.length 0 0 n,h++[blk])∧blk.cQ=false∧blk.gen=0:=by
 unfold mkA at hm;split at hm
 ·rename_i t;split at hm
  ·rename_i hv;split at hm
   ·rename_i hc;cases hm;simp only[nZ,hc.1,if_true,pC,hc.2,hv,zO,and_self]
   ·cases hm
  ·cases hm
 ·rename_i t x;split at hm
  ·rename_i hv;split at hm
   ·rename_i hc;cases hm;simp only[nZ,hc.1,if_true,pC,hc.2,hv,zO,and_self]
   ·cases hm
  ·cases hm
 ·rename_i t len parts;split at hm
  ·rename_i e hu;split at hm
   ·rename_i hc;split at hm
    ·rename_i cells hf;split at hm
     ·rename_i hl;cases hm;refine ⟨?_,rfl,rfl⟩;simp only[nZ,hu,if_pos hc,hf,if_pos hl,Bool.false_eq_true,if_false]
     ·cases hm
    ·cases hm
   ·cases hm
  ·cases hm
 ·rename_i t l c;split at hm
  ·rename_i e k n k' m hu hl hc;split at hm
   ·rename_i hb;cases hm;refine ⟨?_,rfl,rfl⟩;simp only[nZ,hu,hl,hc,if_pos hb,Bool.false_eq_true,if_false]
   ·cases hm
  ·cases hm
 ·cases hm
def atA (C:Cfg)(ρ:Operand→AV)(h:c6)(β:Nat)(o:Op):Option (AV×c6):=
 match h[β]? with
 | some b=>match b.cQ with
  | true=>match mkA C ρ o with
   | some (p,n,blk)=>match blk.cells.all (aF h.length 4) with
    | true=>some (if p then .ptr β (b.gen+1) 0 else .own β (b.gen+1) 0 n,laid h β b blk)
    | false=>none
   | none=>none
  | false=>none
 | none=>none
theorem eC {n:Nat}:∀(d:Nat) (x:AV),aF n d x=true→Refs n x
 | 0,x,hx=>by simp[aF]at hx
 | d+1,x,hx=>by
  cases x with
  | ptr β g off=>simp only[aF,decide_eq_true_eq]at hx;exact .ptr _ _ _ hx
  | own β g off l=>simp only[aF,decide_eq_true_eq]at hx;exact .own _ _ _ _ hx
  | fn f a c=>
   simp only[aF,Bool.and_eq_true]at hx;exact .fn f _ _ (fun y hy=>eC d y (List.all_eq_true.1 hx.1 y hy)) (fun y hy=>eC d y (List.all_eq_true.1 hx.2 y hy))
  | iface t v=>exact .iface t _ (eC d v (by simpa [aF] using hx))
  | agg xs=>exact .agg _ fun y hy=>eC d y (List.all_eq_true.1 (by simpa only[aF] using hx) y hy)
  | tup xs=>exact .tup _ fun y hy=>eC d y (List.all_eq_true.1 (by simpa only[aF] using hx) y hy)
  | any=>exact .any
  | bool b=>exact .bool _
  | int k n=>exact .int _ _
  | str s=>exact .str _
  | lV=>exact .lV
  | j4=>exact .j4
  | pU=>exact .pU
  | tJ=>exact .tJ
  | vec n cs=>exact .vec _ _
  | lT cs o=>exact .lT _ _
theorem atA_ok (i:Pic G B h φ w)(g:Good P C){ρc:Operand→Value}{ρ:Operand→AV}(hρ:∀x,Rel h φ w (ρc x) (ρ x)){o:Oper}{y:AV}{h2:c6}(he:atA C ρ h β o.op=some (y,h2)):OkX P G B h φ w (execOp ρc o) y h2:=by
 unfold atA at he;split at he
 ·rename_i b hb;split at he
  ·rename_i hbv;split at he
   ·rename_i p n blk hm;split at he
    ·rename_i hcells;cases he;obtain ⟨hf,hv,hgen⟩:=GJ (h:=h) hm;obtain ⟨nx,v,w',φ',q1,q2,q3,q4,q5⟩:=FY i g hρ hf;obtain ⟨m1,m2⟩:=PV i q3 q4 hb hbv hv (fun z hz=>eC 4 z (List.all_eq_true.1 hcells z hz));have hl:=(List.getElem?_eq_some_iff.1 hb).1;have at_:(laid h β b blk)[β]?=some { blk with gen:=b.gen+1 }:=by unfold laid;rw[List.getElem?_set_self hl]
     have hnew:(h++[blk])[h.length]?=some blk:=by simp
     cases p with
     | true=>
      rw[if_pos rfl]at q5;rw[if_pos rfl];obtain ⟨bl,c,rfl,hc,hg2,hcv⟩:=q5.rT;rw[hnew]at hc;cases hc;refine ⟨nx,_,w',bI h φ' β,q1,q2,m1,m2,.ptr β _ 0 bl _ at_ (Nat.le_refl _) (fun _ _=>?_)⟩;simp only[bI,if_true];exact hcv hgen.symm hv
     | false=>
      rw[if_neg (by decide)]at q5;rw[if_neg (by decide)];obtain ⟨ad,cap,c,rfl,hc,hg2,hlc,hcm,had,hn,hcv⟩:=q5.jV;rw[hnew]at hc;cases hc;refine ⟨nx,_,w',bI h φ' β,q1,q2,m1,m2,.own β _ 0 _ cap ad _ at_ (Nat.le_refl _) hlc hcm had (fun _ h0=>by simp only at h0;rw[hv]at h0;cases h0) (fun _ _=>?_)⟩;simp only[bI,if_true];have hq:=hcv hgen.symm hv;exact ⟨hq.1,fun _=>hq.2 rfl⟩
    ·cases he
   ·cases he
  ·cases he
 ·cases he
end
section
variable {P:Program}{C:Cfg}
def eI.R4 (p:eI)(M:List Nat)(ops:Array Oper):Bool:=
 (List.range ops.size).all fun i=>p.isE i||M.contains i||(List.range (p.gX ops.size+1)).all fun k=>k==p.gX i||! p.meets ops.size i k
def gJ (P:Program)(C:Cfg)(ops:Array Oper)(p:eI)(M:List Nat):List Oper→Nat→St→List c6→List (Nat×(c6→Prop))→(St→Prop)→Prop
 | [],_,st,hs,pend,Q=>(∀x∈pend,∀k,k<hs.length→p.meets ops.size x.1 k=true→x.2 (hs.reverse.getD k []))∧Q st
 | o::rest,i,st,hs,pend,Q=>
  (aX ops st.sl o=some true∧∃x h',OpA P C (rho C st.sl) st.h o.op (fun y h=>y=x∧h=h')∧(p.isE i=false→h'=st.h)∧
   gJ P C ops p M rest (i+1) ⟨eY st.sl o.dst x,h'⟩ (match p.isE i with | true=>h'::hs | false=>hs)
    (match M.contains i with | true=>(i,fun H=>OpA P C (rho C st.sl) H o.op (fun y h=>y=x∧h=H))::pend | false=>pend) Q)∨
  (aX ops st.sl o=some false∧p.isE i=false∧gJ P C ops p M rest (i+1) ⟨eY st.sl o.dst (.tup []),st.h⟩ hs pend Q)
theorem jJ {ops:Array Oper}{p:eI}{M:List Nat}(hs:p.R4 M ops=true){Q:St→Prop}:∀(l:List Oper) (i:Nat) (st:St) (H:List c6) (pend pm:List (Nat×(c6→Prop))),i+l.length=ops.size→gJ P C ops p M l i st H pm Q→
  H.headD []=st.h→H.length=p.gX i+1→
  (∀x∈pend,(x.1<i∧p.isE x.1=false∧M.contains x.1=false∧x.2 (H.reverse.getD (p.gX x.1) []))∨(∃y∈pm,y.1=x.1∧∀K,y.2 K→x.2 K))→J4 P C ops p l i st.sl H pend Q
 | [],i,st,H,pend,pm,hi,r,hh,hl,hp=>by
  obtain ⟨r1,r2⟩:=r;refine ⟨fun x hx k hk hm=>?_,?_⟩
  ·rcases hp x hx with ⟨h1,h2,h4,h3⟩ | ⟨y,hy,he,hi'⟩
   ·have hi':i=ops.size:=by simpa using hi
    have:=List.all_eq_true.1 hs x.1 (List.mem_range.2 (by omega));rw[h2,h4,Bool.false_or,Bool.false_or]at this;have:=List.all_eq_true.1 this k (List.mem_range.2 (by rw[←hi',←hl];exact hk));rw[hm]at this;simp at this;rw[this];exact h3
   ·exact hi' _ (r1 y hy k hk (by rw[he];exact hm))
  ·obtain ⟨sl,h⟩:=st;simp only at hh;rw[hh];exact r2
 | o::rest,i,st,H,pend,pm,hi,r,hh,hl,hp=>by
  have hrest:i+1+rest.length=ops.size:=by rw[←hi];simp;omega
  have hgt:∀j,j<i→p.gX j<H.length:=fun j hj=>by have:=vM p (Nat.le_of_lt hj);omega
  have hcur:H.reverse.getD (p.gX i) []=st.h:=by
   rw[←hh];cases H with
   | nil=>simp at hl
   | cons x H=>
    simp at hl;rw[List.getD_eq_getElem?_getD,List.reverse_cons,List.getElem?_append_right t65];simp[hl]
  have grow:∀{pm':List (Nat×(c6→Prop))},(∀y∈pm,y∈pm')→∀h',∀x∈pend,(x.1<i+1∧p.isE x.1=false∧M.contains x.1=false∧x.2 ((h'::H).reverse.getD (p.gX x.1) []))∨(∃y∈pm',y.1=x.1∧∀K,y.2 K→x.2 K):=by
   intro pm' hpm h' x hx;rcases hp x hx with ⟨k1,k2,k4,k3⟩ | ⟨y,hy,he,hk⟩
   ·exact .inl ⟨by omega,k2,k4,by rw[Y3 _ (hgt _ k1)];exact k3⟩
   ·exact .inr ⟨y,hpm y hy,he,hk⟩
  have lU:∀{pm':List (Nat×(c6→Prop))},(∀y∈pm,y∈pm')→∀x∈pend,(x.1<i+1∧p.isE x.1=false∧M.contains x.1=false∧x.2 (H.reverse.getD (p.gX x.1) []))∨(∃y∈pm',y.1=x.1∧∀K,y.2 K→x.2 K):=by
   intro pm' hpm x hx;rcases hp x hx with ⟨k1,k2,k4,k3⟩ | ⟨y,hy,he,hk⟩
   ·exact .inl ⟨by omega,k2,k4,k3⟩
   ·exact .inr ⟨y,hpm y hy,he,hk⟩
  rcases r with ⟨h1,x,h',h2,h3,h4⟩ | ⟨h1,h2,h4⟩
  ·have h2':=OpA.congr (vR (ops:=ops)) h2;cases hE:p.isE i with
   | true=>
    rw[hE]at h4;refine .inl ⟨h1,hE,x,h',?_,jJ hs rest (i+1) _ (h'::H) pend _ hrest h4 rfl t210 (grow (fun y hy=>?_) h')⟩
    ·rw[hh];exact h2'
    ·cases M.contains i with
     | true=>exact List.mem_cons_of_mem _ hy
     | false=>exact hy
   | false=>
    rw[hE]at h4;have he:=h3 hE;subst he;refine .inr (.inr (.inl ⟨h1,hE,x,jJ hs rest (i+1) ⟨eY st.sl o.dst x,st.h⟩ H _ _ hrest h4 hh t210 fun y hy=>?_⟩));cases hM:M.contains i with
    | true=>
     rcases List.mem_cons.1 hy with rfl | hy
     ·exact .inr ⟨_,List.mem_cons_self,rfl,fun K hK=>OpA.congr (vR (ops:=ops)) hK⟩
     ·exact lU (fun z hz=>List.mem_cons_of_mem _ hz) y hy
    | false=>
     rcases List.mem_cons.1 hy with rfl | hy
     ·refine .inl ⟨by simp,hE,hM,?_⟩;show OpA P C _ (H.reverse.getD (p.gX i) []) o.op _;rw[hcur];exact h2'
     ·exact lU (fun z hz=>hz) y hy
  ·exact .inr (.inr (.inr ⟨h1,h2,jJ hs rest (i+1) ⟨eY st.sl o.dst (.tup []),st.h⟩ H pend pm hrest h4 hh t162 (lU fun _ hy=>hy)⟩))
variable {ops:Array Oper}
theorem c9.lX (g:Good P C){id:Nat}{st:St}{Q:Exit→St→Prop}(p:eI)(M:List Nat)(hp:p.ok ops st.sl.length=true)(hs:p.R4 M ops=true)(r:gJ P C ops p M ops.toList 0 st [st.h] [] fun st'=>Q .normal st'):c9 P C (.region id ops true) st Q:=
 c9.draw g p hp (jJ hs ops.toList 0 st [st.h] [] [] (by simp) r rfl (by simp[eI.gX]) (by simp))
abbrev Pd:=Nat×Op×List AV×AV
def mT (P:Program)(C:Cfg)(q:Pd):Nat×(c6→Prop):=(q.1,fun H=>OpA P C (rho C q.2.2.1) H q.2.1 (fun y h=>y=q.2.2.2∧h=H))
def GK (C:Cfg)(q:Pd):List c6→Prop
 | []=>True
 | H::hs=>v8 C (rho C q.2.2.1) H q.2.1=some (q.2.2.2,H)∧GK C q hs
def PW (C:Cfg)(hs:List c6):List Pd→Prop
 | []=>True
 | q::pd=>GK C q hs∧PW C hs pd
theorem K4 {q:Pd}:∀{hs:List c6},GK C q hs→∀H∈hs,v8 C (rho C q.2.2.1) H q.2.1=some (q.2.2.2,H)
 | [],_,H,h=>by simp at h
 | K::hs,h,H,hm=>by
  rcases List.mem_cons.1 hm with rfl | hm
  ·exact h.1
  ·exact K4 h.2 H hm
theorem K5 {hs:List c6}:∀{pd:List Pd},PW C hs pd→∀q∈pd,GK C q hs
 | [],_,q,h=>by simp at h
 | r::pd,h,q,hm=>by
  rcases List.mem_cons.1 hm with rfl | hm
  ·exact h.1
  ·exact K5 h.2 q hm
def K6 (C:Cfg)(ops:Array Oper)(p:eI)(M:List Nat):List Oper→Nat→St→List c6→List Pd→Option (St×List c6×List Pd)
 | [],_,st,hs,pd=>some (st,hs,pd)
 | o::rest,i,st,hs,pd=>match aX ops st.sl o with
  | some true=>match DP C (p.isE i) (rho C st.sl) st.h o.op with
   | some (x,h')=>K6 C ops p M rest (i+1) ⟨eY st.sl o.dst x,h'⟩ (match p.isE i with | true=>h'::hs | false=>hs) (match M.contains i with | true=>(i,o.op,st.sl,x)::pd | false=>pd)
   | none=>none
  | some false=>match p.isE i with
   | true=>none
   | false=>K6 C ops p M rest (i+1) ⟨eY st.sl o.dst (.tup []),st.h⟩ hs pd
  | none=>none
theorem gJ.pre {ops:Array Oper}{p:eI}{M:List Nat}{l:List Oper}{i:Nat}{st st':St}{hs hs':List c6}{pd pd':List Pd}{Q:St→Prop}(k:Nat)(h:K6 C ops p M (l.take k) i st hs pd=some (st',hs',pd'))
  (hk:gJ P C ops p M (l.drop k) (i+(l.take k).length) st' hs' (pd'.map (mT P C)) Q):gJ P C ops p M l i st hs (pd.map (mT P C)) Q:=by
 have key:∀(l1:List Oper) (i:Nat) (s:St) (hs:List c6) (pd:List Pd),K6 C ops p M l1 i s hs pd=some (st',hs',pd')→gJ P C ops p M (l.drop k) (i+l1.length) st' hs' (pd'.map (mT P C)) Q→gJ P C ops p M (l1++l.drop k) i s hs (pd.map (mT P C)) Q:=by
  intro l1;induction l1 with
  | nil=>
   intro i s hs pd h0 hk;simp only[K6,Option.some.injEq,Prod.mk.injEq]at h0;obtain ⟨rfl,rfl,rfl⟩:=h0;exact hk
  | cons o l1 ih=>
   intro i s hs pd h0 hk;have hk':gJ P C ops p M (l.drop k) (i+1+l1.length) st' hs' (pd'.map (mT P C)) Q:=by rw[show i+1+l1.length=i+(o::l1).length from by simp;omega];exact hk
   simp only[K6]at h0;split at h0
   ·rename_i hw;split at h0
    ·rename_i x h' hp;have hpd:(match M.contains i with | true=>(mT P C (i,o.op,s.sl,x))::pd.map (mT P C) | false=>pd.map (mT P C))=(match M.contains i with | true=>(i,o.op,s.sl,x)::pd | false=>pd).map (mT P C):=by cases M.contains i<;>rfl
     have hop:OpA P C (rho C s.sl) s.h o.op (fun y h=>y=x∧h=h')∧(p.isE i=false→h'=s.h):=by
      cases hE:p.isE i with
      | true=>
       rw[hE]at hp;exact ⟨.plain hp ⟨rfl,rfl⟩,fun h=>by cases h⟩
      | false=>
       rw[hE]at hp;simp only[DP,Option.map_eq_some_iff,Prod.mk.injEq]at hp;obtain ⟨y,hy,rfl,rfl⟩:=hp;exact ⟨.plain (iM hy) ⟨rfl,rfl⟩,fun _=>rfl⟩
     refine .inl ⟨hw,x,h',hop.1,hop.2,?_⟩;have:=ih _ _ _ _ h0 hk';rw[←hpd]at this;exact this
    ·cases h0
   ·rename_i hw;split at h0
    ·cases h0
    ·rename_i hE;exact .inr ⟨hw,hE,ih _ _ _ _ h0 hk'⟩
   ·cases h0
 rw[←List.take_append_drop k l];exact key _ _ _ _ _ h hk
theorem gJ.nil {p:eI}{M:List Nat}{i:Nat}{st:St}{hs:List c6}{pd:List Pd}{Q:St→Prop}(hp:PW C hs pd)(hq:Q st):gJ P C ops p M [] i st hs (pd.map (mT P C)) Q:=by
 refine ⟨fun x hx k hk _=>?_,hq⟩;obtain ⟨q,hq,rfl⟩:=List.mem_map.1 hx;have hmem:hs.reverse.getD k []∈hs:=by
  have hk':k<hs.reverse.length:=by simpa using hk
  rw[List.getD_eq_getElem?_getD,List.getElem?_eq_getElem hk',Option.getD_some];exact List.mem_reverse.1 (List.getElem_mem hk')
 exact .plain (K4 (K5 hp q hq) _ hmem) ⟨rfl,rfl⟩
end
section
variable {P:Program}{C:Cfg}
structure w7 where
  before:List (List Nat)
  eff:List Bool
  req:List Nat
  ZN:List Nat
  place:List (Option Nat)
  ON:List Nat
  lX:List Nat
def w7.bef (p:w7)(i:Nat):List Nat:=p.before.getD i []
def w7.isE (p:w7)(i:Nat):Bool:=p.eff.getD i false
def w7.fits (p:w7)(i D:Nat):Bool:=Nat.beq (D&&&p.req.getD i 0) (p.req.getD i 0)&&(Nat.beq (D&&&p.ZN.getD i 0) 0&&! D.testBit i)
def w7.ok (p:w7)(ops:Array Oper)(slots:Nat):Bool:=
  (List.range ops.size).all fun i=>match ops[i]? with
    | none=>false
    | some o=>
      o.after.all (fun e=>decide (e.on<i)||! Region.binds .any e) &&
      (p.bef i).all (fun j=>o.after.any fun e=>Region.binds .any e&&(e.on==j||(p.bef e.on).contains j)) &&
      (match o.dst with
       | some d=>decide (d<slots)
       | none=>true) &&
      ((List.range ops.size).all fun j=>j==i||match ops[j]? with
        | none=>false
        | some oj=>
          (match oj.dst with
           | some d=>o.dst != some d&&(!(o.looksAt ops).contains d||(if j<i then (p.bef i).contains j else (p.bef j).contains i))
           | none=>true)) &&
      ((List.range ops.size).all fun j=>(p.req.getD i 0).testBit j==(p.isE j&&(p.bef i).contains j)) &&
      ((List.range ops.size).all fun j=>(p.ZN.getD i 0).testBit j==(p.isE j&&(p.bef j).contains i)) &&
      decide (p.req.getD i 0<2^ops.size)&&decide (p.ZN.getD i 0<2^ops.size)
structure R5 (p:w7)(ops:Array Oper)(slots:Nat):Prop where
  back:∀(i:Nat) (o:Oper),ops[i]?=some o→∀e∈o.after,Region.binds .any e=true→e.on<i
  bef:∀(i:Nat) (o:Oper),ops[i]?=some o→∀j∈p.bef i,∃e∈o.after,Region.binds .any e=true∧(e.on=j∨j∈p.bef e.on)
  fits:∀(i:Nat) (o:Oper) (d:Tmp),ops[i]?=some o→o.dst=some d→d<slots
  apart:∀(i j:Nat) (oi oj:Oper),ops[i]?=some oi→ops[j]?=some oj→i≠j→∀d,oj.dst=some d→oi.dst≠some d
  look:∀(i j:Nat) (oi oj:Oper),ops[i]?=some oi→ops[j]?=some oj→i≠j→∀d,oj.dst=some d→d∈oi.looksAt ops→(j<i∧j∈p.bef i)∨(i<j∧i∈p.bef j)
  req:∀i j,i<ops.size→(p.req.getD i 0).testBit j=true→j<ops.size∧p.isE j=true∧j∈p.bef i
  ZN:∀i j,i<ops.size→(p.ZN.getD i 0).testBit j=true→j<ops.size∧p.isE j=true∧i∈p.bef j
variable {slots:Nat}
theorem w7.spec {p:w7}{ops:Array Oper}(h:p.ok ops slots=true):R5 p ops slots:=by
  have key:∀(i:Nat) (o:Oper),ops[i]?=some o→_:=fun i o ho=>by have h1:=List.all_eq_true.1 h i (List.mem_range.2 (Array.getElem?_eq_some_iff.1 ho).1);simp only[ho,Bool.and_eq_true]at h1;exact h1
  have key2:∀(i j:Nat) (oi oj:Oper),ops[i]?=some oi→ops[j]?=some oj→i≠j→_:=fun i j oi oj hi hj hne=>by have h1:=List.all_eq_true.1 (key i oi hi).1.1.1.1.2 j (List.mem_range.2 (Array.getElem?_eq_some_iff.1 hj).1);simp only[hj,Bool.or_eq_true,beq_iff_eq,Ne.symm hne,false_or]at h1;exact h1
  refine ⟨fun i o ho e he hb=>?_,fun i o ho j hj=>?_,fun i o d ho hd=>?_,fun i j oi oj hi hj hne d hd=>?_,fun i j oi oj hi hj hne d hd hl=>?_,fun i j hi hj=>?_,fun i j hi hj=>?_⟩
  · have h2:=Array.all_eq_true_iff_forall_mem.1 (key i o ho).1.1.1.1.1.1.1 e he
    simp only[Bool.or_eq_true,decide_eq_true_eq,Bool.not_eq_true']at h2;rcases h2 with h2 | h2
    · exact h2
    · rw[hb]at h2;cases h2
  · have h2:=List.all_eq_true.1 (key i o ho).1.1.1.1.1.1.2 j hj
    obtain ⟨e,he,h3⟩:=Array.any_eq_true'.1 h2;simp only[Bool.and_eq_true,Bool.or_eq_true,beq_iff_eq]at h3;refine ⟨e,he,h3.1,?_⟩;rcases h3.2 with h4 | h4
    · exact .inl h4
    · exact .inr (by simpa using h4)
  · have h1:=(key i o ho).1.1.1.1.1.2
    simp only[hd,decide_eq_true_eq]at h1;exact h1
  · have h1:=key2 i j oi oj hi hj hne
    simp only[hd,Bool.and_eq_true,bne_iff_ne,ne_eq]at h1;exact h1.1
  · have h1:=key2 i j oi oj hi hj hne
    simp only[hd,Bool.and_eq_true,Bool.or_eq_true,Bool.not_eq_true']at h1;have h2:=h1.2;have hc:(oi.looksAt ops).contains d=true:=by simpa using hl
    rcases h2 with h2 | h2
    · rw[hc]at h2;cases h2
    · split at h2
      · rename_i hlt
        exact .inl ⟨hlt,t115⟩
      · rename_i hlt
        exact .inr ⟨by omega,t115⟩
  · have ho:ops[i]?=some ops[i]:=Array.getElem?_eq_getElem hi
    have hjn:j<ops.size:=by
      have:=(key i _ ho).1.2;simp only[decide_eq_true_eq]at this;rcases Nat.lt_or_ge j ops.size with h' | h'
      · exact h'
      · rw[Nat.testBit_lt_two_pow (Nat.lt_of_lt_of_le this (Nat.pow_le_pow_right (by decide) h'))]at hj
        cases hj
    have h2:=List.all_eq_true.1 (key i _ ho).1.1.1.2 j (List.mem_range.2 hjn);rw[hj]at h2;simp only[beq_iff_eq]at h2;have h3:=h2.symm;replace h3:=s3z h3;exact ⟨hjn,h3.1,by simpa using h3.2⟩
  · have ho:ops[i]?=some ops[i]:=Array.getElem?_eq_getElem hi
    have hjn:j<ops.size:=by
      have:=(key i _ ho).2;simp only[decide_eq_true_eq]at this;rcases Nat.lt_or_ge j ops.size with h' | h'
      · exact h'
      · rw[Nat.testBit_lt_two_pow (Nat.lt_of_lt_of_le this (Nat.pow_le_pow_right (by decide) h'))]at hj
        cases hj
    have h2:=List.all_eq_true.1 (key i _ ho).1.1.2 j (List.mem_range.2 hjn);rw[hj]at h2;simp only[beq_iff_eq]at h2;have h3:=h2.symm;replace h3:=s3z h3;exact ⟨hjn,h3.1,by simpa using h3.2⟩
def lookW:List (Nat×c6)→Nat→Option c6
  | [],_=>none
  | (D,H)::W,E=>match Nat.beq D E with
    | true=>some H
    | false=>lookW W E
def OpG (P:Program)(C:Cfg)(pl:Option Nat)(ρ:Operand→AV)(h:c6)(o:Op)(K:AV→c6→Prop):Prop:=
  match pl with
  | none=>OpA P C ρ h o K
  | some β=>∃x h',atA C ρ h β o=some (x,h')∧K x h'
theorem OpG.sound (g:Good P C){B:Nat}{φ:Map}{w:World}{a:Act}{h:c6}{ρ:Operand→AV}{o:Oper}{pl:Option Nat}{K:AV→c6→Prop}{Q:Exit→Act→World→Prop}(i:Pic C.eJ B h φ w)(hρ:∀x,Rel h φ w (a.eval x) (ρ x))
    (r:OpG P C pl ρ h o.op K):o.wp P a w (WK C B h φ w a o.dst K) Q:=by
  unfold OpG at r;split at r
  · exact OpA.sound g i hρ r
  · obtain ⟨x,h',hp,hk⟩:=r
    obtain ⟨nx,v,w',φ',h1,h2,h3,h4,h5⟩:=atA_ok i g hρ hp;unfold Oper.wp;rw[h1];rcases h2 with rfl | ⟨rfl,rfl⟩
    · exact ⟨v,x,h',φ',rfl,h3,h4,h5,hk⟩
    · exact ⟨undef,x,h',φ',rfl,h3,h4,h5,hk⟩
def PX (P:Program)(C:Cfg)(ops:Array Oper)(p:w7)(b:Nat)(W:List (Nat×c6))(i:Nat)(o:Oper)(sl:List AV)(r:AV):Prop:=
  (aX ops sl o=some true∧∀D H,lookW W D=some H→p.fits i D=true→
    ∃H',OpG P C ((p.place.getD i none).map (b+·)) (DM C (o.looksAt ops) sl) H o.op (fun y h=>y=r∧h=H')∧(p.isE i=true→lookW W (D|||2^i)=some H')∧(p.isE i=false→H'=H))∨
  (aX ops sl o=some false∧r=.tup []∧∀D H,lookW W D=some H→p.fits i D=true→p.isE i=true→lookW W (D|||2^i)=some H)
structure DG (C:Cfg)(ops:Array Oper)(p:w7)(W:List (Nat×c6))(sl0 rs:List AV)(B:Nat)(h0:c6)(φ0:Map)(w0:World)(listed:Array Bool)(a:Act)(w:World)(D:Nat)(H:c6)(φ:Map):Prop where
  lsz:listed.size=ops.size
  down:∀(i:Nat) (o:Oper),ops[i]?=some o→listed.getD i false=true→∀e∈o.after,Region.binds .any e=true→listed.getD e.on false=true
  dst:∀(i:Nat) (o:Oper) (d:Tmp),ops[i]?=some o→listed.getD i false=true→o.dst=some d→Rel H φ w (a.tmps.getD d undef) (rs.getD i .any)
  oth:∀t,(∀(i:Nat) (o:Oper),ops[i]?=some o→listed.getD i false=true→o.dst≠some t)→Rel H φ w (a.tmps.getD t undef) (sl0.getD t .any)
  num:∀j,D.testBit j=true↔(j<ops.size∧p.isE j=true∧listed.getD j false=true)
  top:lookW W D=some H
  pic:Pic C.eJ B H φ w
  ev:Ev h0 φ0 w0 H φ w
  size:sl0.length≤a.tmps.size
  nI:a.defers=[]
variable {ops:Array Oper}{p:w7}{W:List (Nat×c6)}{sl0 rs:List AV}{B:Nat}{h0:c6}{φ0:Map}{w0:World}{listed:Array Bool}{a:Act}{w:World}{D:Nat}{H:c6}{φ:Map}
theorem DG.bef (d:DG C ops p W sl0 rs B h0 φ0 w0 listed a w D H φ)(s:R5 p ops slots) :
    ∀(i:Nat) (o:Oper),ops[i]?=some o→(∀e∈o.after,Region.binds .any e=true→listed.getD e.on false=true)→∀j∈p.bef i,listed.getD j false=true:=by
  intro i;induction i using Nat.strongRecOn with
  | _ i ih=>
    intro o ho he j hj;obtain ⟨e,hem,hb,hor⟩:=s.bef i o ho j hj;have hl:=he e hem hb;rcases hor with rfl | hj'
    · exact hl
    · have hon:=s.back i o ho e hem hb
      have hsz:e.on<ops.size:=by
        rw[←d.lsz];rcases Nat.lt_or_ge e.on listed.size with h' | h'
        · exact h'
        · simp[Array.getD_eq_getD_getElem?,Array.getElem?_eq_none h']at hl
      exact ih e.on hon _ (Array.getElem?_eq_getElem hsz) (d.down _ _ (Array.getElem?_eq_getElem hsz) hl) j hj'
theorem DG.looks (d:DG C ops p W sl0 rs B h0 φ0 w0 listed a w D H φ)(s:R5 p ops sl0.length)
    (hrs:rs.length=ops.size) {i:Nat} {o:Oper} (ho:ops[i]?=some o) (hun:listed.getD i false=false) (hall:∀e∈o.after,Region.binds .any e=true→listed.getD e.on false=true) {t:Tmp} (ht:t∈o.looksAt ops) :
    Rel H φ w (a.tmps.getD t undef) ((oY sl0 ops.toList rs i).getD t .any):=by
  have hi:i<ops.size:=(Array.getElem?_eq_some_iff.1 ho).1;rcases qB ops.toList sl0 rs i t (by simpa using hrs) t65 (fun x hx e he=>by
      obtain ⟨j,hj,rfl⟩:=List.mem_iff_getElem.1 hx;exact s.fits j _ e t120 he) (fun x y ox oy h1 h2 h3 e he=>by
      exact s.apart y x oy ox t115 t141 (Ne.symm h3) e he) with ⟨j,oj,h1,h2,h3,h4⟩ | ⟨h1,h2⟩
  · rw[h4]
    have hj:ops[j]?=some oj:=by simpa using h2
    rcases s.look i j o oj ho hj (by omega) t h3 ht with ⟨_,h5⟩ | ⟨h5,_⟩
    · exact d.dst j oj t hj (d.bef s i o ho hall j h5) h3
    · omega
  · rw[h2]
    refine d.oth t fun j oj hj hl hd=>?_;by_cases hji:j<i
    · exact h1 j oj hji t150 hd
    · by_cases hje:j=i
      · subst hje
        rw[hun]at hl;cases hl
      · rcases s.look i j o oj ho hj (Ne.symm hje) t hd ht with ⟨h5,_⟩ | ⟨h5,h6⟩
        · omega
        · have:=d.bef s j oj hj (d.down j oj hj hl) i h6
          rw[hun]at this;cases this
theorem DG.PK (d:DG C ops p W sl0 rs B h0 φ0 w0 listed a w D H φ)(s:R5 p ops sl0.length)
    (hrs:rs.length=ops.size) {i:Nat} {o:Oper} (ho:ops[i]?=some o) (hun:listed.getD i false=false) (hall:∀e∈o.after,Region.binds .any e=true→listed.getD e.on false=true) (x:Operand) :
    Rel H φ w (a.eval x) (DM C (o.looksAt ops) (oY sl0 ops.toList rs i) x):=by
  cases x with
  | tmp t=>
    simp only[DM];split
    · rename_i hc
      exact d.looks s hrs ho hun hall (by simpa using hc)
    · exact .jW _
  | const v=>exact zR v
  | global g=>exact .pure (d.pic.eJ g)
  | func f=>exact .pure (.func (.func f))
theorem DG.wanted (d:DG C ops p W sl0 rs B h0 φ0 w0 listed a w D H φ)(s:R5 p ops sl0.length)
    (hrs:rs.length=ops.size) {i:Nat} {o:Oper} (ho:ops[i]?=some o) (hun:listed.getD i false=false) (hall:∀e∈o.after,Region.binds .any e=true→listed.getD e.on false=true) {b:Bool}
    (hw:aX ops (oY sl0 ops.toList rs i) o=some b):Region.wanted o (yielded ops a.tmps)=b:=by
  unfold aX at hw;unfold Region.wanted;cases hg:o.guard with
  | none=>simp[hg]at hw;simp[hw]
  | some jw=>
    obtain ⟨j,want⟩:=jw;simp only[hg]at hw;cases hd:(ops[j]?).bind (·.dst) with
    | none=>simp[hd]at hw
    | some e=>
      simp only[hd]at hw;split at hw
      · rename_i t ht
        cases hw;have hmem:e∈o.looksAt ops:=by unfold Oper.looksAt;simp[hg,hd]
        have hr:=d.looks s hrs ho hun hall hmem;rw[ht]at hr;have hv:=hr.bP;have ht':a.tmps[e]?=some (.bool t):=by
          cases he:a.tmps[e]? with
          | none=>simp[Array.getD_eq_getD_getElem?,he,undef]at hv
          | some v=>simp[Array.getD_eq_getD_getElem?,he]at hv;rw[hv]
        have hy:yielded ops a.tmps j=some t:=by unfold yielded;simp[hd,ht']
        simp only[hy];cases t<;>cases want<;>rfl
      · rename_i ht
        cases hw;have hmem:e∈o.looksAt ops:=by unfold Oper.looksAt;simp[hg,hd]
        have hr:=d.looks s hrs ho hun hall hmem;rw[ht]at hr;obtain ⟨a',hv,hsz,_⟩:=hr.nG;have hy:yielded ops a.tmps j=none:=by
          unfold yielded;simp only[hd,Option.bind_some];cases he:a.tmps[e]? with
          | none=>rfl
          | some v=>
            simp[Array.getD_eq_getD_getElem?,he]at hv;rw[hv]
        show (yielded ops a.tmps j==some want)=false;rw[hy];rfl
      · cases hw
theorem DG.step (d:DG C ops p W sl0 rs B h0 φ0 w0 listed a w D H φ)(s:R5 p ops sl0.length)
    {i:Nat} {o:Oper} (ho:ops[i]?=some o) (hall:∀e∈o.after,Region.binds .any e=true→listed.getD e.on false=true)
    {D':Nat} {H':c6} {φ':Map} {w':World} {v:Value} (hk:∀j,D'.testBit j=true↔(j<ops.size∧p.isE j=true∧(listed.setIfInBounds i true).getD j false=true)) (hk':lookW W D'=some H')
    (hp:Pic C.eJ B H' φ' w') (he:Ev H φ w H' φ' w') (hv:Rel H' φ' w' v (rs.getD i .any)) :
    DG C ops p W sl0 rs B h0 φ0 w0 (listed.setIfInBounds i true) (a.put o.dst v) w' D' H' φ':=by
  have hi:i<listed.size:=by rw[d.lsz];exact (Array.getElem?_eq_some_iff.1 ho).1
  have hget:∀j,(listed.setIfInBounds i true).getD j false=true↔(j=i∨listed.getD j false=true):=fun j=>by rw[rW hi];by_cases hj:j=i<;>simp[hj]
  have hput:∀t,o.dst≠some t→(a.put o.dst v).tmps.getD t undef=a.tmps.getD t undef:=fun t ht=>by
    cases hd:o.dst with
    | none=>simp[Act.put]
    | some e=>
      have:e≠t:=fun h=>ht (by rw[hd,h]);simp[Act.put,Array.getD_eq_getD_getElem?,Array.getElem?_setIfInBounds_ne this]
  refine ⟨by simp[d.lsz],fun j oj hj hl e hem hb=>?_,fun j oj t hj hl hd=>?_,fun t ht=>?_,hk,hk',hp,d.ev.trans he,?_,?_⟩
  · rw[hget]
    rcases (hget j).1 hl with rfl | hl'
    · rw[ho]at hj
      cases hj;exact .inr (hall e hem hb)
    · exact .inr (d.down j oj hj hl' e hem hb)
  · by_cases hji:j=i
    · subst hji
      rw[ho]at hj;cases hj;have ht:=s.fits j o t ho hd;have ht':t<a.tmps.size:=Nat.lt_of_lt_of_le ht d.size;have:(a.put o.dst v).tmps.getD t undef=v:=by simp[hd,Act.put,Array.getD_eq_getD_getElem?,ht']
      rw[this];exact hv
    · have hl':listed.getD j false=true:=by
        rcases (hget j).1 hl with h | h
        · exact absurd h hji
        · exact h
      rw[hput t (s.apart i j o oj ho hj (Ne.symm hji) t hd)];exact he.rel (d.dst j oj t hj hl' hd)
  · rw[hput t (ht i o ho ((hget i).2 (.inl rfl)))]
    exact he.rel (d.oth t fun j oj hj hl=>ht j oj hj ((hget j).2 (.inr hl)))
  · have:(a.put o.dst v).tmps.size=a.tmps.size:=by cases hd:o.dst<;>simp[Act.put]
    rw[this];exact d.size
  · have:(a.put o.dst v).defers=a.defers:=by cases hd:o.dst<;>simp[Act.put]
    rw[this];exact d.nI
def w7.full (p:w7):Nat→Nat
  | 0=>0
  | k+1=>if p.isE k then p.full k|||2^k else p.full k
theorem w7.Y6 (p:w7):∀n j,(p.full n).testBit j=true↔(j<n∧p.isE j=true)
  | 0,j=>by simp[w7.full]
  | n+1,j=>by
    have ih:=p.Y6 n j;simp only[w7.full];split
    · rename_i hE
      rw[Nat.testBit_or,Bool.or_eq_true,ih,Nat.testBit_two_pow,decide_eq_true_eq];constructor
      · rintro (⟨h1,h2⟩ | rfl)
        · exact ⟨by omega,h2⟩
        · exact ⟨by omega,hE⟩
      · rintro ⟨h1,h2⟩
        by_cases e:n=j
        · exact .inr e
        · exact .inl ⟨by omega,h2⟩
    · rename_i hE
      rw[ih];constructor
      · rintro ⟨h1,h2⟩;exact ⟨by omega,h2⟩
      · rintro ⟨h1,h2⟩
        by_cases e:n=j
        · subst e;exact absurd h2 hE
        · exact ⟨by omega,h2⟩
theorem GL (g:Good P C){Hf:c6}{b:Nat}(s:R5 p ops sl0.length)(hrs:rs.length=ops.size)(hF:lookW W (p.full ops.size)=some Hf)
    (hfact:∀i o,ops[i]?=some o→PX P C ops p b W i o (oY sl0 ops.toList rs i) (rs.getD i .any)) {Q:Exit→Act→World→Prop}
    (hQ:∀a w φ,Pic C.eJ B Hf φ w→Ev h0 φ0 w0 Hf φ w→kS Hf φ w a (oY sl0 ops.toList rs ops.size)→Q .normal a w) :
    ∀(fuel:Nat) (listed:Array Bool) (a:Act) (w:World) (D:Nat) (H:c6) (φ:Map),left ops.size listed≤fuel→DG C ops p W sl0 rs B h0 φ0 w0 listed a w D H φ→wpAny P .any ops Q fuel listed a w:=by
  have done:∀(listed:Array Bool) (a:Act) (w:World) (D:Nat) (H:c6) (φ:Map),DG C ops p W sl0 rs B h0 φ0 w0 listed a w D H φ→(∀i,i<ops.size→listed.getD i false=true)→Q .normal a w:=by
    intro listed a w D H φ d hall;have hD:D=p.full ops.size:=by
      refine Nat.eq_of_testBit_eq fun j=>?_;rw[Bool.eq_iff_iff,d.num,p.Y6];constructor
      · rintro ⟨h1,h2,_⟩;exact ⟨h1,h2⟩
      · rintro ⟨h1,h2⟩;exact ⟨h1,h2,hall j h1⟩
    have hH:H=Hf:=by have:=d.top;rw[hD,hF]at this;exact (Option.some.inj this).symm
    subst hH;refine hQ a w φ d.pic d.ev ⟨by rw[pF];exact d.size,fun t=>?_,d.nI⟩;rcases qB ops.toList sl0 rs ops.size t (by simpa using hrs) (by simp) (fun x hx e he=>by
        obtain ⟨j,hj,rfl⟩:=List.mem_iff_getElem.1 hx;exact s.fits j _ e t120 he) (fun x y ox oy h1 h2 h3 e he=>by
        exact s.apart y x oy ox t115 t141 (Ne.symm h3) e he) with ⟨j,oj,h1,h2,h3,h4⟩ | ⟨h1,h2⟩
    · rw[h4]
      exact d.dst j oj t t115 (hall j h1) h3
    · rw[h2]
      exact d.oth t fun j oj hj _=>h1 j oj (Array.getElem?_eq_some_iff.1 hj).1 t150
  have noready:∀(listed:Array Bool),listed.size=ops.size→Region.ready .any ops listed=[]→∀i,i<ops.size→listed.getD i false=true:=by
    intro listed hsz hr i;induction i using Nat.strongRecOn with
    | _ i ih=>
      intro hi;cases hl:listed.getD i false with
      | true=>rfl
      | false=>
        have ho:ops[i]?=some ops[i]:=Array.getElem?_eq_getElem hi;have hmem:i∈Region.ready .any ops listed:=by
          rw[mem_ready];refine ⟨?_,_,ho,fun e he hb=>?_⟩
          · simp[Array.getD_eq_getD_getElem?,hsz,hi]at hl ⊢
            exact hl
          · have hon:=s.back i _ ho e he hb
            exact ih e.on hon (by omega)
        rw[hr]at hmem;cases hmem
  intro fuel;induction fuel with
  | zero=>
    intro listed a w D H φ hleft d;have hall:∀i,i<ops.size→listed.getD i false=true:=by
      intro i hi;cases hl:listed.getD i false with
      | true=>rfl
      | false=>
        have:i∈(List.range ops.size).filter fun i=>! listed.getD i false:=List.mem_filter.2 ⟨List.mem_range.2 hi,by simp[hl]⟩;have h0:((List.range ops.size).filter fun i=>! listed.getD i false)=[]:=List.eq_nil_of_length_eq_zero (by unfold left at hleft;omega);rw[h0]at this;cases this
    refine ⟨?_,done listed a w D H φ d hall⟩;cases hr:Region.ready .any ops listed with
    | nil=>rfl
    | cons x xs=>
      have hx:x∈Region.ready .any ops listed:=by rw[hr];simp
      obtain ⟨h1,_,h2,_⟩:=mem_ready.1 hx;have:=kJ h1;rw[hall x (Array.getElem?_eq_some_iff.1 h2).1]at this;cases this.2
  | succ fuel ih=>
    intro listed a w D H φ hleft d;refine ⟨fun hr=>done listed a w D H φ d (noready listed d.lsz hr),fun i hi=>?_⟩;obtain ⟨hun0,o,ho,hall⟩:=mem_ready.1 hi;obtain ⟨hisz,hun⟩:=kJ hun0;have hin:i<ops.size:=by rw[←d.lsz];exact hisz
    have hlt:=Y1 hisz hin hun;have hbef:=d.bef s i o ho hall;have hget:∀j,(listed.setIfInBounds i true).getD j false=true↔(j=i∨listed.getD j false=true):=fun j=>by rw[rW hisz];by_cases hj:j=i<;>simp[hj]
    have hDi:D.testBit i=false:=by
      cases hb:D.testBit i with
      | false=>rfl
      | true=>have:=((d.num i).1 hb).2.2;rw[hun]at this;cases this
    have hfits:p.fits i D=true:=by
      unfold w7.fits;simp only[Bool.and_eq_true,Nat.beq_eq,hDi,Bool.not_false,and_true];refine ⟨Nat.eq_of_testBit_eq fun j=>?_,Nat.eq_of_testBit_eq fun j=>?_⟩
      · rw[Nat.testBit_and]
        cases hr:(p.req.getD i 0).testBit j with
        | false=>rw[Bool.and_false]
        | true=>
          obtain ⟨h1,h2,h3⟩:=s.req i j hin hr;rw[(d.num j).2 ⟨h1,h2,hbef j h3⟩];rfl
      · rw[Nat.testBit_and,Nat.zero_testBit]
        cases hr:(p.ZN.getD i 0).testBit j with
        | false=>rw[Bool.and_false]
        | true=>
          obtain ⟨h1,h2,h3⟩:=s.ZN i j hin hr;cases hb:D.testBit j with
          | false=>rfl
          | true=>
            have hl:=((d.num j).1 hb).2.2;have hoj:ops[j]?=some ops[j]:=Array.getElem?_eq_getElem h1;have:=d.bef s j _ hoj (d.down j _ hoj hl) i h3;rw[hun]at this;cases this
    have hmore:p.isE i=true→∀j,(D|||2^i).testBit j=true↔(j<ops.size∧p.isE j=true∧(listed.setIfInBounds i true).getD j false=true):=by
      intro hE j;rw[Nat.testBit_or,Bool.or_eq_true,Nat.testBit_two_pow,decide_eq_true_eq,d.num,hget];constructor
      · rintro (⟨h1,h2,h3⟩ | rfl)
        · exact ⟨h1,h2,.inr h3⟩
        · exact ⟨hin,hE,.inl rfl⟩
      · rintro ⟨h1,h2,h3 | h3⟩
        · exact .inr h3.symm
        · exact .inl ⟨h1,h2,h3⟩
    have hsame:p.isE i=false→∀j,D.testBit j=true↔(j<ops.size∧p.isE j=true∧(listed.setIfInBounds i true).getD j false=true):=by
      intro hE j;rw[d.num,hget];constructor
      · rintro ⟨h1,h2,h3⟩;exact ⟨h1,h2,.inr h3⟩
      · rintro ⟨h1,h2,h3 | h3⟩
        · subst h3;rw[hE]at h2;cases h2
        · exact ⟨h1,h2,h3⟩
    unfold wpOp;simp only[ho];rcases hfact i o ho with ⟨h1,h2⟩ | ⟨h1,h2,h3⟩
    · rw[if_pos (d.wanted s hrs ho hun hall h1)]
      obtain ⟨H',k1,k2,k3⟩:=h2 D H d.top hfits;refine .inl (Oper.wp_mono (fun a' w' hp=>?_) (OpG.sound g d.pic (d.PK s hrs ho hun hall) k1));obtain ⟨v,x,h',φ',rfl,hp1,hp2,hp3,rfl,rfl⟩:=hp;cases hE:p.isE i with
      | true=>exact ih _ _ _ (D|||2^i) _ φ' (by omega) (d.step s ho hall (hmore hE) (k2 hE) hp1 hp2 hp3)
      | false=>
        have:=k3 hE;subst this;exact ih _ _ _ D _ φ' (by omega) (d.step s ho hall (hsame hE) d.top hp1 hp2 hp3)
    ·
      rw[if_neg (by rw[d.wanted s hrs ho hun hall h1];simp)];cases hE:p.isE i with
      | true=>exact ih _ _ _ (D|||2^i) H φ (by omega) (d.step s ho hall (hmore hE) (h3 D H d.top hfits hE) d.pic (.refl _ _ _) (by rw[h2];exact tW))
      | false=>exact ih _ _ _ D H φ (by omega) (d.step s ho hall (hsame hE) d.top d.pic (.refl _ _ _) (by rw[h2];exact tW))
def kept (m:Nat):c6:=List.replicate m ⟨0,true,0,0,[],0⟩
theorem Y7 {G:Nat→AV}{h:c6}(i:Pic G B h φ w):∀m,Pic G B (h++kept m) φ w∧Ev h φ w (h++kept m) φ w
  | 0=>by simpa [kept] using ⟨i,Ev.refl h φ w⟩
  | m+1=>by
    obtain ⟨i1,e1⟩:=Y7 i m;obtain ⟨i2,e2⟩:=pW i1;have:h++kept (m+1)=(h++kept m)++[⟨0,true,0,0,[],0⟩]:=by simp[kept,List.replicate_succ']
    rw[this];exact ⟨i2,e1.trans e2⟩
theorem c9.drawG (g:Good P C){id:Nat}{st:St}{Q:Exit→St→Prop}(p:w7)(m:Nat)(hp:p.ok ops st.sl.length=true)(rs:List AV)(W:List (Nat×c6))(Hf:c6)(hrs:rs.length=ops.size)
    (h0:lookW W 0=some (st.h++kept m)) (hF:lookW W (p.full ops.size)=some Hf)
    (hfact:∀i o,ops[i]?=some o→PX P C ops p st.h.length W i o (oY st.sl ops.toList rs i) (rs.getD i .any)) (hq:Q .normal ⟨oY st.sl ops.toList rs ops.size,Hf⟩):c9 P C (.region id ops true) st Q:=by
  intro B φ w a i s;have sp:=w7.spec hp;obtain ⟨i1,e1⟩:=Y7 i m;refine wp_region_any g.mixed (GL (C:=C) g (B:=B) (h0:=st.h) (φ0:=φ) (w0:=w) (sl0:=st.sl) sp hrs hF hfact (fun a' w' φ' k1 k2 k3=>⟨_,φ',k1,k2,k3,hq⟩) ops.size (Array.replicate ops.size false) a _ 0 (st.h++kept m) φ ?_ ?_)
  · unfold left
    have:=List.length_filter_le (fun i=>!(Array.replicate ops.size false).getD i false) (List.range ops.size);simpa using this
  · have hno:∀j,(Array.replicate ops.size false).getD j false=false:=fun j=>by by_cases hj:j<ops.size<;>simp[Array.getD_eq_getD_getElem?,hj]
    have hg:=qC w;refine ⟨by simp,fun j o _ hl=>t209,fun j o t _ hl=>t209,fun t _=>?_,fun j=>by rw[hno];simp,h0,?_,?_,s.size,s.nI⟩
    · exact (Ev.iI hg).rel (e1.rel (s.rel t))
    · exact i1.iI hg
    · exact e1.trans (Ev.iI hg)
end
section force
variable {β:Type}
def fN (n:Nat)(K:Nat→β):β:=match n with
 | 0=>K 0
 | m+1=>K (m+1)
theorem K7 (n:Nat)(K:Nat→β):fN n K=K n:=by cases n<;>rfl
def fI (n:Int)(K:Int→β):β:=match n with
 | .ofNat m=>fN m fun m=>K (.ofNat m)
 | .negSucc m=>fN m fun m=>K (.negSucc m)
theorem fI_eq (n:Int)(K:Int→β):fI n K=K n:=by cases n<;>simp only[fI,K7]
def fB (b:Bool)(K:Bool→β):β:=match b with
 | true=>K true
 | false=>K false
theorem fB_eq (b:Bool)(K:Bool→β):fB b K=K b:=by cases b<;>rfl
def fL {α:Type}(f:α→(α→β)→β):List α→(List α→β)→β
 | [],K=>K []
 | x::xs,K=>f x fun x'=>fL f xs fun xs'=>K (x'::xs')
theorem R6 {α:Type}{f:α→(α→β)→β}(hf:∀x K,f x K=K x):∀(l:List α) (K:List α→β),fL f l K=K l
 | [],_=>rfl
 | x::xs,K=>by simp only[fL,hf,R6 hf xs]
def fU (b:UInt8)(K:UInt8→β):β:=fN b.toNat fun n=>K (UInt8.ofNat n)
theorem fU_eq (b:UInt8)(K:UInt8→β):fU b K=K b:=by simp only[fU,K7,UInt8.ofNat_toNat]
def fS (s:ByteArray)(K:ByteArray→β):β:=fL fU s.data.toList fun l=>K ⟨⟨l⟩⟩
theorem fS_eq (s:ByteArray)(K:ByteArray→β):fS s K=K s:=by simp only[fS,R6 fU_eq]
def fA0 (x:AV)(K:AV→β):β:=match x with
 | .bool b=>fB b fun b=>K (.bool b)
 | .int k n=>fI n fun n=>K (.int k n)
 | .ptr b g o=>fN b fun b=>fN g fun g=>fN o fun o=>K (.ptr b g o)
 | .lT cs o=>fN o fun o=>K (.lT cs o)
 | .own b g o l=>fN b fun b=>fN g fun g=>fN o fun o=>fN l fun l=>K (.own b g o l)
 | .vec n cs=>fN n fun n=>K (.vec n cs)
 | x=>K x
theorem yS (x:AV)(K:AV→β):fA0 x K=K x:=by cases x<;>simp only[fA0,K7,fI_eq,fB_eq]
def fA1 (x:AV)(K:AV→β):β:=match x with
 | .agg cs=>fL fA0 cs fun cs=>K (.agg cs)
 | x=>fA0 x K
theorem WL (x:AV)(K:AV→β):fA1 x K=K x:=by cases x<;>simp only[fA1,yS,R6 yS]
def fA2 (x:AV)(K:AV→β):β:=match x with
 | .tup cs=>fL fA1 cs fun cs=>K (.tup cs)
 | x=>fA1 x K
theorem fA2_eq (x:AV)(K:AV→β):fA2 x K=K x:=by cases x<;>simp only[fA2,WL,R6 WL]
def fD:Nat→AV→(AV→β)→β
 | 0,x,K=>fA0 x K
 | d+1,x,K=>match x with
  | .vec n cs=>fN n fun n=>fL (fD d) cs fun cs=>K (.vec n cs)
  | .lT cs o=>fN o fun o=>fL (fD d) cs fun cs=>K (.lT cs o)
  | .agg cs=>fL (fD d) cs fun cs=>K (.agg cs)
  | .tup cs=>fL (fD d) cs fun cs=>K (.tup cs)
  | .str s=>fS s fun s=>K (.str s)
  | .iface t v=>fD d v fun v=>K (.iface t v)
  | x=>fA0 x K
theorem GM:∀(d:Nat) (x:AV) (K:AV→β),fD d x K=K x
 | 0,x,K=>yS x K
 | d+1,x,K=>by cases x<;>simp only[fD,K7,yS,fS_eq,R6 (GM d),GM d]
def Hw (b:Blk)(K:Blk→β):β:=match b with
 | ⟨g,v,e,z,cs,q⟩=>fN g fun g=>fB v fun v=>fN e fun e=>fN z fun z=>fN q fun q=>fL fA0 cs fun cs=>K ⟨g,v,e,z,cs,q⟩
theorem GN (b:Blk)(K:Blk→β):Hw b K=K b:=by simp only[Hw,K7,fB_eq,R6 yS]
def fH (h:c6)(K:c6→β):β:=fL Hw h K
theorem ZO (h:c6)(K:c6→β):fH h K=K h:=R6 GN h K
end force
inductive TT where
 | lf (x:AV)
 | nd (l r:TT)
def TT.get:TT→Nat→AV
 | .lf x,_=>x
 | .nd l r,n=>match n%2 with
  | 0=>l.get (n / 2)
  | _=>r.get (n / 2)
def TT.put {β:Type}:TT→Nat→AV→(TT→β)→β
 | .lf _,_,x,K=>K (.lf x)
 | .nd l r,n,x,K=>match n%2 with
  | 0=>l.put (n / 2) x fun l'=>K (.nd l' r)
  | _=>r.put (n / 2) x fun r'=>K (.nd l r')
def TT.set:TT→Nat→AV→TT
 | .lf _,_,x=>.lf x
 | .nd l r,n,x=>match n%2 with
  | 0=>.nd (l.set (n / 2) x) r
  | _=>.nd l (r.set (n / 2) x)
def TT.full:Nat→TT
 | 0=>.lf .any
 | d+1=>.nd (TT.full d) (TT.full d)
def TT.deep:Nat→TT→Prop
 | 0,.lf _=>True
 | d+1,.nd l r=>l.deep d∧r.deep d
 | _,_=>False
theorem TT.put_eq {β:Type}:∀(t:TT) (n:Nat) (x:AV) (K:TT→β),t.put n x K=K (t.set n x)
 | .lf _,_,_,_=>rfl
 | .nd l r,n,x,K=>by
  simp only[TT.put,TT.set];split
  ·exact TT.put_eq l _ _ _
  ·exact TT.put_eq r _ _ _
theorem TT.vT:∀d,TT.deep d (TT.full d)
 | 0=>trivial
 | d+1=>⟨TT.vT d,TT.vT d⟩
theorem TT.Y8:∀(d n:Nat),(TT.full d).get n=.any
 | 0,_=>rfl
 | d+1,n=>by simp only[TT.full,TT.get];split<;>exact TT.Y8 d _
theorem TT.A5:∀(d:Nat) (t:TT) (n:Nat) (x:AV),TT.deep d t→TT.deep d (t.set n x)
 | 0,.lf _,_,_,_=>trivial
 | d+1,.nd l r,n,x,h=>by
  simp only[TT.set];split
  ·exact ⟨TT.A5 d l _ x h.1,h.2⟩
  ·exact ⟨h.1,TT.A5 d r _ x h.2⟩
 | 0,.nd _ _,_,_,h=>h.elim
 | _+1,.lf _,_,_,h=>h.elim
theorem TT.nN:∀(d:Nat) (t:TT) (n m:Nat) (x:AV),TT.deep d t→n<2^d→m<2^d→(t.set n x).get m=if n=m then x else t.get m
 | 0,.lf y,n,m,x,_,hn,hm=>by simp at hn hm;simp[TT.set,TT.get,hn,hm]
 | d+1,.nd l r,n,m,x,h,hn,hm=>by
  have hn':n / 2<2^d:=by rw[Nat.pow_succ]at hn;omega
  have hm':m / 2<2^d:=by rw[Nat.pow_succ]at hm;omega
  simp only[TT.set];split
  ·rename_i h0;simp only[TT.get];split
   ·rename_i k0;rw[TT.nN d l _ _ x h.1 hn' hm'];by_cases e:n=m
    ·rw[if_pos e,if_pos (by rw[e])]
    ·rw[if_neg e,if_neg (by omega)]
   ·rename_i k0;rw[if_neg (fun e=>k0 (by rw[←e];exact h0))]
  ·rename_i h0;simp only[TT.get];split
   ·rename_i k0;rw[if_neg (fun e=>h0 (by rw[e];exact k0))]
   ·rename_i k0;rw[TT.nN d r _ _ x h.2 hn' hm'];by_cases e:n=m
    ·rw[if_pos e,if_pos (by rw[e])]
    ·rw[if_neg e,if_neg (fun e2=>e (by have h0':n%2≠0:=h0;have k0':m%2≠0:=k0;omega))]
 | 0,.nd _ _,_,_,_,h,_,_=>h.elim
 | _+1,.lf _,_,_,_,h,_,_=>h.elim
structure Sl (d n:Nat)(T:TT)(sl:List AV):Prop where
 len:sl.length=n
 fit:n≤2^d
 deep:TT.deep d T
 get:∀t,t<n→sl.getD t .any=T.get t
variable {d n:Nat}{T:TT}{sl:List AV}
theorem Sl.set (s:Sl d n T sl)(t:Nat)(x:AV)(ht:t<n):Sl d n (T.set t x) (sl.set t x):=by
 have hf:=s.fit;refine ⟨by simp[s.len],s.fit,TT.A5 d T t x s.deep,fun m hm=>?_⟩;rw[TT.nN d T t m x s.deep (by omega) (by omega)];by_cases e:t=m
 ·subst e;simp[List.getD,s.len,ht]
 ·rw[if_neg e,←s.get m hm];simp only[List.getD_eq_getElem?_getD,List.getElem?_set_ne e]
section
variable {P:Program}{C:Cfg}
def OO (C:Cfg)(n:Nat)(T:TT):Operand→AV
 | .tmp t=>match Nat.blt t n with
  | true=>T.get t
  | false=>.any
 | .const v=>ZE v
 | .global g=>C.eJ g
 | .func f=>.fn (.func f) [] []
theorem pI (s:Sl d n T sl):OO C n T=rho C sl:=by
 funext x;cases x with
 | tmp t=>
  simp only[OO,rho];by_cases h:t<n
  ·rw[show Nat.blt t n=true from by rw[Nat.blt_eq];exact h];exact (s.get t h).symm
  ·have hb:Nat.blt t n=false:=by
    cases hb:Nat.blt t n with
    | false=>rfl
    | true=>exact absurd (by rw[Nat.blt_eq]at hb;exact hb) h
   rw[hb,List.getD_eq_getElem?_getD,List.getElem?_eq_none (by rw[s.len];exact Nat.le_of_not_lt h)];rfl
 | _=>rfl
abbrev fR:=FuncId→List AV→c6→Option (AV×c6)
def fR.ok (P:Program)(C:Cfg)(call:fR):Prop:=∀f args h x h',call f args h=some (x,h')→CallA P C f args h fun y k=>y=x∧k=h'
def opE (C:Cfg)(call:fR)(ρ:Operand→AV)(h:c6)(o:Op):Option (AV×c6):=
 match o with
 | .call c=>match c.callee with
  | .builtin _=>v8 C ρ h o
  | _=>match aH C ρ c with
   | some (f,args)=>match p9 C f with
    | true=>call f args h
    | false=>none
   | none=>none
 | _=>v8 C ρ h o
variable {call:fR}{ρ:Operand→AV}{h:c6}{o:Op}{x:AV}
theorem WM (hc:call.ok P C){h':c6}(he:opE C call ρ h o=some (x,h')):OpA P C ρ h o fun y k=>y=x∧k=h':=by
 have key:∀c,o=.call c→(match aH C ρ c with
   | some (f,args)=>match p9 C f with
    | true=>call f args h
    | false=>none
   | none=>none)=some (x,h')→OpA P C ρ h o fun y k=>y=x∧k=h':=by
  intro c ho he;split at he
  ·rename_i f args ht;split at he
   ·rename_i hb;exact .inr ⟨c,f,args,ho,ht,hb,hc f args h x h' he⟩
   ·cases he
  ·cases he
 unfold opE at he;split at he
 ·rename_i c;split at he
  ·exact .plain he ⟨rfl,rfl⟩
  ·exact key c rfl he
 ·exact .plain he ⟨rfl,rfl⟩
def deepOp:Op→Bool
 | .slice .. | .convert .. | .binOp .add ..=>true
 | _=>false
def fX {β:Type}(o:Op)(x:AV)(K:AV→β):β:=match deepOp o with
 | true=>fD 1 x K
 | false=>fA2 x K
theorem PY {β:Type}(o:Op)(x:AV)(K:AV→β):fX o x K=K x:=by unfold fX;split<;>first | exact GM 1 x K | exact fA2_eq x K
def GO:Op→Bool
 | .alloc .. | .box .. | .store .. | .buildSlice .. | .makeSlice .. | .convert .. | .call ..=>true
 | _=>false
def fHo {β:Type}(o:Op)(h:c6)(K:c6→β):β:=match GO o with
 | true=>fH h K
 | false=>K h
theorem GQ {β:Type}(o:Op)(h:c6)(K:c6→β):fHo o h K=K h:=by unfold fHo;split<;>first | exact ZO h K | rfl
def Gt {β:Type}(n:Nat)(T:TT)(d:Option Tmp)(x:AV)(K:TT→Option β):Option β:=match d with
 | some t=>match Nat.blt t n with
  | true=>T.put t x K
  | false=>none
 | none=>K T
theorem A6 {β:Type}(s:Sl d n T sl){dst:Option Tmp}{K:TT→Option β}{r:β}(h:Gt n T dst x K=some r):∃T',Sl d n T' (eY sl dst x)∧K T'=some r:=by
 unfold Gt at h;cases dst with
 | none=>exact ⟨T,s,h⟩
 | some t=>
  simp only at h;split at h
  ·rename_i hb;rw[TT.put_eq]at h;exact ⟨_,s.set t x (by rw[Nat.blt_eq]at hb;exact hb),h⟩
  ·cases h
def PZ (ops:Array Oper)(n:Nat)(T:TT)(o:Oper):Option Bool:=
 match o.guard with
 | none=>some true
 | some (j,want)=>match (ops[j]?).bind (·.dst) with
  | some d=>match OO C n T (.tmp d) with
   | .bool b=>some (b==want)
   | .tup []=>some false
   | _=>none
  | none=>none
theorem Y9 (s:Sl d n T sl){ops:Array Oper}{o:Oper}:PZ (C:=C) ops n T o=aX ops sl o:=by unfold PZ aX;rw[pI s];rfl
inductive Dl where
 | set (β:Nat) (b:Blk)
 | push (b:Blk)
def dl (h:c6):Dl→c6
 | .set β b=>h.set β b
 | .push b=>h++[b]
def setK {γ:Type}:c6→Nat→Blk→(c6→γ)→γ
 | [],_,_,K=>K []
 | _::xs,0,b,K=>K (b::xs)
 | x::xs,β+1,b,K=>setK xs β b fun xs=>K (x::xs)
theorem GU {γ:Type}:∀(h:c6) (β:Nat) (b:Blk) (K:c6→γ),setK h β b K=K (h.set β b)
 | [],_,_,_=>rfl
 | _::_,0,_,_=>rfl
 | x::xs,β+1,b,K=>by simp only[setK,GU xs,List.set_cons_succ]
def QA {γ:Type}:c6→Blk→(c6→γ)→γ
 | [],b,K=>K [b]
 | x::xs,b,K=>QA xs b fun xs=>K (x::xs)
theorem Z0 {γ:Type}:∀(h:c6) (b:Blk) (K:c6→γ),QA h b K=K (h++[b])
 | [],_,_=>rfl
 | x::xs,b,K=>by simp only[QA,Z0 xs,List.cons_append]
def dlK {γ:Type}(h:c6)(d:Dl)(K:c6→γ):γ:=match d with
 | .set β b=>fN β fun β=>Hw b fun b=>setK h β b K
 | .push b=>Hw b fun b=>QA h b K
theorem dlK_eq {γ:Type}(h:c6)(d:Dl)(K:c6→γ):dlK h d K=K (dl h d):=by cases d<;>simp only[dlK,K7,GN,GU,Z0,dl]
def R7 (C:Cfg)(e:TypeId)(h:c6)(base src:AV):Option (AV×Dl):=
 match rd h (C.sz e) src,lenOf src with
 | some new,some m=>
  if new.length=m*C.sz e∧0<C.sz e then
   match base with
   | .j4=>
    if m=0 then none
    else if m≤maxLen∧m*(C.ti e).bytes≤140737488355328 then some (.own h.length 0 0 m,.push ⟨0,false,e,C.sz e,new,0⟩)
    else none
   | .own β g off len=>
    match h[β]? with
    | some b=>
     if b.gen=g∧off=0∧(len+m≤maxLen∧(len+m)*(C.ti e).bytes≤140737488355328) then
      if m=0 then none
      else if b.cQ then (if len=0 then some (.own β (g+1) 0 m,.set β ⟨g+1,false,e,C.sz e,new,b.frz⟩) else none)
      else if b.elem=e∧b.esz=C.sz e∧len*C.sz e≤b.cells.length∧b.frz≤len*C.sz e then
       if (len+m)*C.sz e≤b.cells.length then some (.own β g 0 (len+m),.set β { b with cells:=H7 b.cells (len*C.sz e) new })
       else some (.own β (g+1) 0 (len+m),.set β ⟨g+1,false,e,C.sz e,b.cells.take (len*C.sz e)++new,b.frz⟩)
      else none
     else none
    | none=>none
   | _=>none
  else none
 | _,_=>none
theorem DS {C:Cfg}{e:TypeId}{base src:AV}{d:Dl}(hd:R7 C e h base src=some (x,d)):j9 C e h base src=some (x,dl h d):=by
 unfold R7 at hd;unfold j9;split at hd
 ·rename_i new m h1 h2;rw[h1,h2];simp only;split at hd
  ·rename_i hc;rw[if_pos hc];split at hd
   ·split at hd
    ·cases hd
    ·rename_i hm;split at hd
     ·rename_i hl;cases hd;simp only[if_neg hm,if_pos hl,dl]
     ·cases hd
   ·split at hd
    ·rename_i b hb;split at hd
     ·rename_i hg;split at hd
      ·cases hd
      ·rename_i hm;split at hd
       ·rename_i hv;split at hd
        ·rename_i hl;cases hd;simp only[hb,if_pos hg,if_neg hm,if_pos hv,if_pos hl,dl]
        ·cases hd
       ·rename_i hv;split at hd
        ·rename_i he;split at hd
         ·rename_i hl;cases hd;simp only[hb,if_pos hg,if_neg hm,if_neg hv,if_pos he,if_pos hl,dl]
         ·rename_i hl;cases hd;simp only[hb,if_pos hg,if_neg hm,if_neg hv,if_pos he,if_neg hl,dl]
        ·cases hd
     ·cases hd
    ·cases hd
   ·cases hd
  ·cases hd
 ·cases hd
def GV (C:Cfg)(ρ:Operand→AV)(h:c6)(o:Op):Option (AV×Dl):=
 match o with
 | .alloc t=>match mkA C ρ (.alloc t) with
  | some (p,n,blk)=>some (if p then .ptr h.length 0 0 else .own h.length 0 0 n,.push blk)
  | none=>none
 | .box t x=>match mkA C ρ (.box t x) with
  | some (p,n,blk)=>some (if p then .ptr h.length 0 0 else .own h.length 0 0 n,.push blk)
  | none=>none
 | .buildSlice t l ps=>match mkA C ρ (.buildSlice t l ps) with
  | some (p,n,blk)=>some (if p then .ptr h.length 0 0 else .own h.length 0 0 n,.push blk)
  | none=>none
 | .makeSlice t l c=>match mkA C ρ (.makeSlice t l c) with
  | some (p,n,blk)=>some (if p then .ptr h.length 0 0 else .own h.length 0 0 n,.push blk)
  | none=>none
 | .store t p x=>if (ρ x).storable=true∧(ρ x).cellsOf.length=C.sz t∧(C.ut t).known=true then (match ρ p with
  | .ptr β g off=>match h[β]? with
   | some b=>if b.gen=g∧b.cQ=false∧off+(ρ x).cellsOf.length≤b.cells.length∧b.frz≤off then some (.any,.set β { b with cells:=H7 b.cells off (ρ x).cellsOf }) else none
   | none=>none
  | _=>none) else none
 | .call c=>match c.callee with
  | .builtin .append=>match c.args.toList,c.argTypes.toList with
   | [b,x],[t,u]=>match C.ut t with
    | .slice e=>if t=u then R7 C e h (ρ b) (ρ x) else none
    | _=>none
   | _,_=>none
  | _=>none
 | _=>none
theorem GW {C:Cfg}{d:Dl}(hd:GV C ρ h o=some (x,d)):v8 C ρ h o=some (x,dl h d):=by
 have mk:∀o',(match mkA C ρ o' with
  | some (p,n,blk)=>some ((if p then AV.ptr h.length 0 0 else .own h.length 0 0 n),Dl.push blk)
  | none=>none)=some (x,d)→nZ C ρ h o'=some (x,dl h d):=by
  intro o' hd;split at hd
  ·rename_i p n blk hm;cases hd;rw[(GJ (h:=h) hm).1];rfl
  ·cases hd
 unfold GV at hd;split at hd
 ·exact mk _ hd
 ·exact mk _ hd
 ·exact mk _ hd
 ·exact mk _ hd
 ·split at hd
  ·rename_i hc;split at hd
   ·rename_i β g off hp;split at hd
    ·rename_i b hb;split at hd
     ·rename_i hg;cases hd;simp only[v8,fC,gV,nZ,if_pos hc,hp,pB,hb,if_pos hg,Option.map_some,dl]
     ·cases hd
    ·cases hd
   ·cases hd
  ·cases hd
 ·rename_i c;split at hd
  ·rename_i hcal;split at hd
   ·rename_i b y t u ha ht;split at hd
    ·rename_i e hu;split at hd
     ·rename_i htu;have:=DS hd;simp only[v8,fC,iL,gV,nZ,hcal,ha,ht,hu,if_pos htu,this]
     ·cases hd
    ·cases hd
   ·cases hd
  ·cases hd
 ·cases hd
def Gu (C:Cfg)(call:fR)(ops:Array Oper)(n:Nat){β:Type}:List Oper→TT→c6→(TT→c6→Option β)→Option β
 | [],T,h,K=>K T h
 | o::rest,T,h,K=>match PZ (C:=C) ops n T o with
  | some true=>match GV C (OO C n T) h o.op with
   | some (x,d)=>fX o.op x fun x=>dlK h d fun h=>Gt n T o.dst x fun T=>Gu C call ops n rest T h K
   | none=>match opE C call (OO C n T) h o.op with
    | some (x,h')=>fX o.op x fun x=>fHo o.op h' fun h'=>Gt n T o.dst x fun T=>Gu C call ops n rest T h' K
    | none=>none
  | some false=>Gt n T o.dst (.tup []) fun T=>Gu C call ops n rest T h K
  | none=>none
theorem A7 {call:fR}(hc:call.ok P C){ops:Array Oper}{d n:Nat}{β:Type}{r:β}{Q:St→Prop}:∀(l:List Oper) (T:TT) (sl:List AV) (h:c6) (K:TT→c6→Option β),Sl d n T sl→Gu C call ops n l T h K=some r→
  (∀T' sl' h',Sl d n T' sl'→K T' h'=some r→Q ⟨sl',h'⟩)→o4 P C ops l ⟨sl,h⟩ Q
 | [],T,sl,h,K,s,he,hk=>hk T sl h s he
 | o::rest,T,sl,h,K,s,he,hk=>by
  simp only[Gu]at he;rw[Y9 s]at he;split at he
  ·rename_i hw;split at he
   ·rename_i x d hp;rw[PY,dlK_eq]at he;rw[pI s]at hp;obtain ⟨T',s',he'⟩:=A6 s he;exact .inl ⟨hw,.plain (GW hp) (A7 hc rest T' _ _ K s' he' hk)⟩
   ·split at he
    ·rename_i x h' hp;rw[PY,GQ]at he;rw[pI s]at hp;obtain ⟨T',s',he'⟩:=A6 s he;exact .inl ⟨hw,(WM hc hp).mono fun y k ⟨e1,e2⟩=>by subst e1 e2;exact A7 hc rest T' _ _ K s' he' hk⟩
    ·cases he
  ·rename_i hw;obtain ⟨T',s',he'⟩:=A6 s he;exact .inr ⟨hw,A7 hc rest T' _ _ K s' he' hk⟩
  ·cases he
def A8:Nat→AV→AV→Bool
 | 0,x,y=>qE x y
 | d+1,x,y=>match x,y with
  | .agg a,.agg b=>eqL (A8 d) a b
  | .tup a,.tup b=>eqL (A8 d) a b
  | .vec n a,.vec m b=>Nat.beq n m&&eqL (A8 d) a b
  | .lT a n,.lT b m=>Nat.beq n m&&eqL (A8 d) a b
  | .ptr a b c,.ptr a' b' c'=>Nat.beq a a'&&(Nat.beq b b'&&Nat.beq c c')
  | .own a b c e,.own a' b' c' e'=>Nat.beq a a'&&(Nat.beq b b'&&(Nat.beq c c'&&Nat.beq e e'))
  | .iface t a,.iface t' b=>Nat.beq t t'&&A8 d a b
  | .fn (.func f) a c,.fn (.func f') a' c'=>Nat.beq f f'&&(eqL (A8 d) a a'&&eqL (A8 d) c c')
  | x,y=>qE x y
where
 eqL (f:AV→AV→Bool):List AV→List AV→Bool
 | [],[]=>true
 | a::as1,b::bs=>f a b&&eqL f as1 bs
 | _,_=>false
theorem qG {f:AV→AV→Bool}(hf:∀x y,f x y=true→x=y):∀(a b:List AV),A8.eqL f a b=true→a=b
 | [],[],_=>rfl
 | [],_::_,h=>by simp[A8.eqL]at h
 | _::_,[],h=>by simp[A8.eqL]at h
 | a::as1,b::bs,h=>by simp only[A8.eqL,Bool.and_eq_true]at h;rw[hf a b h.1,qG hf as1 bs h.2]
theorem vU:∀(d:Nat) (x y:AV),A8 d x y=true→x=y
 | 0,x,y,h=>pG h
 | d+1,x,y,h=>by
  have ih:=vU d;unfold A8 at h;split at h
  ·rw[qG ih _ _ h]
  ·rw[qG ih _ _ h]
  ·replace h:=s5z h;rw[h.1,qG ih _ _ h.2]
  ·replace h:=s5z h;rw[h.1,qG ih _ _ h.2]
  ·replace h:=s5z h;rw[h.1,h.2.1,h.2.2]
  ·replace h:=s5z h;rw[h.1,h.2.1,h.2.2.1,h.2.2.2]
  ·replace h:=s5z h;rw[h.1,ih _ _ h.2]
  ·replace h:=s5z h;rw[h.1,qG ih _ _ h.2.1,qG ih _ _ h.2.2]
  ·exact pG h
def ZP (a b:Blk):Bool:=match a,b with
 | ⟨g,v,e,z,cs,q⟩,⟨g',v',e',z',cs',q'⟩=>Nat.beq g g'&&((v==v')&&(Nat.beq e e'&&(Nat.beq z z'&&(Nat.beq q q'&&A8.eqL (A8 4) cs cs'))))
theorem QB {a b:Blk}(h:ZP a b=true):a=b:=by obtain ⟨g,v,e,z,cs,q⟩:=a;obtain ⟨g',v',e',z',cs',q'⟩:=b;simp only[ZP,Bool.and_eq_true,Nat.beq_eq,beq_iff_eq]at h;rw[h.1,h.2.1,h.2.2.1,h.2.2.2.1,h.2.2.2.2.1,qG (vU 4) _ _ h.2.2.2.2.2]
def aG:c6→c6→Bool
 | [],[]=>true
 | a::as1,b::bs=>ZP a b&&aG as1 bs
 | _,_=>false
theorem qH:∀{a b:c6},aG a b=true→a=b
 | [],[],_=>rfl
 | [],_::_,h=>by simp[aG]at h
 | _::_,[],h=>by simp[aG]at h
 | a::as1,b::bs,h=>by simp only[aG,Bool.and_eq_true]at h;rw[QB h.1,qH h.2]
def OP (C:Cfg)(call:fR)(pl:Option Nat)(want:Bool)(ρ:Operand→AV)(H:c6)(o:Op):Option (AV×c6):=
 match want with
 | false=>some (.tup [],H)
 | true=>match pl with
  | some β=>atA C ρ H β o
  | none=>match GO o with
   | true=>opE C call ρ H o
   | false=>match oZ C ρ H o with
    | some x=>some (x,H)
    | none=>none
variable {pl:Option Nat}
theorem runO_ok (hc:call.ok P C){H H':c6}(hr:OP C call pl true ρ H o=some (x,H')):OpG P C pl ρ H o fun y h=>y=x∧h=H':=by
 unfold OP at hr;unfold OpG;cases pl with
 | some β=>exact ⟨x,H',hr,rfl,rfl⟩
 | none=>
  simp only at hr ⊢;split at hr
  ·exact WM hc hr
  ·split at hr
   ·rename_i y hy;cases hr;exact .plain (iM hy) ⟨rfl,rfl⟩
   ·cases hr
def QC (want:Bool)(pl:Option Nat)(o:Op)(H' H:c6):Bool:=match want with
 | false=>true
 | true=>match pl with
  | some _=>false
  | none=>match GO o with
   | false=>true
   | true=>aG H' H
theorem Z1 {want:Bool}{H H':c6}(hr:OP C call pl want ρ H o=some (x,H'))(hs:QC want pl o H' H=true):H'=H:=by
 unfold QC at hs;unfold OP at hr;cases want with
 | false=>cases hr;rfl
 | true=>
  cases pl with
  | some β=>cases hs
  | none=>
   simp only at hs hr;split at hs
   ·rename_i ht;rw[ht]at hr;simp only at hr;split at hr
    ·cases hr;rfl
    ·cases hr
   ·exact qH hs
def okX (x:Option AV)(y:AV):Bool:=match x with
 | none=>true
 | some x=>A8 8 y x
def yF (C:Cfg)(call:fR)(p:w7)(i:Nat)(pl:Option Nat)(want:Bool)(ρ:Operand→AV)(o:Op):List (Nat×c6)→Option AV→Option (Option AV×List (Nat×c6))
 | [],x=>some (x,[])
 | (D,H)::W,x=>match p.fits i D with
  | false=>yF C call p i pl want ρ o W x
  | true=>match OP C call pl want ρ H o with
   | none=>none
   | some (y,H')=>fX o y fun y=>fHo o H' fun H'=>match okX x y with
    | false=>none
    | true=>match p.isE i with
     | true=>match yF C call p i pl want ρ o W (some (x.getD y)) with
      | some (z,news)=>fN (D|||2^i) fun D'=>some (z,(D',H')::news)
      | none=>none
     | false=>match QC want pl o H' H with
      | true=>yF C call p i pl want ρ o W (some (x.getD y))
      | false=>none
theorem tY {call:fR}{p:w7}{i:Nat}{pl:Option Nat}{want:Bool}{ρ:Operand→AV}{o:Op}:∀(W:List (Nat×c6)) (x z:Option AV) (news:List (Nat×c6)),yF C call p i pl want ρ o W x=some (z,news)→
  (∀x0,x=some x0→z=some x0)∧(∀D H,(D,H)∈W→p.fits i D=true→∃y H',z=some y∧OP C call pl want ρ H o=some (y,H')∧(p.isE i=true→(D|||2^i,H')∈news)∧(p.isE i=false→H'=H))∧
  (∀D' H',(D',H')∈news→∃D,D'=D|||2^i∧∃H,(D,H)∈W)
 | [],x,z,news,h=>by simp only[yF,Option.some.injEq,Prod.mk.injEq]at h;obtain ⟨rfl,rfl⟩:=h;exact ⟨fun _ h=>h,fun D H h=>by simp at h,fun D H h=>by simp at h⟩
 | (E,G)::W,x,z,news,h=>by
  simp only[yF]at h;split at h
  ·rename_i hf;obtain ⟨h1,h2,h3⟩:=tY W x z news h;refine ⟨h1,fun D H hm hfit=>?_,fun D' H' hm=>?_⟩
   ·rcases List.mem_cons.1 hm with he | hm
    ·cases he;rw[hf]at hfit;cases hfit
    ·exact h2 D H hm hfit
   ·obtain ⟨D,e,H,hm⟩:=h3 D' H' hm;exact ⟨D,e,H,List.mem_cons_of_mem _ hm⟩
  ·rename_i hf;split at h
   ·cases h
   ·rename_i y G' hr;rw[PY,GQ]at h;split at h
    ·cases h
    ·rename_i hx;have hxy:∀x0,x=some x0→y=x0:=fun x0 hx0=>by rw[hx0]at hx;exact vU 8 _ _ hx
     have hget:∀zz,(∀x0,some (x.getD y)=some x0→zz=some x0)→zz=some y:=fun zz hz=>by
      have:=hz _ rfl;rw[this];cases x with
      | none=>rfl
      | some x0=>rw[hxy x0 rfl];rfl
     split at h
     ·rename_i hE;split at h
      ·rename_i z' news' h4;rw[K7]at h;replace h:=s6z h;obtain ⟨rfl,rfl⟩:=h;obtain ⟨h1,h2,h3⟩:=tY W _ _ _ h4;have hz:=hget _ h1;refine ⟨fun x0 hx0=>by rw[hz,hxy x0 hx0],fun D H hm hfit=>?_,fun D' H' hm=>?_⟩
       ·rcases List.mem_cons.1 hm with he | hm
        ·cases he;exact ⟨y,G',hz,hr,fun _=>List.mem_cons_self,fun h=>by rw[hE]at h;cases h⟩
        ·obtain ⟨y',H',k1,k2,k3,k4⟩:=h2 D H hm hfit;exact ⟨y',H',k1,k2,fun e=>List.mem_cons_of_mem _ (k3 e),k4⟩
       ·rcases List.mem_cons.1 hm with he | hm
        ·cases he;exact ⟨E,rfl,G,List.mem_cons_self⟩
        ·obtain ⟨D,e,H,hm⟩:=h3 D' H' hm;exact ⟨D,e,H,List.mem_cons_of_mem _ hm⟩
      ·cases h
     ·rename_i hE;split at h
      ·rename_i hs;obtain ⟨h1,h2,h3⟩:=tY W _ _ _ h;have hz:=hget _ h1;refine ⟨fun x0 hx0=>by rw[hz,hxy x0 hx0],fun D H hm hfit=>?_,fun D' H' hm=>?_⟩
       ·rcases List.mem_cons.1 hm with he | hm
        ·cases he;exact ⟨y,G',hz,hr,fun h=>t112,fun _=>Z1 hr hs⟩
        ·exact h2 D H hm hfit
       ·obtain ⟨D,e,H,hm⟩:=h3 D' H' hm;exact ⟨D,e,H,List.mem_cons_of_mem _ hm⟩
      ·cases h
abbrev Pt:=Nat×Option Nat×Bool×Op×TT×AV
def ZR (C:Cfg)(call:fR)(p:w7)(n:Nat)(W:List (Nat×c6))(q:Pt):Bool:=
 W.all fun (D,H)=>match p.fits q.1 D with
  | false=>true
  | true=>match OP C call q.2.1 q.2.2.1 (OO C n q.2.2.2.2.1) H q.2.2.2.1 with
   | none=>false
   | some (y,H')=>A8 8 y q.2.2.2.2.2&&(match p.isE q.1 with
    | true=>match lookW W (D|||2^q.1) with
     | some H2=>aG H' H2
     | none=>false
    | false=>QC q.2.2.1 q.2.1 q.2.2.2.1 H' H)
def Hz (p:w7):List (Nat×c6)→List (Nat×c6)→Option (List (Nat×c6))
 | [],W=>some W
 | (D,H)::news,W=>match Hz p news W with
  | some W'=>match lookW W' D with
   | none=>match p.ON.contains D with
    | true=>some ((D,H)::W')
    | false=>none
   | some _=>none
  | none=>none
def Ia (C:Cfg)(call:fR)(ops:Array Oper)(p:w7)(n b:Nat){β:Type}:List Oper→Nat→TT→List (Nat×c6)→List Pt→(TT→c6→Option β)→Option β
 | [],_,T,W,pd,K=>match pd.all (ZR C call p n W) with
  | true=>match lookW W (p.full ops.size) with
   | some H=>K T H
   | none=>none
  | false=>none
 | o::rest,i,T,W,pd,K=>match PZ (C:=C) ops n T o with
  | some want=>match yF C call p i ((p.place.getD i none).map (b+·)) want (OO C n T) o.op W none with
   | some (some x,news)=>match Hz p news W with
    | some W'=>Gt n T o.dst x fun T'=>Ia C call ops p n b rest (i+1) T' W' (match p.lX.contains i with | true=>(i,(p.place.getD i none).map (b+·),want,o.op,T,x)::pd | false=>pd) K
    | none=>none
   | _=>none
  | none=>none
def w7.okS (p:w7)(n:Nat):Bool:=p.ON.contains 0&&(List.range n).all fun i=>p.lX.contains i||p.ON.all fun D=>! p.fits i D||Nat.blt D (2^i)
def w7.m (p:w7):Nat:=(p.place.filterMap id).length
def DT (W:List (Nat×c6)):Prop:=∀D H,(D,H)∈W→lookW W D=some H
theorem vV:∀{W:List (Nat×c6)} {D:Nat} {H:c6},lookW W D=some H→(D,H)∈W
 | [],_,_,h=>by simp[lookW]at h
 | (E,G)::W,D,H,h=>by
  simp only[lookW]at h;split at h
  ·rename_i he;cases h;rw[Nat.eq_of_beq_eq_true he];exact List.mem_cons_self
  ·exact List.mem_cons_of_mem _ (vV h)
theorem GX {p:w7}:∀(news W W':List (Nat×c6)),Hz p news W=some W'→DT W→DT W'∧(∃more,W'=more++W∧∀x∈more,x∈news∧x.1∈p.ON)∧(∀x∈news,x∈W')
 | [],W,W',h,hf=>by simp only[Hz,Option.some.injEq]at h;subst h;exact ⟨hf,⟨[],rfl,fun x hx=>by simp at hx⟩,fun x hx=>by simp at hx⟩
 | (D,H)::news,W,W',h,hf=>by
  simp only[Hz]at h;split at h
  ·rename_i W1 h1;split at h
   ·rename_i hn;split at h
    ·rename_i hs;simp only[Option.some.injEq]at h;subst h;obtain ⟨f1,⟨more,e1,m1⟩,n1⟩:=GX news W W1 h1 hf;refine ⟨fun E G hm=>?_,⟨(D,H)::more,by rw[e1];rfl,fun x hx=>?_⟩,fun x hx=>?_⟩
     ·simp only[lookW];rcases List.mem_cons.1 hm with he | hm
      ·cases he;simp
      ·split
       ·rename_i he;have:=Nat.eq_of_beq_eq_true he;subst this;have:=f1 _ _ hm;rw[hn]at this;cases this
       ·exact f1 _ _ hm
     ·rcases List.mem_cons.1 hx with rfl | hx
      ·exact ⟨List.mem_cons_self,by simpa using hs⟩
      ·exact ⟨List.mem_cons_of_mem _ (m1 x hx).1,(m1 x hx).2⟩
     ·rcases List.mem_cons.1 hx with rfl | hx
      ·exact List.mem_cons_self
      ·exact List.mem_cons_of_mem _ (n1 x hx)
    ·cases h
   ·cases h
  ·cases h
theorem oD {call:fR}{p:w7}{i:Nat}{pl:Option Nat}{ρ:Operand→AV}{o:Op}:∀(W:List (Nat×c6)) (x z:Option AV) (news:List (Nat×c6)),yF C call p i pl false ρ o W x=some (z,news)→(x=none∨x=some (.tup []))→(z=none∨z=some (.tup []))
 | [],x,z,news,h,hx=>by simp only[yF,Option.some.injEq,Prod.mk.injEq]at h;rw[←h.1];exact hx
 | (E,G)::W,x,z,news,h,hx=>by
  simp only[yF,OP]at h;have hx':(some (x.getD (.tup [])):Option AV)=none∨some (x.getD (.tup []))=some (.tup []):=by rcases hx with rfl | rfl<;>exact .inr rfl
  split at h
  ·exact oD W x z news h hx
  ·rw[PY,GQ]at h;split at h
   ·cases h
   ·split at h
    ·split at h
     ·rename_i z' news' h4;rw[K7]at h;replace h:=s6z h;obtain ⟨rfl,rfl⟩:=h;exact oD W _ _ _ h4 hx'
     ·cases h
    ·split at h
     ·exact oD W _ _ _ h hx'
     ·cases h
variable {ρ':Operand→AV}
theorem GY (hρ:∀x∈o.operands,ρ x=ρ' x):mkA C ρ o=mkA C ρ' o:=by
 cases o with
 | box t x=>simp only[mkA,hρ x t66]
 | buildSlice t n parts=>
  have:(parts.toList.map fun p=>(p.1,ρ p.2))=parts.toList.map fun p=>(p.1,ρ' p.2):=gA fun p hp=>by rw[hρ p.2 t153]
  simp only[mkA,this]
 | makeSlice t x y=>simp only[mkA,hρ x t66,hρ y t66]
 | _=>rfl
theorem OpG.congr {K:AV→c6→Prop}(hρ:∀x∈o.operands,ρ x=ρ' x)(r:OpG P C pl ρ h o K):OpG P C pl ρ' h o K:=by
 unfold OpG at r ⊢;cases pl with
 | none=>exact OpA.congr hρ r
 | some β=>
  obtain ⟨x,h',h1,h2⟩:=r;refine ⟨x,h',?_,h2⟩;unfold atA at h1 ⊢;rw[←GY hρ];exact h1
theorem GZ {call:fR}(hc:call.ok P C){ops:Array Oper}{p:w7}{d n b:Nat}{β:Type}{r:β}(hS:p.okS ops.size=true):∀(l:List Oper) (i:Nat) (T:TT) (sl:List AV) (W:List (Nat×c6)) (pd:List Pt) (K:TT→c6→Option β),
  Sl d n T sl→i+l.length=ops.size→Ia C call ops p n b l i T W pd K=some r→DT W→(∀D H,(D,H)∈W→D∈p.ON∧D<2^i)→
  ∃(rs:List AV) (Wf:List (Nat×c6)) (T':TT) (Hf:c6),rs.length=l.length∧DT Wf∧(∃more,Wf=more++W∧∀x∈more,2^i≤x.1)∧(∀x∈Wf,x.1∈p.ON)∧(∀q∈pd,ZR C call p n Wf q=true)∧
   (∀j o,l[j]?=some o→PX P C ops p b Wf (i+j) o (oY sl l rs j) (rs.getD j .any))∧lookW Wf (p.full ops.size)=some Hf∧Sl d n T' (oY sl l rs l.length)∧K T' Hf=some r
 | [],i,T,sl,W,pd,K,s,hi,he,hf,hk=>by
  simp only[Ia]at he;split at he
  ·rename_i hp;split at he
   ·rename_i H hl;exact ⟨[],W,T,H,rfl,hf,⟨[],rfl,fun x hx=>by simp at hx⟩,fun x hx=>(hk x.1 x.2 hx).1,fun q hq=>List.all_eq_true.1 hp q hq,fun j o hj=>by simp at hj,hl,s,he⟩
   ·cases he
  ·cases he
 | o::rest,i,T,sl,W,pd,K,s,hi,he,hf,hk=>by
  simp only[Ia]at he;rw[Y9 s,pI s]at he;split at he
  ·rename_i want hw;split at he
   ·rename_i x news hev;split at he
    ·rename_i W' hW;obtain ⟨T1,s1,he1⟩:=A6 s he;obtain ⟨q1,q2,q3⟩:=tY W none (some x) news hev;obtain ⟨f1,⟨more1,e1,m1⟩,n1⟩:=GX news W W' hW hf;have hnew:∀D' H',(D',H')∈news→2^i≤D'∧D'<2^(i+1):=fun D' H' hm=>by obtain ⟨D,rfl,H,hD⟩:=q3 D' H' hm;have h1:=(hk D H hD).2;refine ⟨?_,Nat.or_lt_two_pow (Nat.lt_trans h1 (Nat.pow_lt_pow_right (by decide) (by omega))) (Nat.pow_lt_pow_right (by decide) (by omega))⟩;exact Nat.right_le_or
     obtain ⟨rs,Wf,T',Hf,k1,k2,⟨more2,e2,m2⟩,k4,k5,k6,k7,k8,k9⟩:=GZ hc hS rest (i+1) T1 _ W' _ K s1 (by rw[←hi];simp;omega) he1 f1 (fun D H hm=>by
      rw[e1]at hm;rcases List.mem_append.1 hm with hm | hm
      ·exact ⟨(m1 _ hm).2,(hnew D H (m1 _ hm).1).2⟩
      ·exact ⟨(hk D H hm).1,Nat.lt_trans (hk D H hm).2 (Nat.pow_lt_pow_right (by decide) (by omega))⟩)
     have hin:i<ops.size:=by rw[←hi];simp
     have hbig:∀y∈more2++more1,2^i≤y.1:=fun y hy=>by
      rcases List.mem_append.1 hy with hy | hy
      ·exact Nat.le_trans (Nat.pow_le_pow_right (by decide) (by omega)) (m2 y hy)
      ·exact (hnew y.1 y.2 (m1 y hy).1).1
     have eW:Wf=(more2++more1)++W:=by rw[e2,e1,List.append_assoc]
     have fact:∀D H,lookW Wf D=some H→p.fits i D=true→∃H',OP C call ((p.place.getD i none).map (b+·)) want (rho C sl) H o.op=some (x,H')∧(p.isE i=true→lookW Wf (D|||2^i)=some H')∧(p.isE i=false→H'=H):=by
      intro D H hl hfit;have hm:=vV hl;cases hmu:p.lX.contains i with
      | true=>
       rw[hmu]at k5;have h1:=k5 _ List.mem_cons_self;unfold ZR at h1;have h2:=List.all_eq_true.1 h1 (D,H) hm;simp only[hfit,pI s]at h2;split at h2
       ·cases h2
       ·rename_i y H' hr;replace h2:=s3z h2;have hy:=vU 8 _ _ h2.1;subst hy;refine ⟨H',hr,fun hE=>?_,fun hE=>?_⟩
        ·have h3:=h2.2;rw[hE]at h3;simp only at h3;split at h3
         ·rename_i H2 hl2;rw[hl2,qH h3]
         ·cases h3
        ·have h3:=h2.2;rw[hE]at h3;exact Z1 hr h3
      | false=>
       have hD:=k4 (D,H) hm;unfold w7.okS at hS;replace hS:=s3z hS;have h1:=List.all_eq_true.1 hS.2 i (List.mem_range.2 hin);rw[hmu,Bool.false_or]at h1;have h2:=List.all_eq_true.1 h1 D hD;rw[hfit,Bool.not_true,Bool.false_or,Nat.blt_eq]at h2;have hmW:(D,H)∈W:=by
        rw[eW]at hm;rcases List.mem_append.1 hm with hm | hm
        ·have:=hbig _ hm;simp only at this;omega
        ·exact hm
       obtain ⟨y,H',e3,e4,e5,e6⟩:=q2 D H hmW hfit;cases e3;refine ⟨H',e4,fun hE=>k2 _ _ ?_,e6⟩;rw[e2];exact List.mem_append.2 (.inr (n1 _ (e5 hE)))
     refine ⟨x::rs,Wf,T',Hf,by simp[k1],k2,⟨more2++more1,eW,hbig⟩,k4,fun q hq=>?_,fun j oj hj=>?_,k7,k8,k9⟩
     ·cases hmu:p.lX.contains i with
      | true=>rw[hmu]at k5;exact k5 q (List.mem_cons_of_mem _ hq)
      | false=>rw[hmu]at k5;exact k5 q hq
     ·match j with
      | 0=>
       simp at hj;subst hj;rw[Nat.add_zero];cases want with
       | true=>
        refine .inl ⟨hw,fun D H hl hfit=>?_⟩;obtain ⟨H',e3,e4,e5⟩:=fact D H hl hfit;exact ⟨H',OpG.congr (vR (ops:=ops)) (runO_ok hc e3),e4,e5⟩
       | false=>
        have hx:x=.tup []:=by
         rcases oD W none (some x) news hev (.inl rfl) with h | h
         ·cases h
         ·exact Option.some.inj h
        refine .inr ⟨hw,hx,fun D H hl hfit hE=>?_⟩;obtain ⟨H',e3,e4,e5⟩:=fact D H hl hfit;simp only[OP,Option.some.injEq,Prod.mk.injEq]at e3;rw[e3.2];exact e4 hE
      | j+1=>
       have:=k6 j oj t150;rw[show i+(j+1)=i+1+j from by omega];exact this
    ·cases he
   ·cases he
  ·cases he
abbrev R8:=Nat→Option w7
def regE (C:Cfg)(call:fR)(pl:R8)(n:Nat){β:Type}(id:Nat)(ops:Array Oper)(draw:Bool)(T:TT)(h:c6)(K:TT→c6→Option β):Option β:=
 match draw with
 | false=>Gu C call ops n ops.toList T h K
 | true=>match pl id with
  | some p=>Ia C call ops p n h.length ops.toList 0 T [(0,h++kept p.m)] [] K
  | none=>none
def DU (f:TT→c6→Option (Exit×TT×c6)):Nat→TT→c6→Option (Exit×TT×c6)
 | 0,_,_=>none
 | k+1,T,h=>match f T h with
  | some (.normal,T,h)=>DU f k T h
  | r=>r
def mZ (C:Cfg)(call:fR)(pl:R8)(n:Nat):Code→TT→c6→Option (Exit×TT×c6)
 | .skip,T,h=>some (.normal,T,h)
 | .region id ops draw,T,h=>regE C call pl n id ops draw T h fun T h=>some (.normal,T,h)
 | .seq a b,T,h=>match mZ C call pl n a T h with
  | some (.normal,T,h)=>mZ C call pl n b T h
  | r=>r
 | .cond c x y,T,h=>match OO C n T c with
  | .bool true=>mZ C call pl n x T h
  | .bool false=>mZ C call pl n y T h
  | _=>none
 | .block id c,T,h=>match mZ C call pl n c T h with
  | some (.exit id',T,h)=>match Nat.beq id' id with
   | true=>some (.normal,T,h)
   | false=>some (.exit id',T,h)
  | r=>r
 | .loop c,T,h=>DU (mZ C call pl n c) 100000 T h
 | .exit id,T,h=>some (.exit id,T,h)
 | .ret,T,h=>some (.ret,T,h)
 | _,_,_=>none
def eD (pl:R8)(n:Nat):Code→Bool
 | .region id ops true=>match pl id with
  | some p=>p.ok ops n&&p.okS ops.size
  | none=>true
 | .seq a b=>eD pl n a&&eD pl n b
 | .cond _ x y=>eD pl n x&&eD pl n y
 | .block _ c=>eD pl n c
 | .loop c=>eD pl n c
 | _=>true
theorem QD {c:Code}{f:TT→c6→Option (Exit×TT×c6)}(hf:∀T sl h e T' h',Sl d n T sl→f T h=some (e,T',h')→c9 P C c ⟨sl,h⟩ fun e' st=>e'=e∧Sl d n T' st.sl∧st.h=h') :
  ∀(k:Nat) (T:TT) (sl:List AV) (h:c6) (e:Exit) (T':TT) (h':c6),Sl d n T sl→DU f k T h=some (e,T',h')→c9 P C (.loop c) ⟨sl,h⟩ fun e' st=>e'=e∧Sl d n T' st.sl∧st.h=h':=by
 intro k T sl h e T' h' s he;refine c9.loop (fun m st=>∃T,Sl d n T st.sl∧DU f m T st.h=some (e,T',h')) k ⟨T,s,he⟩ ?_;rintro m ⟨sl1,h1⟩ ⟨T1,s1,he1⟩;cases m with
 | zero=>simp[DU]at he1
 | succ m=>
  simp only[DU]at he1;split at he1
  ·rename_i T2 h2 hf2;refine (hf T1 sl1 h1 _ T2 h2 s1 hf2).mono ?_;rintro e' st ⟨rfl,s2,rfl⟩;exact ⟨m,Nat.lt_succ_self m,T2,s2,he1⟩
  ·rename_i hne;refine (hf T1 sl1 h1 e T' h' s1 he1).mono ?_;rintro e' st ⟨rfl,s2,rfl⟩;cases e' with
   | normal=>exact absurd he1 (hne _ _)
   | exit id=>exact ⟨rfl,s2,rfl⟩
   | goto l=>exact ⟨rfl,s2,rfl⟩
   | ret=>exact ⟨rfl,s2,rfl⟩
   | panic ch=>exact ⟨rfl,s2,rfl⟩
   | outgrown=>exact ⟨rfl,s2,rfl⟩
theorem QE (g:Good P C)(hc:call.ok P C){pl:R8}:∀(c:Code),eD pl n c=true→∀(T:TT) (sl:List AV) (h:c6) (e:Exit) (T':TT) (h':c6),Sl d n T sl→mZ C call pl n c T h=some (e,T',h')→
  c9 P C c ⟨sl,h⟩ fun e' st=>e'=e∧Sl d n T' st.sl∧st.h=h':=by
 intro c;induction c with
 | skip=>
  intro _ T sl h e T' h' s he;simp only[mZ,Option.some.injEq,Prod.mk.injEq]at he;obtain ⟨rfl,rfl,rfl⟩:=he;exact c9.skip ⟨rfl,s,rfl⟩
 | region id ops draw=>
  intro hp T sl h e T' h' s he;simp only[mZ,regE]at he;split at he
  ·refine c9.region g (A7 hc ops.toList T sl h _ s he fun T2 sl2 h2 s2 h3=>?_);replace h3:=s6z h3;obtain ⟨rfl,rfl,rfl⟩:=h3;exact ⟨rfl,s2,rfl⟩
  ·split at he
   ·rename_i p hpl;simp only[eD,hpl,Bool.and_eq_true]at hp;have hs0:0∈p.ON:=by have:=hp.2;unfold w7.okS at this;replace this:=s3z this;simpa using this.1
    obtain ⟨rs,Wf,T2,Hf,k1,k2,⟨more,e2,m2⟩,k4,k5,k6,k7,k8,k9⟩:=GZ hc hp.2 ops.toList 0 T sl [(0,h++kept p.m)] [] _ s (by simp) he (fun D H hm=>by
     simp only[List.mem_singleton,Prod.mk.injEq]at hm;obtain ⟨rfl,rfl⟩:=hm;simp[lookW]) (fun D H hm=>by
     simp only[List.mem_singleton,Prod.mk.injEq]at hm;obtain ⟨rfl,rfl⟩:=hm;exact ⟨hs0,by decide⟩)
    replace k9:=s6z k9;obtain ⟨rfl,rfl,rfl⟩:=k9;rw[Array.length_toList]at k1 k8;refine c9.drawG g p p.m (by rw[s.len];exact hp.1) rs Wf Hf k1 (k2 _ _ (by rw[e2];simp)) k7 (fun j o ho=>?_) ⟨rfl,k8,rfl⟩;have:=k6 j o (by simpa using ho);rwa[Nat.zero_add]at this
   ·cases he
 | seq a b iha ihb=>
  intro hp T sl h e T' h' s he;simp only[eD,Bool.and_eq_true]at hp;simp only[mZ]at he;split at he
  ·rename_i T2 h2 h3;refine c9.seq ((iha hp.1 T sl h _ T2 h2 s h3).mono ?_);rintro e' st ⟨rfl,s2,rfl⟩;exact ihb hp.2 T2 st.sl st.h e T' h' s2 he
  ·rename_i hne;refine c9.seq ((iha hp.1 T sl h e T' h' s he).mono ?_);rintro e' st ⟨rfl,s2,rfl⟩;cases e' with
   | normal=>exact absurd he (hne _ _)
   | exit id=>exact ⟨rfl,s2,rfl⟩
   | goto l=>exact ⟨rfl,s2,rfl⟩
   | ret=>exact ⟨rfl,s2,rfl⟩
   | panic ch=>exact ⟨rfl,s2,rfl⟩
   | outgrown=>exact ⟨rfl,s2,rfl⟩
 | cond c x y ihx ihy=>
  intro hp T sl h e T' h' s he;simp only[eD,Bool.and_eq_true]at hp;simp only[mZ]at he;rw[pI s]at he;split at he
  ·rename_i hv;exact c9.A0 hv (ihx hp.1 T sl h e T' h' s he)
  ·rename_i hv;exact c9.DO hv (ihy hp.2 T sl h e T' h' s he)
  ·cases he
 | block id c ih=>
  intro hp T sl h e T' h' s he;simp only[eD]at hp;simp only[mZ]at he;split at he
  ·rename_i id' T2 h2 h3;refine c9.block ((ih hp T sl h _ T2 h2 s h3).mono ?_);rintro e' st ⟨rfl,s2,rfl⟩;split at he
   ·rename_i hid;replace he:=s6z he;obtain ⟨rfl,rfl,h4⟩:=he;simp only[vK];rw[if_pos (Nat.eq_of_beq_eq_true hid)];first | exact ⟨rfl,s2,h4⟩ | exact ⟨trivial,s2,h4⟩
   ·rename_i hid;replace he:=s6z he;obtain ⟨rfl,rfl,h4⟩:=he;simp only[vK];rw[if_neg (fun hh=>by rw[hh]at hid;simp at hid)];first | exact ⟨rfl,s2,h4⟩ | exact ⟨trivial,s2,h4⟩
  ·rename_i hne;refine c9.block ((ih hp T sl h e T' h' s he).mono ?_);rintro e' st ⟨rfl,s2,rfl⟩;cases e' with
   | exit id'=>exact absurd he (hne _ _ _)
   | normal=>exact ⟨rfl,s2,rfl⟩
   | goto l=>exact ⟨rfl,s2,rfl⟩
   | ret=>exact ⟨rfl,s2,rfl⟩
   | panic ch=>exact ⟨rfl,s2,rfl⟩
   | outgrown=>exact ⟨rfl,s2,rfl⟩
 | loop c ih=>
  intro hp T sl h e T' h' s he;simp only[eD]at hp;simp only[mZ]at he;exact QD (fun T sl h e T' h' s he=>ih hp T sl h e T' h' s he) _ T sl h e T' h' s he
 | exit id=>
  intro _ T sl h e T' h' s he;simp only[mZ,Option.some.injEq,Prod.mk.injEq]at he;obtain ⟨rfl,rfl,rfl⟩:=he;exact c9.exit ⟨rfl,s,rfl⟩
 | ret=>
  intro _ T sl h e T' h' s he;simp only[mZ,Option.some.injEq,Prod.mk.injEq]at he;obtain ⟨rfl,rfl,rfl⟩:=he;exact c9.ret ⟨rfl,s,rfl⟩
 | _=>intro _ T sl h e T' h' s he;simp[mZ]at he
def rX (n:Nat):Nat:=match Nat.ble n 32 with
 | true=>5
 | false=>match Nat.ble n 128 with
  | true=>7
  | false=>10
def fill:List AV→Nat→TT→TT
 | [],_,T=>T
 | x::xs,i,T=>fill xs (i+1) (T.set i x)
def QF {β:Type}:List AV→Nat→TT→(TT→β)→β
 | [],_,T,K=>K T
 | x::xs,i,T,K=>T.put i x fun T=>QF xs (i+1) T K
theorem Z2 {β:Type}:∀(l:List AV) (i:Nat) (T:TT) (K:TT→β),QF l i T K=K (fill l i T)
 | [],_,_,_=>rfl
 | x::xs,i,T,K=>by simp only[QF,fill,TT.put_eq,Z2 xs]
theorem HA {d n:Nat}:∀(xs:List AV) (i:Nat) (T:TT) (sl:List AV),Sl d n T sl→i+xs.length≤n→(∀t,i≤t→sl.getD t .any=.any)→
  Sl d n (fill xs i T) (sl.take i++xs++List.replicate (n-i-xs.length) .any)
 | [],i,T,sl,s,hi,ha=>by
  refine ⟨by simp at hi ⊢;rw[s.len];omega,s.fit,s.deep,fun t ht=>?_⟩;rw[show fill [] i T=T from rfl,←s.get t ht,List.append_nil];have hi':i≤n:=by simpa using hi
  by_cases h:t<i
  ·rw[List.getD_eq_getElem?_getD,List.getElem?_append_left (by simp[s.len];omega),List.getElem?_take,if_pos h,←List.getD_eq_getElem?_getD]
  ·rw[ha t (by omega),List.getD_eq_getElem?_getD,List.getElem?_append_right t65,List.getElem?_replicate];split<;>rfl
 | x::xs,i,T,sl,s,hi,ha=>by
  have hi':i<n:=by simp at hi;omega
  have:=HA xs (i+1) (T.set i x) (sl.set i x) (s.set i x hi') (by simp at hi;omega) (fun t ht=>by rw[List.getD_eq_getElem?_getD,List.getElem?_set_ne (by omega),←List.getD_eq_getElem?_getD];exact ha t (by omega))
  have e1:(sl.set i x).take (i+1)=sl.take i++[x]:=by rw[List.take_add_one,List.take_set_of_le (Nat.le_refl i)];simp[s.len,hi']
  have e2:n-(i+1)-xs.length=n-i-(x::xs).length:=by simp;omega
  rw[e1,e2]at this;show Sl d n (fill xs (i+1) (T.set i x)) _;simpa using this
def HB (n0:Nat)(x:AV)(h:c6):Option (AV×c6):=
 match jQ n0 h 6 x with
 | some y=>match PM n0 h with
  | some h2=>fD 40 y fun y=>fH h2 fun h2=>some (y,h2)
  | none=>fD 40 x fun x=>some (x,h)
 | none=>fD 40 x fun x=>some (x,h)
def ZS (C:Cfg)(n:Nat)(T:TT)(h:c6):ResultVar→Option AV
 | .tmp t=>some (OO C n T (.tmp t))
 | .cell a t=>DJ C h t (OO C n T (.tmp a))
def QG (C:Cfg)(n:Nat)(T:TT)(h:c6):List ResultVar→Option (List AV)
 | []=>some []
 | r::rest=>match ZS C n T h r,QG C n T h rest with
  | some x,some xs=>some (x::xs)
  | _,_=>none
def Ic (C:Cfg)(rs:Array ResultVar)(n:Nat)(T:TT)(h:c6):Option AV:=
 match QG C n T h rs.toList with
 | some [x]=>some x
 | some xs=>some (.tup xs)
 | none=>none
theorem resT_eq (s:Sl d n T sl)(h:c6)(rs:Array ResultVar):Ic C rs n T h=yD C rs sl h:=by
 have key:∀l,QG C n T h l=lE C sl h l:=by
  intro l;induction l with
  | nil=>rfl
  | cons r l ih=>
   simp only[QG,lE,ih];have:ZS C n T h r=mX C sl h r:=by cases r<;>simp only[ZS,mX,pI s]<;>rfl
   rw[this];rfl
 unfold Ic yD;rw[key];rfl
abbrev lY:=FuncId→R8
def xX (C:Cfg)(ap:lY)(call:fR):fR:=fun f args h=>match C.fns f with
 | some fn=>match fn.body with
  | some c=>match Nat.ble args.length fn.ntmps&&Nat.ble fn.ntmps 1024 with
   | true=>QF args 0 (TT.full (rX fn.ntmps)) fun T=>match mZ C call (ap f) fn.ntmps c T h with
    | some (.normal,T,h1)=>match Ic C fn.results fn.ntmps T h1 with
     | some x=>match C.lU f with
      | true=>fD 40 x fun x=>fH h1 fun h1=>some (x,h1)
      | false=>HB h.length x h1
     | none=>none
    | some (.ret,T,h1)=>match Ic C fn.results fn.ntmps T h1 with
     | some x=>match C.lU f with
      | true=>fD 40 x fun x=>fH h1 fun h1=>some (x,h1)
      | false=>HB h.length x h1
     | none=>none
    | _=>none
   | false=>none
  | none=>none
 | none=>none
def u9 (C:Cfg)(ap:lY):Nat→fR
 | 0=>fun _ _ _=>none
 | k+1=>xX C ap (u9 C ap k)
abbrev sX:=List (FuncId×List AV×c6×AV×c6)
def HC:sX→FuncId→List AV→c6→Option (AV×c6)
 | [],_,_,_=>none
 | (g,as1,l,x,l')::rest,f,args,h=>match Nat.beq g f&&(A8.eqL (A8 40) as1 args&&aG l h) with
  | true=>some (x,l')
  | false=>HC rest f args h
def kG (tab:sX)(call:fR):fR:=fun f args h=>match HC tab f args h with
 | some r=>some r
 | none=>call f args h
variable {f:FuncId}{args:List AV}
theorem QH {h1:c6}{y:AV}{h2:c6}(r:CallA P C f args h fun a b=>a=x∧b=h1)(he:HB h.length x h1=some (y,h2)):CallA P C f args h fun a b=>a=y∧b=h2:=by
 unfold HB at he;simp only[GM,ZO]at he;split at he
 ·rename_i z hz;split at he
  ·rename_i k hk;replace he:=s6z he;obtain ⟨rfl,rfl⟩:=he;exact r.frz fun a b ⟨e1,e2⟩=>by subst e1 e2;exact ⟨_,_,hz,hk,rfl,rfl⟩
  ·replace he:=s6z he;obtain ⟨rfl,rfl⟩:=he;exact r
 ·replace he:=s6z he;obtain ⟨rfl,rfl⟩:=he;exact r
def vW (C:Cfg)(ap:lY):Prop:=∀f fn c,C.fns f=some fn→fn.body=some c→eD (ap f) fn.ntmps c=true
theorem cZ (g:Good P C){ap:lY}(hp:vW C ap)(ih:call.ok P C):(xX C ap call).ok P C:=by
 intro f args h x h' he;simp only[xX]at he;split at he
 ·rename_i fn hf;split at he
  ·rename_i c hb;split at he
   ·rename_i hn;simp only[Bool.and_eq_true,Nat.ble_eq]at hn;rw[Z2]at he;have hd:fn.ntmps≤2^rX fn.ntmps:=by
     unfold rX;split
     ·rename_i h1;rw[Nat.ble_eq]at h1;omega
     ·split
      ·rename_i h1;rw[Nat.ble_eq]at h1;omega
      ·omega
    have s0:Sl (rX fn.ntmps) fn.ntmps (TT.full (rX fn.ntmps)) (List.replicate fn.ntmps .any):=by refine ⟨by simp,hd,TT.vT _,fun t ht=>?_⟩;rw[TT.Y8,List.getD_eq_getElem?_getD,List.getElem?_replicate];split<;>rfl
    have s1:=HA args 0 _ _ s0 (by omega) (fun t _=>by rw[List.getD_eq_getElem?_getD,List.getElem?_replicate];split<;>rfl)
    rw[List.take_zero,List.nil_append,Nat.sub_zero]at s1;have fin:∀(e:Exit) (T:TT) (h1:c6),(e=.normal∨e=.ret)→mZ C call (ap f) fn.ntmps c (fill args 0 (TT.full (rX fn.ntmps))) h=some (e,T,h1)→
      (match Ic C fn.results fn.ntmps T h1 with
       | some x=>match C.lU f with
        | true=>fD 40 x fun x=>fH h1 fun h1=>some (x,h1)
        | false=>HB h.length x h1
       | none=>none)=some (x,h')→CallA P C f args h fun y k=>y=x∧k=h':=by
     intro e T h1 hen hc hr;split at hr
     ·rename_i z hz;have r:=QE g ih c (hp f fn c hf hb) _ _ h e T h1 s1 hc;have key:CallA P C f args h fun a b=>a=z∧b=h1:=by
       refine CallA.lU g hf hb (r.mono ?_);rintro e' st ⟨rfl,s2,rfl⟩;rw[resT_eq s2]at hz;rcases hen with rfl | rfl
       ·exact ⟨z,hz,rfl,rfl⟩
       ·exact ⟨z,hz,rfl,rfl⟩
      split at hr
      ·rw[GM,ZO]at hr;cases hr;exact key
      ·exact QH key hr
     ·cases hr
    split at he
    ·rename_i T h1 hc;exact fin .normal T h1 (.inl rfl) hc he
    ·rename_i T h1 hc;exact fin .ret T h1 (.inr rfl) hc he
    ·cases he
   ·cases he
  ·cases he
 ·cases he
theorem A9 (g:Good P C){ap:lY}(hp:vW C ap):∀k,(u9 C ap k).ok P C
 | 0=>fun f args h x h' he=>by simp[u9]at he
 | k+1=>cZ g hp (A9 g hp k)
def dN (P:Program)(C:Cfg)(tab:sX):Prop:=∀f args h x h',(f,args,h,x,h')∈tab→CallA P C f args h fun y k=>y=x∧k=h'
theorem Z3:dN P C []:=fun f args h x h' hm=>by simp at hm
variable {tab:sX}
theorem aM {h':c6}(hc:call.ok P C)(he:call f args h=some (x,h'))(hm:dN P C tab):dN P C ((f,args,h,x,h')::tab):=by
 intro f2 a2 h2 x2 k2 hmem;rcases List.mem_cons.1 hmem with h | h
 ·cases h;exact hc _ _ _ _ _ he
 ·exact hm _ _ _ _ _ h
theorem bB (hm:dN P C tab)(hc:call.ok P C):(kG tab call).ok P C:=by
 have key:∀(t:sX),dN P C t→∀f args h r,HC t f args h=some r→CallA P C f args h fun y k=>y=r.1∧k=r.2:=by
  intro t;induction t with
  | nil=>intro _ f args h r hr;simp[HC]at hr
  | cons e t ih=>
   obtain ⟨g,as1,l,x,l'⟩:=e;intro ht f args h r hr;simp only[HC]at hr;split at hr
   ·rename_i hb;replace hb:=s3z hb;have h1:=Nat.eq_of_beq_eq_true hb.1;have h2:=qG (vU 40) _ _ hb.2.1;have h3:=qH hb.2.2;subst h1 h2 h3;cases hr;exact ht _ _ _ _ _ List.mem_cons_self
   ·exact ih (fun f args h x h' hm=>ht f args h x h' (List.mem_cons_of_mem _ hm)) f args h r hr
 intro f args h x h' he;unfold kG at he;split at he
 ·rename_i r hr;cases he;exact key tab hm f args h _ hr
 ·exact hc f args h x h' he
def AV.scalar:AV→Bool
 | .bool _ | .int _ _ | .str _=>true
 | _=>false
theorem CallA.frame0 (hx:x.scalar=true)(r:CallA P C f [] [] fun y h'=>y=x∧h'=[])(h:c6):CallA P C f [] h fun y h'=>y=x∧h'=h:=by
 intro B φ w cargs i hs hr;have hst:∀k,k<w.heap.size→X6 [] φ w k:=fun k hk=>⟨hk,fun β b hb=>by simp at hb⟩;have i0:Pic C.eJ w.heap.size [] φ w:=⟨fun β b hb=>by simp at hb,fun β β' b b' hb=>by simp at hb,fun β b hb=>by simp at hb,fun β b hb=>by simp at hb,Nat.le_refl _,fun g=>(i.eJ g).mono fun k j hk=>⟨rfl,(hst k hk.1).X7 j⟩⟩;refine (r w.heap.size φ w cargs i0 hs (fun j v x h1 h2=>by simp at h2)).mono fun e w' hp=>?_;obtain ⟨v,y,h',φ',rfl,h1,h2,h3,rfl,rfl⟩:=hp;have hk:∀k,k<w.heap.size→w'.heap[k]?=w.heap[k]?:=fun k hk=>(h2.lU k (hst k hk)).1;have ev:Ev h φ w h φ w':=⟨h2.os,h2.tape,h2.output,h2.size,fun k hs=>⟨hk k hs.1,Nat.lt_of_lt_of_le hs.1 h2.size,hs.2⟩,fun k j hs=>⟨World.cell?_of_block (hk k hs.1),Nat.lt_of_lt_of_le hs.1 h2.size,hs.2⟩,Nat.le_refl _,fun β b b' e1 e2=>by rw[e1]at e2;cases e2;exact ⟨Nat.le_refl _,fun _=>⟨rfl,rfl,rfl⟩⟩⟩;refine ⟨v,y,h,φ,rfl,⟨fun β b hb hv=>?_,i.inj,i.base,i.cQ,Nat.le_trans i.room h2.size,fun g=>ev.H8 (i.eJ g)⟩,ev,?_,rfl,rfl⟩
 ·obtain ⟨cur,q1,q2,q3,q4⟩:=i.blk β b hb hv;exact ⟨cur,(hk _ (Array.getElem?_eq_some_iff.1 q1).1).trans q1,q2,q3,fun j v x a d=>⟨(q4 j v x a d).1,ev.rel (q4 j v x a d).2⟩⟩
 ·cases y with
  | bool b=>cases h3.bP;exact .bW _
  | int k n=>cases h3.z5;exact .bY _ _
  | str s=>cases h3.eX;exact .pX _
  | _=>cases hx
def R9:List (Nat×w7)→R8
 | [],_=>none
 | (i,p)::rest,id=>match Nat.beq i id with
  | true=>some p
  | false=>R9 rest id
def qI:List (Nat×List (Nat×w7))→FuncId→R8
 | [],_=>fun _=>none
 | (g,l)::rest,f=>match Nat.beq g f with
  | true=>R9 l
  | false=>qI rest f
def tZ (C:Cfg)(tab:List (Nat×List (Nat×w7))):Bool:=
 tab.all fun x=>match C.fns x.1 with
  | some fn=>match fn.body with
   | some c=>eD (R9 x.2) fn.ntmps c
   | none=>true
  | none=>true
theorem K8 (n:Nat):∀c,eD (fun _=>none) n c=true:=by
 intro c;induction c with
 | region id ops draw=>cases draw<;>rfl
 | seq a b iha ihb=>simp only[eD,iha,ihb,Bool.and_self]
 | cond c x y ihx ihy=>simp only[eD,ihx,ihy,Bool.and_self]
 | block id c ih=>exact ih
 | loop c ih=>exact ih
 | _=>rfl
theorem yT {C:Cfg}{tab:List (Nat×List (Nat×w7))}(h:tZ C tab=true):vW C (fun f=>qI tab f):=by
 intro f fn c hf hb;induction tab with
 | nil=>exact K8 _ _
 | cons x rest ih=>
  obtain ⟨g,l⟩:=x;simp only[tZ,List.all_cons,Bool.and_eq_true]at h;simp only[qI];split
  ·rename_i hg;have hg':=Nat.eq_of_beq_eq_true hg;subst hg';have:=h.1;rw[hf]at this;simp only[hb]at this;exact this
  ·exact ih h.2
end
section
variable {P:Program}{C:Cfg}{G:Nat→AV}{B:Nat}{h:c6}{φ:Map}{w:World}
def z4 (n:Nat)(h:c6):c6:=h.take n++(h.drop n).map rR
theorem kL (n:Nat)(h:c6):(z4 n h).length=h.length:=by simp[z4];omega
variable {n:Nat}
theorem dO {β:Nat}{c:Blk}(hc:(z4 n h)[β]?=some c):(β<n∧h[β]?=some c)∨(n≤β∧∃b,h[β]?=some b∧c=rR b):=by
 unfold z4 at hc;by_cases hb:β<n
 ·left;refine ⟨hb,?_⟩;by_cases hl:β<h.length
  ·rw[List.getElem?_append_left t65,List.getElem?_take,if_pos hb]at hc;exact hc
  ·rw[List.getElem?_eq_none t65]at hc;cases hc
 ·right;refine ⟨by omega,?_⟩;by_cases hl:n≤h.length
  ·rw[List.getElem?_append_right t65]at hc;simp only[List.length_take,Nat.min_eq_left hl,List.getElem?_map,List.getElem?_drop]at hc;rw[show n+(β-n)=β from by omega]at hc;cases hx:h[β]? with
   | none=>rw[hx]at hc;cases hc
   | some b=>rw[hx]at hc;exact ⟨b,rfl,(Option.some.inj hc).symm⟩
  ·rw[List.getElem?_eq_none t65]at hc;cases hc
theorem HD {β:Nat}{b:Blk}(hb:h[β]?=some b):(z4 n h)[β]?=some (if β<n then b else rR b):=by
 have hl:=(List.getElem?_eq_some_iff.1 hb).1;unfold z4;by_cases hn:β<n
 ·rw[if_pos hn,List.getElem?_append_left t65,List.getElem?_take,if_pos hn];exact hb
 ·rw[if_neg hn,List.getElem?_append_right t65];have hl2:n≤h.length:=by omega
  simp only[List.length_take,Nat.min_eq_left hl2,List.getElem?_map,List.getElem?_drop];rw[show n+(β-n)=β from by omega,hb];rfl
theorem B1 (n:Nat)(i:Pic G B h φ w):Pic G B (z4 n h) φ w∧Ev h φ w (z4 n h) φ w:=by
 have ev:Ev h φ w (z4 n h) φ w:=by
  refine ⟨rfl,rfl,rfl,Nat.le_refl _,fun k hk=>⟨rfl,hk.1,fun β b hb hv=>?_⟩,fun k j hk=>⟨rfl,hk.1,fun β b hb hv=>?_⟩,by rw[kL];exact Nat.le_refl _,fun β b b' h1 h2=>?_⟩
  ·rcases dO hb with ⟨_,h'⟩ | ⟨_,b',_,rfl⟩
   ·exact hk.2 β b h' hv
   ·cases hv
  ·rcases dO hb with ⟨_,h'⟩ | ⟨_,b',_,rfl⟩
   ·exact hk.2 β b h' hv
   ·cases hv
  ·rw[HD h1]at h2;split at h2
   ·cases h2;exact ⟨Nat.le_refl _,fun _=>⟨rfl,rfl,rfl⟩⟩
   ·cases h2;exact ⟨by simp[rR],fun e=>by simp[rR]at e⟩
 refine ⟨⟨fun β b hb hv=>?_,fun β β' b b' hb hb' hv hv' he=>?_,fun β b hb hv=>?_,fun β b hb hv=>?_,i.room,fun g=>ev.H8 (i.eJ g)⟩,ev⟩
 ·rcases dO hb with ⟨_,h'⟩ | ⟨_,b',_,rfl⟩
  ·obtain ⟨cur,h1,h2,h3,h4⟩:=i.blk β b h' hv;exact ⟨cur,h1,h2,h3,fun j v x a d=>⟨(h4 j v x a d).1,ev.rel (h4 j v x a d).2⟩⟩
  ·cases hv
 ·rcases dO hb with ⟨_,h1⟩ | ⟨_,c,_,rfl⟩
  ·rcases dO hb' with ⟨_,h2⟩ | ⟨_,c,_,rfl⟩
   ·exact i.inj β β' b b' h1 h2 hv hv' he
   ·cases hv'
  ·cases hv
 ·rcases dO hb with ⟨_,h'⟩ | ⟨_,b',_,rfl⟩
  ·exact i.base β b h' hv
  ·cases hv
 ·rcases dO hb with ⟨_,h'⟩ | ⟨_,b',_,rfl⟩
  ·exact i.cQ β b h' hv
  ·rfl
theorem S0 {k j:Nat}(hk:eQ (h.take n) φ w k j):eQ (z4 n h) φ w k j:=by
 refine ⟨hk.1,fun β b hb hv=>?_⟩;rcases dO hb with ⟨hn,h'⟩ | ⟨_,b',_,rfl⟩
 ·exact hk.2 β b (qD h' hn) hv
 ·cases hv
def pJ (n:Nat)(h:c6)(x:AV):Option AV:=
 match x with
 | .agg xs=>(o6 (iT n h 6) xs).map .agg
 | .tup xs=>(o6 (iT n h 6) xs).map .tup
 | .ptr β g off=>match h[β]? with
  | some b=>if b.gen=g∧b.cQ=false∧n≤β then (o6 (iT n h 6) b.cells).map (fun cs=>.lT cs off) else none
  | none=>none
 | x=>iT n h 6 x
variable {v:Value}{x:AV}
theorem B2 (i:Pic G B h φ w)(n:Nat){y:AV}(hx:pJ n h x=some y)(r:Rel h φ w v x):Rel (z4 n h) φ w v y:=by
 have low:∀{v:Value} {x y:AV},iT n h 6 x=some y→Rel h φ w v x→PRel w (eQ (z4 n h) φ w) v y:=fun h1 h2=>(zY i n 6 _ _ _ h1 h2).mono fun k j hk=>⟨rfl,S0 hk⟩;unfold pJ at hx;split at hx
 ·rename_i xs;obtain ⟨ys,hys,rfl⟩:=Option.map_eq_some_iff.1 hx;obtain ⟨a,rfl,ha,h1,hr⟩:=r.kR;obtain ⟨hlen,hget⟩:=fZ hys;refine .agg a ys (by rw[ha,hlen]) h1 fun j u z hu hz=>?_;obtain ⟨x,hx1,hx2⟩:=hget j z hz;exact .pure (low hx2 (hr j u x hu hx1))
 ·rename_i xs;obtain ⟨ys,hys,rfl⟩:=Option.map_eq_some_iff.1 hx;obtain ⟨a,rfl,ha,hr⟩:=r.nG;obtain ⟨hlen,hget⟩:=fZ hys;refine .tup a ys (by rw[ha,hlen]) fun j u z hu hz=>?_;obtain ⟨x,hx1,hx2⟩:=hget j z hz;exact .pure (low hx2 (hr j u x hu hx1))
 ·rename_i β g off;split at hx
  ·rename_i b hb;split at hx
   ·rename_i hc;obtain ⟨hg,hv,hn⟩:=hc;obtain ⟨cs,hcs,rfl⟩:=Option.map_eq_some_iff.1 hx;obtain ⟨bl,b',rfl,hb',hg2,hbl⟩:=r.rT;rw[hb]at hb';cases hb';have:=hbl hg.symm hv;subst this;obtain ⟨cur,hw,hsz,hl,hr⟩:=i.blk β b hb hv;obtain ⟨hlen,hget⟩:=fZ hcs;refine .pure ?_;have e:({ block:=(φ β).1,off:=off,spot:=none }:Addr)=⟨(φ β).1,0+off,none⟩:=by rw[Nat.zero_add]
    rw[e];refine .lT (φ β).1 0 off cs (cur.toList.take b.cells.length) (fun m hm=>⟨i.lt hb hv,fun γ c hγ hcv he=>?_⟩) t65 (fun j u hu=>?_) (fun j u z hu hz=>?_)
    ·rcases dO hγ with ⟨hγn,hγ'⟩ | ⟨_,b',_,rfl⟩
     ·have:=i.inj γ β c b hγ' hb hcv hv he;omega
     ·cases hcv
    ·rw[List.getElem?_take]at hu;split at hu
     ·rename_i hj;have hu':cur[j]?=some u:=by simpa using hu
      refine ⟨by rw[Nat.zero_add,cell_of_row w _ _ cur _ _ hw];exact hu',?_⟩;exact (hr j u b.cells[j] hu' (List.getElem?_eq_getElem hj)).1
     ·cases hu
    ·obtain ⟨x,hx1,hx2⟩:=hget j z hz;rw[List.getElem?_take]at hu;split at hu
     ·exact low hx2 (hr j u x t149 hx1).2
     ·cases hu
   ·cases hx
  ·cases hx
 ·exact .pure (low hx r)
def OQ (n:Nat)(h:c6):List AV→List AV→Prop
 | [],[]=>True
 | y::ys,x::xs=>(y=.any∨pJ n h x=some y)∧OQ n h ys xs
 | _,_=>False
theorem OQ.get {n:Nat}{h:c6}:∀{ys xs:List AV},OQ n h ys xs→ys.length=xs.length∧∀t,ys.getD t .any=.any∨pJ n h (xs.getD t .any)=some (ys.getD t .any)
 | [],[],_=>⟨rfl,fun t=>.inl rfl⟩
 | y::ys,x::xs,hf=>by
  obtain ⟨h1,h2⟩:=hf;obtain ⟨k1,k2⟩:=OQ.get h2;refine ⟨by simp[k1],fun t=>?_⟩
  match t with
  | 0=>simpa using h1
  | t+1=>simpa using k2 t
 | [],_::_,hf=>hf.elim
 | _::_,[],hf=>hf.elim
theorem HE (r:Rel h φ w v x):Refs 0 x→Rel [] φ w v x:=by
 have hst:∀k j,eQ h φ w k j→eQ [] φ w k j:=fun k j hk=>⟨hk.1,fun β b hb=>by simp at hb⟩;induction r with
 | pure hp=>exact fun _=>.pure (hp.mono fun k j hk=>⟨rfl,hst k j hk⟩)
 | ptr β g off bl b hb hg hv=>intro hx;cases hx with | ptr _ _ _ hl=>omega
 | own β g off len cap ad b hb hg hlc hcm had hn hv=>intro hx;cases hx with | own _ _ _ _ hl=>omega
 | fn f a c xs ys ha hc _ _ iha ihc=>
  intro hx;cases hx with
  | fn _ _ _ h1 h2=>exact .fn f a c xs ys ha hc (fun j v x k1 k2=>iha j v x k1 k2 (h1 x (List.mem_of_getElem? k2))) (fun j v x k1 k2=>ihc j v x k1 k2 (h2 x (List.mem_of_getElem? k2)))
 | iface t v x _ ih=>
  intro hx;cases hx with
  | iface _ _ h1=>exact .iface t v x (ih h1)
 | agg a xs ha h1 _ ih=>
  intro hx;cases hx with
  | agg _ h2=>exact .agg a xs ha h1 fun j v x k1 k2=>ih j v x k1 k2 (h2 x (List.mem_of_getElem? k2))
 | tup a xs ha _ ih=>
  intro hx;cases hx with
  | tup _ h2=>exact .tup a xs ha fun j v x k1 k2=>ih j v x k1 k2 (h2 x (List.mem_of_getElem? k2))
def ZU:AV→AV
 | .bool b=>.bool b
 | .int k n=>.int k n
 | .str s=>.str s
 | .tup xs=>.tup (xs.map fun x=>match x with
  | .bool b=>.bool b
  | .int k n=>.int k n
  | .str s=>.str s
  | _=>.any)
 | _=>.any
theorem B3 {h1 h2:c6}{φ1 φ2:Map}{w:World}(r:Rel h1 φ1 w v x):Rel h2 φ2 w v (ZU x):=by
 unfold ZU;split
 ·cases r.bP;exact .bW _
 ·cases r.z5;exact .bY _ _
 ·cases r.eX;exact .pX _
 ·rename_i xs;obtain ⟨a,rfl,ha,hr⟩:=r.nG;refine .tup a _ (by simp[ha]) fun j u z hu hz=>?_;rw[List.getElem?_map]at hz;cases hx:xs[j]? with
  | none=>rw[hx]at hz;cases hz
  | some x=>
   rw[hx]at hz;simp only[Option.map_some,Option.some.injEq]at hz;subst hz;have:=hr j u x hu hx;split
   ·cases this.bP;exact .bW _
   ·cases this.z5;exact .bY _ _
   ·cases this.eX;exact .pX _
   ·exact .jW _
 ·exact .jW _
theorem CallA.frameP {f:FuncId}{args:List AV}(ha:args.all (aF 0 9)=true)(r:CallA P C f args [] fun y _=>y=x)(h:c6):CallA P C f args h fun y h'=>y=ZU x∧h'=h:=by intro B φ w cargs i hs hr;have hst:∀k,k<w.heap.size→X6 [] φ w k:=fun k hk=>⟨hk,fun β b hb=>by simp at hb⟩;have i0:Pic C.eJ w.heap.size [] φ w:=⟨fun β b hb=>by simp at hb,fun β β' b b' hb=>by simp at hb,fun β b hb=>by simp at hb,fun β b hb=>by simp at hb,Nat.le_refl _,fun g=>(i.eJ g).mono fun k j hk=>⟨rfl,(hst k hk.1).X7 j⟩⟩;refine (r w.heap.size φ w cargs i0 hs (fun j v x h1 h2=>HE (hr j v x h1 h2) (eC 9 x (List.all_eq_true.1 ha x (List.mem_of_getElem? h2))))).mono fun e w' hp=>?_;obtain ⟨v,y,h',φ',rfl,h1,h2,h3,rfl⟩:=hp;have hk:∀k,k<w.heap.size→w'.heap[k]?=w.heap[k]?:=fun k hk=>(h2.lU k (hst k hk)).1;have ev:Ev h φ w h φ w':=⟨h2.os,h2.tape,h2.output,h2.size,fun k hs=>⟨hk k hs.1,Nat.lt_of_lt_of_le hs.1 h2.size,hs.2⟩,fun k j hs=>⟨World.cell?_of_block (hk k hs.1),Nat.lt_of_lt_of_le hs.1 h2.size,hs.2⟩,Nat.le_refl _,fun β b b' e1 e2=>by rw[e1]at e2;cases e2;exact ⟨Nat.le_refl _,fun _=>⟨rfl,rfl,rfl⟩⟩⟩;refine ⟨v,_,h,φ,rfl,⟨fun β b hb hv=>?_,i.inj,i.base,i.cQ,Nat.le_trans i.room h2.size,fun g=>ev.H8 (i.eJ g)⟩,ev,B3 h3,rfl,rfl⟩;obtain ⟨cur,q1,q2,q3,q4⟩:=i.blk β b hb hv;exact ⟨cur,(hk _ (Array.getElem?_eq_some_iff.1 q1).1).trans q1,q2,q3,fun j v x a d=>⟨(q4 j v x a d).1,ev.rel (q4 j v x a d).2⟩⟩
end
section
variable {P:Program}{C:Cfg}{G:Nat→AV}{B:Nat}{h:c6}{φ:Map}{w:World}
def eM (b:Blk)(k:Nat):Blk:={ b with frz:=max b.frz k }
theorem jK {β γ k:Nat}{b c:Blk}(hb:h[β]?=some b)(hc:(h.set β (eM b k))[γ]?=some c):(γ=β∧c=eM b k)∨(γ≠β∧h[γ]?=some c):=by
 have hl:=(List.getElem?_eq_some_iff.1 hb).1;by_cases e:γ=β
 ·subst e;rw[List.getElem?_set_self hl]at hc;exact .inl ⟨rfl,by simpa using hc.symm⟩
 ·rw[List.getElem?_set_ne (Ne.symm e)]at hc;exact .inr ⟨e,hc⟩
theorem qJ {β:Nat}{b:Blk}(k:Nat)(i:Pic G B h φ w)(hb:h[β]?=some b):Pic G B (h.set β (eM b k)) φ w∧Ev h φ w (h.set β (eM b k)) φ w:=by
 have ev:Ev h φ w (h.set β (eM b k)) φ w:=by
  refine ⟨rfl,rfl,rfl,Nat.le_refl _,fun j hj=>⟨rfl,hj.1,fun γ c hc hv=>?_⟩,fun j m hj=>⟨rfl,hj.1,fun γ c hc hv he=>?_⟩,by simp,fun γ c c' h1 h2=>?_⟩
  ·rcases jK hb hc with ⟨rfl,rfl⟩ | ⟨_,hc'⟩
   ·exact hj.2 _ b hb hv
   ·exact hj.2 γ c hc' hv
  ·rcases jK hb hc with ⟨rfl,rfl⟩ | ⟨_,hc'⟩
   ·exact Nat.lt_of_lt_of_le (hj.2 _ b hb hv he) (Nat.le_max_left _ _)
   ·exact hj.2 γ c hc' hv he
  ·rcases jK hb h2 with ⟨rfl,rfl⟩ | ⟨_,h2'⟩
   ·rw[hb]at h1;cases h1;exact ⟨Nat.le_refl _,fun _=>⟨rfl,rfl,rfl⟩⟩
   ·rw[h1]at h2';cases h2';exact ⟨Nat.le_refl _,fun _=>⟨rfl,rfl,rfl⟩⟩
 refine ⟨⟨fun γ c hc hv=>?_,fun γ γ' c c' hc hc' hv hv' he=>?_,fun γ c hc hv=>?_,fun γ c hc hv=>?_,i.room,fun g=>ev.H8 (i.eJ g)⟩,ev⟩
 ·rcases jK hb hc with ⟨rfl,rfl⟩ | ⟨_,hc'⟩
  ·obtain ⟨cur,h1,h2,h3,h4⟩:=i.blk _ b hb hv;exact ⟨cur,h1,h2,h3,fun j v x a d=>⟨(h4 j v x a d).1,ev.rel (h4 j v x a d).2⟩⟩
  ·obtain ⟨cur,h1,h2,h3,h4⟩:=i.blk γ c hc' hv;exact ⟨cur,h1,h2,h3,fun j v x a d=>⟨(h4 j v x a d).1,ev.rel (h4 j v x a d).2⟩⟩
 ·rcases jK hb hc with ⟨rfl,rfl⟩ | ⟨n1,k1⟩<;>rcases jK hb hc' with ⟨rfl,rfl⟩ | ⟨n2,k2⟩
  ·rfl
  ·exact i.inj _ _ b c' hb k2 hv hv' he
  ·exact i.inj _ _ c b k1 hb hv hv' he
  ·exact i.inj _ _ c c' k1 k2 hv hv' he
 ·rcases jK hb hc with ⟨rfl,rfl⟩ | ⟨_,hc'⟩
  ·exact i.base _ b hb hv
  ·exact i.base γ c hc' hv
 ·rcases jK hb hc with ⟨rfl,rfl⟩ | ⟨_,hc'⟩
  ·exact i.cQ _ b hb hv
  ·exact i.cQ γ c hc' hv
theorem B4 {β g off len:Nat}{b:Blk}{cs:List AV}{v:Value}(i:Pic G B h φ w)(hb:h[β]?=some b)(hg:b.gen=g)(hv:b.cQ=false)(hle:off+len*b.esz≤b.cells.length)
  (hc:o6 qF ((b.cells.drop off).take (len*b.esz))=some cs) (r:Rel h φ w v (.own β g off len)):Rel (h.set β (eM b (off+len*b.esz))) φ w v (.vec len cs):=by
 obtain ⟨hlen,hget⟩:=fZ hc;obtain ⟨ad,cap,b',rfl,hb',hg2,hlc,hcm,had,hn,hvv⟩:=r.jV;rw[hb]at hb';cases hb';obtain ⟨rfl,_⟩:=hvv hg.symm hv;obtain ⟨cur,hw,hs,hl,hr⟩:=i.blk β b hb hv;obtain ⟨i',ev⟩:=qJ (off+len*b.esz) i hb;have hlen':cs.length=len*b.esz:=by rw[hlen];simp;omega
 have hvl:((cur.toList.drop off).take (len*b.esz)).length=len*b.esz:=by simp;omega
 refine .pure (.vec (φ β).1 off len cap cs ((cur.toList.drop off).take (len*b.esz)) (fun m hm=>⟨i.lt hb hv,fun γ c hγ hcv he=>?_⟩) hlc (by rw[hlen'];simp;omega) (fun j u hu=>?_) (fun j u z hu hz=>?_))
 ·rcases jK hb hγ with ⟨rfl,rfl⟩ | ⟨hne,h1⟩
  ·rw[hvl]at hm;exact Nat.lt_of_lt_of_le (by omega) (Nat.le_max_right _ _)
  ·exact absurd (i.inj γ β c b h1 hb hcv hv he) hne
 ·rw[List.getElem?_take,List.getElem?_drop]at hu;split at hu
  ·rename_i hj;have hu':cur[off+j]?=some u:=by simpa using hu
   refine ⟨by rw[cell_of_row w _ _ cur _ _ hw];exact hu',?_⟩;have hjc:off+j<b.cells.length:=by omega
   exact (hr (off+j) u b.cells[off+j] hu' (List.getElem?_eq_getElem hjc)).1
  ·cases hu
 ·obtain ⟨x,hx1,hx2⟩:=hget j z hz;rw[List.getElem?_take,List.getElem?_drop]at hu hx1;split at hu
  ·rename_i hj;rw[if_pos hj]at hx1;exact ev.H8 (GG hx2 (hr (off+j) u x t149 hx1).2)
  ·cases hu
theorem CallA.HF {f:FuncId}{args args':List AV}{Q:AV→c6→Prop}{β off len:Nat}{b:Blk}{cs:List AV}(hb:h[β]?=some b)(hv:b.cQ=false)(hle:off+len*b.esz≤b.cells.length)
  (hc:o6 qF ((b.cells.drop off).take (len*b.esz))=some cs) (ha:DQ β b.gen off len cs args' args) (r:CallA P C f args' (h.set β (eM b (off+len*b.esz))) Q):CallA P C f args h Q:=by
 intro B φ w cargs i hs hr;obtain ⟨i',ev⟩:=qJ (off+len*b.esz) i hb;obtain ⟨k1,k2⟩:=ha.get;refine (r B φ w cargs i' t221 fun j v y h1 h2=>?_).mono fun e w' ⟨v,x,h',φ',q1,q2,q3,q4,q5⟩=>⟨v,x,h',φ',q1,q2,ev.trans q3,q4,q5⟩;have hj:j<args.length:=by rw[←k1];exact (List.getElem?_eq_some_iff.1 h2).1
 have hx:args[j]?=some args[j]:=List.getElem?_eq_getElem hj;rcases k2 j y _ h2 hx with rfl | ⟨e1,rfl⟩
 ·exact ev.rel (hr j v _ h1 hx)
 ·exact B4 i hb rfl hv hle hc (e1▸hr j v _ h1 hx)
theorem CallA.borrow {f:FuncId}{args args':List AV}{x:AV}(ha:OQ 0 h args' args)(r:CallA P C f args' (z4 0 h) fun y _=>y=x):CallA P C f args h fun y k=>y=ZU x∧k=h:=by
 intro B φ w cargs i hs hr;obtain ⟨i',_⟩:=B1 0 i;obtain ⟨k1,k2⟩:=ha.get;refine (r B φ w cargs i' t221 fun j v y h1 h2=>?_).mono fun e w' hp=>?_
 ·have hj:j<args.length:=by rw[←k1];exact (List.getElem?_eq_some_iff.1 h2).1
  have e1:args'.getD j .any=y:=by simp[List.getD,h2]
  have e2:args.getD j .any=args[j]:=by simp[List.getD,hj]
  rcases k2 j with h | h
  ·rw[e1]at h;rw[h];exact .jW _
  ·rw[e1,e2]at h;exact B2 i 0 h (hr j v _ h1 (List.getElem?_eq_getElem hj))
 ·obtain ⟨v,y,h',φ',rfl,h1,h2,h3,rfl⟩:=hp;have hfree:∀k,k<w.heap.size→X6 (z4 0 h) φ w k:=fun k hk=>⟨hk,fun β b hb hv=>by
   rcases dO hb with ⟨hn,_⟩ | ⟨_,b',_,rfl⟩
   ·omega
   ·cases hv⟩
  have hk:∀k,k<w.heap.size→w'.heap[k]?=w.heap[k]?:=fun k hk=>(h2.lU k (hfree k hk)).1;have ev:Ev h φ w h φ w':=⟨h2.os,h2.tape,h2.output,h2.size,fun k hs=>⟨hk k hs.1,Nat.lt_of_lt_of_le hs.1 h2.size,hs.2⟩,fun k j hs=>⟨World.cell?_of_block (hk k hs.1),Nat.lt_of_lt_of_le hs.1 h2.size,hs.2⟩,Nat.le_refl _,fun β b b' e1 e2=>by rw[e1]at e2;cases e2;exact ⟨Nat.le_refl _,fun _=>⟨rfl,rfl,rfl⟩⟩⟩;refine ⟨v,_,h,φ,rfl,⟨fun β b hb hv=>?_,i.inj,i.base,i.cQ,Nat.le_trans i.room h2.size,fun g=>ev.H8 (i.eJ g)⟩,ev,B3 h3,rfl,rfl⟩;obtain ⟨cur,q1,q2,q3,q4⟩:=i.blk β b hb hv;exact ⟨cur,(hk _ (Array.getElem?_eq_some_iff.1 q1).1).trans q1,q2,q3,fun j v x a d=>⟨(q4 j v x a d).1,ev.rel (q4 j v x a d).2⟩⟩
end
end Go.Ab
end
section
namespace Go.Ab
section
variable {P:Program}{C:Cfg}
def sY:List Bool→List Nat→List c6→(Nat→c6→Prop)→Prop
 | true::bs,D::Ks,H::Hs,f=>f D H∧sY bs Ks Hs f
 | false::bs,_::Ks,_::Hs,f=>sY bs Ks Hs f
 | _,_,_,_=>True
def lH:List Bool→List c6→(c6→c6→Prop)→List c6→Prop
 | true::bs,H::Hs,f,N::Ns=>f H N∧lH bs Hs f Ns
 | true::_,_::_,_,[]=>False
 | false::bs,_::Hs,f,Ns=>lH bs Hs f Ns
 | [],[],_,[]=>True
 | _,_,_,_=>False
def sZ (i:Nat):List Bool→List Nat→List Nat
 | true::bs,D::Ks=>(D|||2^i)::sZ i bs Ks
 | false::bs,_::Ks=>sZ i bs Ks
 | _,_=>[]
abbrev Pg:=Nat×((Nat→Option c6)→Nat→c6→Prop)
def eB (P:Program)(C:Cfg)(p:w7)(b i:Nat)(o:Oper)(sl:List AV)(want:Bool)(x:AV)(look:Nat→Option c6)(D:Nat)(H:c6):Prop:=
 ∃H',(match want with
  | true=>OpG P C ((p.place.getD i none).map (b+·)) (rho C sl) H o.op fun y h=>y=x∧h=H'
  | false=>x=.tup []∧H'=H)∧(p.isE i=true→look (D|||2^i)=some H')∧(p.isE i=false→H'=H)
def aB (P:Program)(C:Cfg)(ops:Array Oper)(p:w7)(b:Nat):List Oper→Nat→List AV→List Nat→List c6→List Pg→(St→Prop)→Prop
 | [],_,sl,Ks,Hs,pd,Q=>(∀q∈pd,∀D H,(D,H)∈Ks.zip Hs→p.fits q.1 D=true→q.2 (lookW (Ks.zip Hs)) D H)∧∃H,lookW (Ks.zip Hs) (p.full ops.size)=some H∧Q ⟨sl,H⟩
 | o::rest,i,sl,Ks,Hs,pd,Q=>∃want x Ns,aX ops sl o=some want∧
   (p.isE i=false→Ns=[])∧(p.isE i=true→lH (Ks.map (p.fits i)) Hs (fun H N=>match want with
    | true=>OpG P C ((p.place.getD i none).map (b+·)) (rho C sl) H o.op fun y h=>y=x∧h=N
    | false=>x=.tup []∧N=H) Ns)∧
   (p.isE i=false→(∀H,match want with
    | true=>OpG P C ((p.place.getD i none).map (b+·)) (rho C sl) H o.op fun y h=>y=x∧h=H
    | false=>x=.tup [])∨sY (Ks.map (p.fits i)) Ks Hs fun _ H=>match want with
    | true=>OpG P C ((p.place.getD i none).map (b+·)) (rho C sl) H o.op fun y h=>y=x∧h=H
    | false=>x=.tup [])∧
   (want=false→x=.tup [])∧
   ∃pd',(pd'=(i,eB P C p b i o sl want x)::pd∨(pd'=pd∧(p.lX.contains i=false∨p.isE i=false∧∀H,match want with
    | true=>OpG P C ((p.place.getD i none).map (b+·)) (rho C sl) H o.op fun y h=>y=x∧h=H
    | false=>x=.tup [])))∧
   aB P C ops p b rest (i+1) (eY sl o.dst x) ((match p.isE i with | true=>sZ i (Ks.map (p.fits i)) Ks | false=>[])++Ks) (Ns++Hs) pd' Q
theorem B5 {f:Nat→c6→Prop}:∀{bs:List Bool} {Ks:List Nat} {Hs:List c6},bs.length=Ks.length→sY bs Ks Hs f→∀(D:Nat) (H:c6) (j:Nat),Ks[j]?=some D→Hs[j]?=some H→bs[j]?=some true→f D H
 | [],Ks,Hs,hl,_,D,H,j,h1,_,h3=>by simp at h3
 | b::bs,[],Hs,hl,_,D,H,j,h1,_,_=>by simp at h1
 | b::bs,K::Ks,[],hl,_,D,H,j,_,h2,_=>by simp at h2
 | b::bs,K::Ks,G::Hs,hl,h,D,H,j,h1,h2,h3=>by
  match j with
  | 0=>
   simp at h1 h2 h3;subst h1 h2 h3;exact h.1
  | j+1=>
   have h':sY bs Ks Hs f:=by
    cases b with
    | true=>exact h.2
    | false=>exact h
   exact B5 t189 h' D H j t141 t115 (by simpa using h3)
theorem qK {f:c6→c6→Prop}{i:Nat}:∀{bs:List Bool} {Ks:List Nat} {Hs Ns:List c6},bs.length=Ks.length→Ks.length=Hs.length→lH bs Hs f Ns→
  (sZ i bs Ks).length=Ns.length∧(∀D H,(D,H)∈Ks.zip Hs→(∃j:Nat,Ks[j]?=some D∧Hs[j]?=some H∧bs[j]?=some true)→∃N,f H N∧(D|||2^i,N)∈(sZ i bs Ks).zip Ns)∧(∀K∈sZ i bs Ks,∃D∈Ks,K=D|||2^i)
 | [],[],[],[],_,_,_=>⟨rfl,fun D H h=>by simp at h,fun K hK=>by simp[sZ]at hK⟩
 | [],[],[],N::Ns,_,_,h=>by simp[lH]at h
 | true::bs,K::Ks,G::Hs,N::Ns,h1,h2,h=>by
  obtain ⟨k1,k2,k3⟩:=qK (i:=i) t141 t115 h.2;refine ⟨by simp[sZ,k1],fun D H hm ⟨j,j1,j2,j3⟩=>?_,fun E hE=>?_⟩
  ·match j with
   | 0=>
    simp at j1 j2;subst j1 j2;exact ⟨N,h.1,by simp[sZ]⟩
   | j+1=>
    simp only[List.getElem?_cons_succ]at j1 j2 j3;obtain ⟨M,m1,m2⟩:=k2 D H (List.mem_of_getElem? (i:=j) (by simp[List.getElem?_zip_eq_some,j1,j2])) ⟨j,j1,j2,j3⟩;exact ⟨M,m1,by simp only[sZ,List.zip_cons_cons];exact List.mem_cons_of_mem _ m2⟩
  ·simp only[sZ]at hE;rcases List.mem_cons.1 hE with rfl | hE
   ·exact ⟨K,List.mem_cons_self,rfl⟩
   ·obtain ⟨D,d1,d2⟩:=k3 E hE;exact ⟨D,List.mem_cons_of_mem _ d1,d2⟩
 | true::bs,K::Ks,G::Hs,[],h1,h2,h=>by simp[lH]at h
 | false::bs,K::Ks,G::Hs,Ns,h1,h2,h=>by
  have h':lH bs Hs f Ns:=by simpa only[lH] using h
  obtain ⟨k1,k2,k3⟩:=qK (i:=i) (bs:=bs) (Ks:=Ks) t141 t115 h';refine ⟨by simpa [sZ] using k1,fun D H hm ⟨j,j1,j2,j3⟩=>?_,fun E hE=>?_⟩
  ·match j with
   | 0=>simp at j3
   | j+1=>
    simp only[List.getElem?_cons_succ]at j1 j2 j3;obtain ⟨M,m1,m2⟩:=k2 D H (List.mem_of_getElem? (i:=j) (by simp[List.getElem?_zip_eq_some,j1,j2])) ⟨j,j1,j2,j3⟩;exact ⟨M,m1,by simpa only[sZ] using m2⟩
  ·simp only[sZ]at hE;obtain ⟨D,d1,d2⟩:=k3 E hE;exact ⟨D,List.mem_cons_of_mem _ d1,d2⟩
 | [],K::Ks,_,_,h1,_,_=>by simp at h1
 | b::bs,[],_,_,h1,_,_=>by simp at h1
 | [],[],H::Hs,_,_,h2,_=>by simp at h2
 | b::bs,K::Ks,[],_,_,h2,_=>by simp at h2
variable {D:Nat}{H:c6}
theorem HG {Ks:List Nat}{Hs:List c6}(h:(D,H)∈Ks.zip Hs):∃j:Nat,Ks[j]?=some D∧Hs[j]?=some H:=by obtain ⟨j,hj⟩:=List.mem_iff_getElem?.1 h;exact ⟨j,(List.getElem?_zip_eq_some.1 hj).1,(List.getElem?_zip_eq_some.1 hj).2⟩
def S1 (p:w7):Nat→Nat→List Nat→List Nat
 | 0,_,Ks=>Ks
 | n+1,i,Ks=>S1 p n (i+1) ((match p.isE i with | true=>sZ i (Ks.map (p.fits i)) Ks | false=>[])++Ks)
def w7.okK (p:w7)(n:Nat):Bool:=(S1 p n 0 [0]).all (p.ON.contains ·)&&K9 (S1 p n 0 [0])
where
 K9:List Nat→Bool
 | []=>true
 | x::xs=>! xs.contains x&&K9 xs
theorem vX:∀{Ks:List Nat} {Hs:List c6},w7.okK.K9 Ks=true→DT (Ks.zip Hs)
 | [],Hs,_=>fun D H h=>by simp at h
 | K::Ks,[],_=>fun D H h=>by simp at h
 | K::Ks,G::Hs,h=>by
  simp only[w7.okK.K9,Bool.and_eq_true,Bool.not_eq_true']at h;intro D H hm;rw[List.zip_cons_cons]at hm ⊢;simp only[lookW];rcases List.mem_cons.1 hm with he | hm
  ·cases he;simp
  ·split
   ·rename_i he;have:=Nat.eq_of_beq_eq_true he;subst this;have h2:=(List.of_mem_zip hm).1;rw[←List.contains_iff_mem,h.1]at h2;cases h2
   ·exact vX h.2 D H hm
theorem yU {ops:Array Oper}{p:w7}{b:Nat}{Q:St→Prop}(hS:p.okS ops.size=true):∀(l:List Oper) (i:Nat) (sl:List AV) (Ks:List Nat) (Hs:List c6) (pd:List Pg),
  i+l.length=ops.size→Ks.length=Hs.length→(∀D∈Ks,D<2^i)→(∀D∈S1 p l.length i Ks,D∈p.ON)→w7.okK.K9 (S1 p l.length i Ks)=true→aB P C ops p b l i sl Ks Hs pd Q→
  ∃(rs:List AV) (Kf:List Nat) (Hl:List c6) (Hf:c6),rs.length=l.length∧Kf.length=Hl.length∧Kf=S1 p l.length i Ks∧(∃more,Kf.zip Hl=more++Ks.zip Hs∧∀x∈more,2^i≤x.1)∧
   (∀q∈pd,∀D H,(D,H)∈Kf.zip Hl→p.fits q.1 D=true→q.2 (lookW (Kf.zip Hl)) D H)∧
   (∀j o,l[j]?=some o→PX P C ops p b (Kf.zip Hl) (i+j) o (oY sl l rs j) (rs.getD j .any))∧lookW (Kf.zip Hl) (p.full ops.size)=some Hf∧Q ⟨oY sl l rs l.length,Hf⟩
 | [],i,sl,Ks,Hs,pd,hi,hl,hk,hs,hn,he=>by obtain ⟨h1,H,h2,h3⟩:=he;exact ⟨[],Ks,Hs,H,rfl,hl,rfl,⟨[],rfl,fun x hx=>by simp at hx⟩,h1,fun j o hj=>by simp at hj,h2,h3⟩
 | o::rest,i,sl,Ks,Hs,pd,hi,hl,hk,hs,hn,he=>by
  obtain ⟨want,x,Ns,hw,hNs,hE,hA,hx,pd',hpd,hr⟩:=he;have hin:i<ops.size:=by rw[←hi];simp
  have hlen2:((match p.isE i with | true=>sZ i (Ks.map (p.fits i)) Ks | false=>[])++Ks).length=(Ns++Hs).length:=by
   cases hEi:p.isE i with
   | true=>simp[(qK (i:=i) (by simp) hl (hE hEi)).1,hl]
   | false=>simp[hNs hEi,hl]
  have hkeys:∀D∈(match p.isE i with | true=>sZ i (Ks.map (p.fits i)) Ks | false=>[]),2^i≤D∧D<2^(i+1):=by
   intro D hD;cases hEi:p.isE i with
   | true=>
    rw[hEi]at hD;obtain ⟨E,e1,rfl⟩:=(qK (i:=i) (by simp) hl (hE hEi)).2.2 D hD;exact ⟨Nat.right_le_or,Nat.or_lt_two_pow (Nat.lt_trans (hk E e1) (Nat.pow_lt_pow_right (by decide) (by omega))) (Nat.pow_lt_pow_right (by decide) (by omega))⟩
   | false=>
    rw[hEi]at hD;simp at hD
  obtain ⟨rs,Kf,Hl,Hf,k1,k2,k3,⟨more2,e2,m2⟩,k5,k6,k7,k8⟩:=yU hS rest (i+1) (eY sl o.dst x) _ (Ns++Hs) pd' (by rw[←hi];simp;omega) hlen2 (fun D hD=>by
   rcases List.mem_append.1 hD with hD | hD
   ·exact (hkeys D hD).2
   ·exact Nat.lt_trans (hk D hD) (Nat.pow_lt_pow_right (by decide) (by omega))) hs hn hr
  have hlenK:(match p.isE i with | true=>sZ i (Ks.map (p.fits i)) Ks | false=>[]).length=Ns.length:=by have:=hlen2;simp only[List.length_append]at this;omega
  have eW:Kf.zip Hl=(more2++(match p.isE i with | true=>sZ i (Ks.map (p.fits i)) Ks | false=>[]).zip Ns)++Ks.zip Hs:=by rw[e2,List.zip_append hlenK,List.append_assoc]
  have hbig:∀y∈more2++(match p.isE i with | true=>sZ i (Ks.map (p.fits i)) Ks | false=>[]).zip Ns,2^i≤y.1:=by
   intro y hy;rcases List.mem_append.1 hy with hy | hy
   ·exact Nat.le_trans (Nat.pow_le_pow_right (by decide) (by omega)) (m2 y hy)
   ·exact (hkeys y.1 (List.of_mem_zip (show (y.1,y.2)∈_ from hy)).1).1
  have hKf:Kf=S1 p (o::rest).length i Ks:=k3;have hfun:DT (Kf.zip Hl):=vX (by rw[hKf];exact hn);have fact:∀D H,lookW (Kf.zip Hl) D=some H→p.fits i D=true→eB P C p b i o sl want x (lookW (Kf.zip Hl)) D H:=by
   intro D H hlk hfit;have hm:=vV hlk;rcases hpd with rfl | ⟨rfl,hmu | ⟨hEi,hall⟩⟩
   ·exact k5 _ List.mem_cons_self D H hm hfit
   ·have hD:D∈p.ON:=hs D (by rw[←hKf];exact (List.of_mem_zip hm).1);unfold w7.okS at hS;replace hS:=s3z hS;have h1:=List.all_eq_true.1 hS.2 i (List.mem_range.2 hin);rw[hmu,Bool.false_or]at h1;have h2:=List.all_eq_true.1 h1 D hD;rw[hfit,Bool.not_true,Bool.false_or,Nat.blt_eq]at h2;have hmW:(D,H)∈Ks.zip Hs:=by
     rw[eW]at hm;rcases List.mem_append.1 hm with hm | hm
     ·have:=hbig _ hm;simp only at this;omega
     ·exact hm
    obtain ⟨j,j1,j2⟩:=HG hmW;have j3:(Ks.map (p.fits i))[j]?=some true:=by rw[List.getElem?_map,j1];simp[hfit]
    cases hEi:p.isE i with
    | true=>
     obtain ⟨N,n1,n2⟩:=(qK (i:=i) (by simp) hl (hE hEi)).2.1 D H hmW ⟨j,j1,j2,j3⟩;refine ⟨N,?_,fun _=>hfun _ _ ?_,fun h=>(by rw[hEi]at h;cases h)⟩
     ·cases want<;>exact n1
     ·rw[eW,hEi];exact List.mem_append.2 (.inl (List.mem_append.2 (.inr n2)))
    | false=>
     refine ⟨H,?_,fun h=>(by rw[hEi]at h;cases h),fun _=>rfl⟩;rcases hA hEi with ha | ha
     ·have:=ha H;cases want with
      | true=>exact this
      | false=>exact ⟨this,rfl⟩
     ·have:=B5 (by simp) ha D H j j1 j2 j3;cases want with
      | true=>exact this
      | false=>exact ⟨this,rfl⟩
   ·refine ⟨H,?_,fun h=>(by rw[hEi]at h;cases h),fun _=>rfl⟩;have:=hall H;cases want with
    | true=>exact this
    | false=>exact ⟨this,rfl⟩
  refine ⟨x::rs,Kf,Hl,Hf,by simp[k1],k2,hKf,⟨_,eW,hbig⟩,fun q hq=>?_,fun j oj hj=>?_,k7,k8⟩
  ·rcases hpd with rfl | ⟨rfl,_⟩
   ·exact k5 q (List.mem_cons_of_mem _ hq)
   ·exact k5 q hq
  ·match j with
   | 0=>
    simp at hj;subst hj;rw[Nat.add_zero];cases want with
    | true=>
     refine .inl ⟨hw,fun D H hlk hfit=>?_⟩;obtain ⟨H',g1,g2,g3⟩:=fact D H hlk hfit;exact ⟨H',OpG.congr (vR (ops:=ops)) g1,g2,g3⟩
    | false=>
     refine .inr ⟨hw,hx rfl,fun D H hlk hfit hEi=>?_⟩;obtain ⟨H',g1,g2,g3⟩:=fact D H hlk hfit;rw[g2 hEi,g1.2]
   | j+1=>
    have:=k6 j oj t150;rw[show i+(j+1)=i+1+j from by omega];exact this
theorem c9.opsG (g:Good P C){id:Nat}{ops:Array Oper}{st:St}{Q:Exit→St→Prop}(p:w7)(m:Nat)(hp:p.ok ops st.sl.length=true)(hS:p.okS ops.size=true)(hK:p.okK ops.size=true)
  (r:aB P C ops p st.h.length ops.toList 0 st.sl [0] [st.h++kept m] [] fun st'=>Q .normal st'):c9 P C (.region id ops true) st Q:=by
 unfold w7.okK at hK;replace hK:=s3z hK;obtain ⟨rs,Kf,Hl,Hf,k1,k2,k3,⟨more,e2,m2⟩,k5,k6,k7,k8⟩:=yU hS ops.toList 0 st.sl [0] [st.h++kept m] [] (by simp) rfl (fun D hD=>by simp at hD;subst hD;decide)
  (fun D hD=>by have:=List.all_eq_true.1 hK.1 D (by simpa using hD);simpa using this) (by simpa using hK.2) r
 rw[Array.length_toList]at k1 k8;refine c9.drawG g p m hp rs (Kf.zip Hl) Hf k1 ?_ k7 (fun j o ho=>?_) k8
 ·refine vX (by rw[k3];simpa using hK.2) _ _ ?_;rw[e2];simp
 ·have:=k6 j o (by simpa using ho);rwa[Nat.zero_add]at this
variable {ops:Array Oper}{p:w7}{b:Nat}{o:Oper}{rest:List Oper}{i:Nat}{sl:List AV}{Ks:List Nat}{Hs:List c6}{pd:List Pg}{Q:St→Prop}{x:AV}
theorem aB.any (hw:aX ops sl o=some true)(hE:p.isE i=false)(ha:∀H,OpG P C ((p.place.getD i none).map (b+·)) (rho C sl) H o.op fun y h=>y=x∧h=H)
  (r:aB P C ops p b rest (i+1) (eY sl o.dst x) Ks Hs pd Q):aB P C ops p b (o::rest) i sl Ks Hs pd Q:=
 ⟨true,x,[],hw,fun _=>rfl,fun h=>t112,fun _=>.inl ha,fun h=>(by cases h),pd,.inr ⟨rfl,.inr ⟨hE,ha⟩⟩,by rw[hE];exact r⟩
theorem aB.skip (hw:aX ops sl o=some false)(hE:p.isE i=false)(r:aB P C ops p b rest (i+1) (eY sl o.dst (.tup [])) Ks Hs pd Q):aB P C ops p b (o::rest) i sl Ks Hs pd Q:=
 ⟨false,.tup [],[],hw,fun _=>rfl,fun h=>t112,fun _=>.inl fun _=>rfl,fun _=>rfl,pd,.inr ⟨rfl,.inr ⟨hE,fun _=>rfl⟩⟩,by rw[hE];exact r⟩
def qL (C:Cfg)(ops:Array Oper)(p:w7):List Oper→Nat→List AV→Option (List AV)
 | [],_,sl=>some sl
 | o::rest,i,sl=>match p.isE i with
  | true=>none
  | false=>match p.place.getD i none with
   | some _=>none
   | none=>match aX ops sl o with
    | some true=>match fC C (rho C sl) o.op with
     | some x=>qL C ops p rest (i+1) (eY sl o.dst x)
     | none=>none
    | some false=>qL C ops p rest (i+1) (eY sl o.dst (.tup []))
    | none=>none
theorem aB.pre {l:List Oper}{sl':List AV}(k:Nat)(h:qL C ops p (l.take k) i sl=some sl')(hk:aB P C ops p b (l.drop k) (i+(l.take k).length) sl' Ks Hs pd Q):aB P C ops p b l i sl Ks Hs pd Q:=by
 have key:∀(l1:List Oper) (i:Nat) (s:List AV),qL C ops p l1 i s=some sl'→aB P C ops p b (l.drop k) (i+l1.length) sl' Ks Hs pd Q→aB P C ops p b (l1++l.drop k) i s Ks Hs pd Q:=by
  intro l1;induction l1 with
  | nil=>
   intro i s hs hk;simp only[qL,Option.some.injEq]at hs;subst hs;exact hk
  | cons o l1 ih=>
   intro i s hs hk;have hk':aB P C ops p b (l.drop k) (i+1+l1.length) sl' Ks Hs pd Q:=by rw[show i+1+l1.length=i+(o::l1).length from by simp;omega];exact hk
   simp only[qL]at hs;split at hs
   ·cases hs
   ·rename_i hE;split at hs
    ·cases hs
    ·rename_i hpl;split at hs
     ·rename_i hw;split at hs
      ·rename_i x hx;refine aB.any (x:=x) hw hE (fun H=>?_) (ih _ _ hs hk');rw[hpl];exact .plain (by unfold v8;rw[hx]) ⟨rfl,rfl⟩
      ·cases hs
     ·rename_i hw;exact aB.skip hw hE (ih _ _ hs hk')
     ·cases hs
 rw[←List.take_append_drop k l];exact key _ _ _ h hk
theorem aB.call {c:Call}{f:FuncId}{args:List AV}(hw:aX ops sl o=some true)(hE:p.isE i=false)(hpl:p.place.getD i none=none)(ho:o.op=.call c)(ht:aH C (rho C sl) c=some (f,args))(hb:p9 C f=true)
  (hc:∀H,CallA P C f args H fun y h'=>y=x∧h'=H) (r:aB P C ops p b rest (i+1) (eY sl o.dst x) Ks Hs pd Q):aB P C ops p b (o::rest) i sl Ks Hs pd Q:=
 .any hw hE (fun H=>by rw[hpl,ho];exact .inr ⟨c,f,args,rfl,ht,hb,hc H⟩) r
theorem sY.imp {f g:Nat→c6→Prop}(hfg:∀D H,f D H→g D H):∀{bs:List Bool} {Ks:List Nat} {Hs:List c6},sY bs Ks Hs f→sY bs Ks Hs g
 | [],_,_,_=>by simp[sY]
 | _::_,[],_,_=>by simp[sY]
 | _::_,_::_,[],_=>by simp[sY]
 | true::bs,D::Ks,H::Hs,h=>⟨hfg D H h.1,sY.imp hfg h.2⟩
 | false::bs,D::Ks,H::Hs,h=>sY.imp (bs:=bs) hfg h
theorem lH.imp {f g:c6→c6→Prop}(hfg:∀H N,f H N→g H N):∀{bs:List Bool} {Hs Ns:List c6},lH bs Hs f Ns→lH bs Hs g Ns
 | [],[],[],_=>trivial
 | [],[],_::_,h=>by simp[lH]at h
 | [],_::_,_,h=>by simp[lH]at h
 | b::_,[],_,h=>by cases b<;>simp[lH]at h
 | true::bs,H::Hs,[],h=>by simp[lH]at h
 | true::bs,H::Hs,N::Ns,h=>⟨hfg H N h.1,lH.imp hfg h.2⟩
 | false::bs,H::Hs,Ns,h=>by simp only[lH]at h ⊢;exact lH.imp hfg h
theorem aB.read (fl:List Bool)(hw:aX ops sl o=some true)(hE:p.isE i=false)(hpl:p.place.getD i none=none)(hf:Ks.map (p.fits i)=fl)(ha:sY fl Ks Hs fun _ H=>oZ C (rho C sl) H o.op=some x)
  (pd':List Pg) (hpd:pd'=(i,eB P C p b i o sl true x)::pd∨(pd'=pd∧p.lX.contains i=false))
  (r:aB P C ops p b rest (i+1) (eY sl o.dst x) Ks Hs pd' Q):aB P C ops p b (o::rest) i sl Ks Hs pd Q:=by
 refine ⟨true,x,[],hw,fun _=>rfl,fun h=>t112,fun _=>.inr ?_,fun h=>(by cases h),pd',?_,by rw[hE];exact r⟩
 ·rw[hf];refine ha.imp fun D H h=>?_;rw[hpl];exact .plain (iM h) ⟨rfl,rfl⟩
 ·rcases hpd with h | ⟨h1,h2⟩
  ·exact .inl h
  ·exact .inr ⟨h1,.inl h2⟩
def Z4 (C:Cfg)(pl:Option Nat)(ρ:Operand→AV)(H:c6)(o:Op):Option (AV×c6):=match pl with
 | some β=>atA C ρ H β o
 | none=>v8 C ρ H o
theorem HH {pl:Option Nat}{ρ:Operand→AV}{N:c6}{o:Op}(h:Z4 C pl ρ H o=some (x,N)):OpG P C pl ρ H o fun y h=>y=x∧h=N:=by
 unfold Z4 at h;unfold OpG;cases pl with
 | some β=>exact ⟨x,N,h,rfl,rfl⟩
 | none=>exact .plain h ⟨rfl,rfl⟩
theorem aB.eff (fl:List Bool)(Ks':List Nat)(pl:Option Nat)(hw:aX ops sl o=some true)(hE:p.isE i=true)(hpl:(p.place.getD i none).map (b+·)=pl)(hf:Ks.map (p.fits i)=fl)(hK:sZ i fl Ks++Ks=Ks')(Ns:List c6)(ha:lH fl Hs (fun H N=>Z4 C pl (rho C sl) H o.op=some (x,N)) Ns)
  (pd':List Pg) (hpd:pd'=(i,eB P C p b i o sl true x)::pd∨(pd'=pd∧p.lX.contains i=false))
  (r:aB P C ops p b rest (i+1) (eY sl o.dst x) Ks' (Ns++Hs) pd' Q):aB P C ops p b (o::rest) i sl Ks Hs pd Q:=by
 refine ⟨true,x,Ns,hw,fun h=>t112,fun _=>?_,fun h=>t112,fun h=>(by cases h),pd',?_,by rw[hE,hf,hK];exact r⟩
 ·rw[hf,hpl];exact ha.imp fun H N h=>HH h
 ·rcases hpd with h | ⟨h1,h2⟩
  ·exact .inl h
  ·exact .inr ⟨h1,.inl h2⟩
theorem aB.nil (hl:lookW (Ks.zip Hs) (p.full ops.size)=some H)(hq:Q ⟨sl,H⟩):aB P C ops p b [] i sl Ks Hs [] Q:=
 ⟨fun q hq=>by simp at hq,H,hl,hq⟩
theorem aB.pop {q:Pg}(fl:List Bool)(hf:Ks.map (p.fits q.1)=fl)(ha:sY fl Ks Hs (q.2 (lookW (Ks.zip Hs))))(r:aB P C ops p b [] i sl Ks Hs pd Q):aB P C ops p b [] i sl Ks Hs (q::pd) Q:=by
 obtain ⟨h1,h2⟩:=r;refine ⟨fun q' hq' D H hm hfit=>?_,h2⟩;rcases List.mem_cons.1 hq' with rfl | hq'
 ·obtain ⟨j,j1,j2⟩:=HG hm;subst hf;exact B5 (by simp) ha D H j j1 j2 (by rw[List.getElem?_map,j1];simp[hfit])
 ·exact h1 q' hq' D H hm hfit
variable {look:Nat→Option c6}
theorem eB.read (hE:p.isE i=false)(hpl:p.place.getD i none=none)(h:oZ C (rho C sl) H o.op=some x):eB P C p b i o sl true x look D H:=
 ⟨H,by rw[hpl];exact .plain (iM h) ⟨rfl,rfl⟩,fun h=>t112,fun _=>rfl⟩
theorem eB.eff {N:c6}(pl:Option Nat)(hE:p.isE i=true)(hpl:(p.place.getD i none).map (b+·)=pl)(h:Z4 C pl (rho C sl) H o.op=some (x,N))(hl:look (D|||2^i)=some N):eB P C p b i o sl true x look D H:=
 ⟨N,by rw[hpl];exact HH h,fun _=>hl,fun h=>t112⟩
end
section
variable {P:Program}{C:Cfg}{G:Nat→AV}{B:Nat}{h:c6}{φ:Map}{w:World}
def aI (h0 h2:c6):Prop:=∀(β:Nat) (b:Blk),h2[β]?=some b→h0[β]?=some b∨∀x∈b.cells,Refs h2.length x
theorem qM (h2 l:c6):(h2++l).take h2.length=h2:=List.take_left
theorem L0 {h0 h2 l:c6}{φ0:Map}{w0:World}(i0:Pic G B h0 φ0 w0)(i:Pic G B (h2++l) φ w)(hl:h0.length≤h2.length)(hk:aI h0 h2):Pic G B h2 φ w:=by
 have hsub:∀{β:Nat} {b:Blk},h2[β]?=some b→(h2++l)[β]?=some b:=fun {β b} h=>by rw[List.getElem?_append_left (List.getElem?_eq_some_iff.1 h).1];exact h
 refine ⟨fun β b h1 h2'=>?_,fun β β' b b' h1 h2'=>i.inj β β' b b' (hsub h1) (hsub h2'),fun β b h1=>i.base β b (hsub h1),fun β b h1=>i.cQ β b (hsub h1),i.room,fun g=>?_⟩
 ·obtain ⟨cur,k1,k2,k3,k4⟩:=i.blk β b (hsub h1) h2';refine ⟨cur,k1,k2,k3,fun j v x e1 e2=>⟨(k4 j v x e1 e2).1,?_⟩⟩;have hr:Refs h2.length x:=by
   rcases hk β b h1 with hb | hb
   ·obtain ⟨cur0,_,_,q3,q4⟩:=i0.blk β b hb h2';have hj:j<cur0.size:=Nat.lt_of_lt_of_le (List.getElem?_eq_some_iff.1 e2).1 q3;exact (Refs.GC (q4 j cur0[j] x (Array.getElem?_eq_getElem hj) e2).2).mono hl
   ·exact hb x (List.mem_of_getElem? e2)
  have:=vP hr (k4 j v x e1 e2).2;rw[qM]at this;exact this
 ·have:=(i.eJ g).take h2.length;rw[qM]at this;exact this
def yG (h0:c6)(I:Nat→St→Prop)(m:Nat)(st:St):Prop:=
 ∃sl h2 l2,st.h=h2++l2∧h0.length≤h2.length∧aI h0 h2∧FJ sl st.sl∧(∀x∈sl,Refs h2.length x)∧I m ⟨sl,h2⟩
theorem c9.loopW {c:Code}{st:St}{Q:Exit→St→Prop}(I:Nat→St→Prop)(n:Nat)(h0:yG st.h I n st)
  (round:∀m sl h,I m ⟨sl,h⟩→c9 P C c ⟨sl,h⟩ (Round (yG st.h I) m Q)):c9 P C (.loop c) st Q:=by
 intro B φ w a i s;have key:∀(m:Nat) (st2:St) (φ2:Map) (w2:World) (a2:Act),Pic C.eJ B st2.h φ2 w2→Ev st.h φ w st2.h φ2 w2→kS st2.h φ2 w2 a2 st2.sl→yG st.h I m st2→
   ∃st' φ',Pic C.eJ B st'.h φ' w2∧Ev st.h φ w st'.h φ' w2∧kS st'.h φ' w2 a2 st'.sl∧I m st':=by
  rintro m st2 φ2 w2 a2 i2 e2 s2 ⟨sl,h2,l2,f1,f2,f5,f3,f4,f6⟩;rw[f1]at i2 e2 s2;have i3:=L0 i i2 f2 f5;have e3:=zX (n:=h2.length) e2 f2;rw[qM]at e3;refine ⟨⟨sl,h2⟩,φ2,i3,e3,⟨by rw[(FJ.get f3).1];exact s2.size,fun t=>?_,s2.nI⟩,f6⟩;show Rel h2 φ2 w2 _ (sl.getD t .any);have hr:Refs h2.length (sl.getD t .any):=by
   rw[List.getD_eq_getElem?_getD];cases ht:sl[t]? with
   | none=>exact .any
   | some x=>exact f4 x (List.mem_of_getElem? ht)
  rcases (FJ.get f3).2 t with e | e
  ·have:=vP hr (by rw[e];exact s2.rel t);rw[qM]at this;exact this
  ·rw[e];exact .jW _
 obtain ⟨st0,φ0,g1,g2,g3,g4⟩:=key n st φ w a i (.refl _ _ _) s h0;refine wp_loop_ghost (fun m a' w'=>∃st' φ',Pic C.eJ B st'.h φ' w'∧Ev st.h φ w st'.h φ' w'∧kS st'.h φ' w' a' st'.sl∧I m st') n ⟨st0,φ0,g1,g2,g3,g4⟩ ?_;rintro m a' w' ⟨st1,φ1,i1,e1,s1,hI⟩;refine wp_mono (round m st1.sl st1.h hI B φ1 w' a' i1 s1) fun e a2 w2 hp=>?_;obtain ⟨st2,φ2,k1,k2,k3,k4⟩:=hp;cases e with
 | normal=>
  obtain ⟨m',hlt,hI'⟩:=k4;exact ⟨m',hlt,key m' st2 φ2 w2 a2 k1 (e1.trans k2) k3 hI'⟩
 | exit id=>exact ⟨st2,φ2,k1,e1.trans k2,k3,k4⟩
 | goto l=>exact ⟨st2,φ2,k1,e1.trans k2,k3,k4⟩
 | ret=>exact ⟨st2,φ2,k1,e1.trans k2,k3,k4⟩
 | panic ch=>exact ⟨st2,φ2,k1,e1.trans k2,k3,k4⟩
 | outgrown=>exact ⟨st2,φ2,k1,e1.trans k2,k3,k4⟩
def Ii (h:c6)(Q:AV→c6→Prop)(x:AV)(h1:c6):Prop:=∃h2 l y,h1=h2++l∧h.length≤h2.length∧aI h h2∧jQ h2.length h1 6 x=some y∧Q y h2
theorem CallA.shutW {f:FuncId}{args:List AV}{R Q:AV→c6→Prop}(r:CallA P C f args h R)(hq:∀x h1,R x h1→Ii h Q x h1):CallA P C f args h Q:=by intro B φ w cargs i hs hr;refine (r B φ w cargs i hs hr).mono fun e w' hp=>?_;obtain ⟨v,x,h1,φ',rfl,k1,k2,k3,k4⟩:=hp;obtain ⟨h2,l,y,rfl,q0,q1,q2,q3⟩:=hq x h1 k4;have hr':=oC k1 h2.length 6 v x y q2 k3;have he:=zX (n:=h2.length) k2 q0;rw[qM]at hr' he;exact ⟨v,y,h2,φ',rfl,L0 i k1 q0 q1,he,hr',q3⟩
theorem CallA.HI (g:Good P C){f:FuncId}{fn:Func}{c:Code}{args:List AV}{h:c6}{Q:AV→c6→Prop}(hf:C.fns f=some fn)(hb:fn.body=some c)
  (r:c9 P C c ⟨args++List.replicate (fn.ntmps-args.length) .any,h⟩ (Ends C fn (Ii h Q))):CallA P C f args h Q:=
 CallA.shutW (CallA.lU g hf hb r) fun _ _ h=>h
def oU (N:Nat):c6→c6→Prop
 | _,[]=>True
 | [],b::l=>(∀x∈b.cells,Refs N x)∧oU N [] l
 | a::k,b::l=>(a=b∨∀x∈b.cells,Refs N x)∧oU N k l
theorem oU.refl (N:Nat):∀l:c6,oU N l l
 | []=>trivial
 | b::l=>⟨.inl rfl,oU.refl N l⟩
theorem oU.get {N:Nat}:∀{k l:c6},oU N k l→∀(β:Nat) (b:Blk),l[β]?=some b→k[β]?=some b∨∀x∈b.cells,Refs N x
 | _,[],_,β,b,hb=>by simp at hb
 | [],c::l,h,0,b,hb=>by simp at hb;subst hb;exact .inr h.1
 | [],c::l,h,β+1,b,hb=>by
  have:=oU.get h.2 β b t203;rcases this with h | h
  ·simp at h
  ·exact .inr h
 | a::k,c::l,h,0,b,hb=>by
  simp at hb;subst hb;rcases h.1 with rfl | h
  ·exact .inl rfl
  ·exact .inr h
 | a::k,c::l,h,β+1,b,hb=>by have:=oU.get h.2 β b t203;simpa using this
theorem aI.of {h0 h2:c6}(k:oU h2.length h0 h2):aI h0 h2:=oU.get k
theorem aI.app {A B' l l':c6}(h:aI A B')(hl:A.length=B'.length)(hk:oU (B'.length+l'.length) l l'):aI (A++l) (B'++l'):=by
 intro β b hb;by_cases hβ:β<B'.length
 ·rw[List.getElem?_append_left hβ]at hb;rcases h β b hb with h1 | h1
  ·exact .inl (by rw[List.getElem?_append_left (by omega)];exact h1)
  ·exact .inr fun x hx=>(h1 x hx).mono (by simp)
 ·rw[List.getElem?_append_right (by omega)]at hb;rcases hk.get _ b hb with h1 | h1
  ·exact .inl (by rw[List.getElem?_append_right (by omega),hl];exact h1)
  ·exact .inr fun x hx=>by rw[List.length_append];exact h1 x hx
theorem aI.refl (h0:c6):aI h0 h0:=fun _ _ hb=>.inl hb
def pV:List AV→List AV→Prop
 | [],[]=>True
 | x::xs,y::ys=>(x=y∨(y=.j4∧x=.vec 0 []))∧pV xs ys
 | _,_=>False
theorem pV.get:∀{xs ys:List AV},pV xs ys→xs.length=ys.length∧∀(t:Nat) (x y:AV),xs[t]?=some x→ys[t]?=some y→x=y∨(y=.j4∧x=.vec 0 [])
 | [],[],_=>⟨rfl,fun t x y h=>by simp at h⟩
 | x::xs,y::ys,h=>by
  obtain ⟨h1,h2⟩:=h;obtain ⟨k1,k2⟩:=pV.get h2;refine ⟨by simp[k1],fun t u v hu hv=>?_⟩
  match t with
  | 0=>simp at hu hv;subst hu;subst hv;exact h1
  | t+1=>exact k2 t u v t149 t158
 | [],_::_,h=>h.elim
 | _::_,[],h=>h.elim
theorem S2 {v:Value}(r:Rel h φ w v .j4):Rel h φ w v (.vec 0 []):=by rw[r.eK];exact .pure (.yE _ _)
variable {β:Nat}{cs:List AV}
theorem cR {γ:Nat}{b c:Blk}(hb:h[β]?=some b)(hc:(h.set β { b with cells:=cs })[γ]?=some c):(γ=β∧c={ b with cells:=cs })∨(γ≠β∧h[γ]?=some c):=by
 have hl:=(List.getElem?_eq_some_iff.1 hb).1;by_cases e:γ=β
 ·subst e;rw[List.getElem?_set_self hl]at hc;exact .inl ⟨rfl,by simpa using hc.symm⟩
 ·rw[List.getElem?_set_ne (Ne.symm e)]at hc;exact .inr ⟨e,hc⟩
theorem uA {b:Blk}{k:Nat}{x y:AV}(i:Pic G B h φ w)(hb:h[β]?=some b)(hx:b.cells[k]?=some x)(hxy:∀v,Rel h φ w v x→Rel h φ w v y) :
  Pic G B (h.set β { b with cells:=b.cells.set k y }) φ w∧Ev h φ w (h.set β { b with cells:=b.cells.set k y }) φ w:=by
 have ev:Ev h φ w (h.set β { b with cells:=b.cells.set k y }) φ w:=by
  refine ⟨rfl,rfl,rfl,Nat.le_refl _,fun j hj=>⟨rfl,hj.1,fun γ c hc hv=>?_⟩,fun j m hj=>⟨rfl,hj.1,fun γ c hc hv he=>?_⟩,by simp,fun γ c c' h1 h2=>?_⟩
  ·rcases cR hb hc with ⟨rfl,rfl⟩ | ⟨_,hc'⟩
   ·exact hj.2 _ b hb hv
   ·exact hj.2 γ c hc' hv
  ·rcases cR hb hc with ⟨rfl,rfl⟩ | ⟨_,hc'⟩
   ·exact hj.2 _ b hb hv he
   ·exact hj.2 γ c hc' hv he
  ·rcases cR hb h2 with ⟨rfl,rfl⟩ | ⟨_,h2'⟩
   ·rw[hb]at h1;cases h1;exact ⟨Nat.le_refl _,fun _=>⟨rfl,rfl,rfl⟩⟩
   ·rw[h1]at h2';cases h2';exact ⟨Nat.le_refl _,fun _=>⟨rfl,rfl,rfl⟩⟩
 have hk:=(List.getElem?_eq_some_iff.1 hx).1;refine ⟨⟨fun γ c hc hv=>?_,fun γ γ' c c' hc hc' hv hv' he=>?_,fun γ c hc hv=>?_,fun γ c hc hv=>?_,i.room,fun g=>ev.H8 (i.eJ g)⟩,ev⟩
 ·rcases cR hb hc with ⟨rfl,rfl⟩ | ⟨_,hc'⟩
  ·obtain ⟨cur,h1,h2,h3,h4⟩:=i.blk _ b hb hv;refine ⟨cur,h1,h2,by simpa using h3,fun j v z a d=>?_⟩;by_cases e:k=j
   ·subst e;simp only[List.getElem?_set_self hk,Option.some.injEq]at d;subst d;exact ⟨(h4 k v x a hx).1,ev.rel (hxy v (h4 k v x a hx).2)⟩
   ·simp only[List.getElem?_set_ne e]at d;exact ⟨(h4 j v z a d).1,ev.rel (h4 j v z a d).2⟩
  ·obtain ⟨cur,h1,h2,h3,h4⟩:=i.blk γ c hc' hv;exact ⟨cur,h1,h2,h3,fun j v x a d=>⟨(h4 j v x a d).1,ev.rel (h4 j v x a d).2⟩⟩
 ·rcases cR hb hc with ⟨rfl,rfl⟩ | ⟨n1,k1⟩<;>rcases cR hb hc' with ⟨rfl,rfl⟩ | ⟨n2,k2⟩
  ·rfl
  ·exact i.inj _ _ b c' hb k2 hv hv' he
  ·exact i.inj _ _ c b k1 hb hv hv' he
  ·exact i.inj _ _ c c' k1 k2 hv hv' he
 ·rcases cR hb hc with ⟨rfl,rfl⟩ | ⟨_,hc'⟩
  ·exact i.base _ b hb hv
  ·exact i.base γ c hc' hv
 ·rcases cR hb hc with ⟨rfl,rfl⟩ | ⟨_,hc'⟩
  ·have:=i.cQ _ b hb hv;simp only at this ⊢;rw[this]at hk;simp at hk
  ·exact i.cQ γ c hc' hv
variable {c:Code}
theorem c9.aG {sl:List AV}{Q:Exit→St→Prop}(h':c6)(hh:h=h')(r:c9 P C c ⟨sl,h'⟩ Q):c9 P C c ⟨sl,h⟩ Q:=by subst hh;exact r
theorem c9.step {sl:List AV}{Q:Exit→St→Prop}(h':c6)(hp:∀(B:Nat) (φ:Map) (w:World),Pic C.eJ B h φ w→Pic C.eJ B h' φ w∧Ev h φ w h' φ w)(r:c9 P C c ⟨sl,h'⟩ Q):c9 P C c ⟨sl,h⟩ Q:=by intro B φ w a i s;obtain ⟨i',ev⟩:=hp B φ w i;exact wp_mono (r B φ w a i' ⟨s.size,fun t=>ev.rel (s.rel t),s.nI⟩) fun e a' w' ⟨st',φ',h1,h2,h3,h4⟩=>⟨st',φ',h1,ev.trans h2,h3,h4⟩
theorem c9.L2 {c:Code}{sl:List AV}{Q:Exit→St→Prop}{γ off len β k:Nat}{b b':Blk}{cs:List AV}(hg:h[γ]?=some b)(hv:b.cQ=false)(hle:off+len*b.esz≤b.cells.length)
  (hc:o6 qF ((b.cells.drop off).take (len*b.esz))=some cs) (hb:h[β]?=some b') (hne:β≠γ) (hk:b'.cells[k]?=some (.own γ b.gen off len))
  (r:c9 P C c ⟨sl,(h.set γ (eM b (off+len*b.esz))).set β { b' with cells:=b'.cells.set k (.vec len cs) }⟩ Q):c9 P C c ⟨sl,h⟩ Q:=by
 refine c9.step _ (fun B φ w i=>?_) r;obtain ⟨i1,e1⟩:=qJ (off+len*b.esz) i hg;have hb1:(h.set γ (eM b (off+len*b.esz)))[β]?=some b':=by rw[List.getElem?_set_ne (Ne.symm hne)];exact hb
 have hl:=(List.getElem?_eq_some_iff.1 hg).1;have key:=uA (k:=k) (x:=.own γ b.gen off len) (y:=.vec len cs) i1 hb1 hk fun v hr=>by
  have hg2:(h.set γ (eM b (off+len*b.esz)))[γ]?=some (eM b (off+len*b.esz)):=List.getElem?_set_self hl;have:=B4 (cs:=cs) i1 hg2 rfl hv hle hc (show Rel _ φ w v (.own γ (eM b (off+len*b.esz)).gen off len) from hr);have e:(h.set γ (eM b (off+len*b.esz))).set γ (eM (eM b (off+len*b.esz)) (off+len*(eM b (off+len*b.esz)).esz))=h.set γ (eM b (off+len*b.esz)):=by rw[List.set_set];congr 1;simp only[eM,Nat.max_assoc,Nat.max_self]
  rw[e]at this;exact this
 exact ⟨key.1,e1.trans key.2⟩
theorem c9.S3 {c:Code}{sl:List AV}{Q:Exit→St→Prop}{γ β k:Nat}{b b':Blk}(hg:h[γ]?=some b)(hv:b.cQ=true)(hb:h[β]?=some b')(hk:b'.cells[k]?=some (.own γ b.gen 0 0))
  (r:c9 P C c ⟨sl,h.set β { b' with cells:=b'.cells.set k (.vec 0 []) }⟩ Q):c9 P C c ⟨sl,h⟩ Q:=by
 refine c9.step _ (fun B φ w i=>?_) r;refine uA i hb hk fun v hr=>?_;cases hr with
 | pure hp=>cases hp
 | own _ _ _ _ cap ad b2 hb2 hg2 hlc hcm had hn hvv=>
  exact .pure (.yE _ _)
theorem c9.viewN {c:Code}{sl:List AV}{Q:Exit→St→Prop}{β k:Nat}{b':Blk}(hb:h[β]?=some b')(hk:b'.cells[k]?=some .j4)
  (r:c9 P C c ⟨sl,h.set β { b' with cells:=b'.cells.set k (.vec 0 []) }⟩ Q):c9 P C c ⟨sl,h⟩ Q:=
 c9.step _ (fun B φ w i=>uA i hb hk fun v hr=>S2 hr) r
theorem c9.oV {c:Code}{sl:List AV}{Q:Exit→St→Prop}{β k:Nat}{b':Blk}(hb:h[β]?=some b')(hk:b'.cells[k]?=some .j4)
  (r:c9 P C c ⟨sl,(h++[(⟨0,true,0,0,[],0⟩:Blk)]).set β { b' with cells:=b'.cells.set k (.own h.length 0 0 0) }⟩ Q):c9 P C c ⟨sl,h⟩ Q:=by
 refine c9.step _ (fun B φ w i=>?_) r;obtain ⟨i1,e1⟩:=pW i;have hb1:(h++[(⟨0,true,0,0,[],0⟩:Blk)])[β]?=some b':=by rw[List.getElem?_append_left (List.getElem?_eq_some_iff.1 hb).1];exact hb
 have key:=uA (k:=k) (x:=.j4) (y:=.own h.length 0 0 0) i1 hb1 hk fun v hr=>by rw[hr.eK];exact .own h.length 0 0 0 0 none ⟨0,true,0,0,[],0⟩ (by simp) (Nat.le_refl _) (Nat.le_refl _) (Nat.zero_le _) (fun h=>by omega) (fun _ _=>⟨rfl,rfl⟩) (fun _ h=>by cases h)
 exact ⟨key.1,e1.trans key.2⟩
theorem gJ.u9 {ops:Array Oper}{p:eI}{M:List Nat}{o:Oper}{rest:List Oper}{i:Nat}{st:St}{hs:List c6}{pm:List (Nat×(c6→Prop))}{Q:St→Prop}{c:Call}{f:FuncId}{args:List AV}{x:AV}{H:c6}(hm:M.contains i=false)(hE:p.isE i=true)(hw:aX ops st.sl o=some true)(ho:o.op=.call c)
  (ht:aH C (rho C st.sl) c=some (f,args)) (hb:p9 C f=true) (hc:CallA P C f args st.h fun y h'=>y=x∧h'=H) (hk:gJ P C ops p M rest (i+1) ⟨eY st.sl o.dst x,H⟩ (H::hs) pm Q):gJ P C ops p M (o::rest) i st hs pm Q:=
 .inl ⟨hw,x,H,t230,fun h=>t112,by rw[hm,hE];exact hk⟩
section
variable {ops:Array Oper}{p:w7}{b i:Nat}{o:Oper}{rest:List Oper}{sl:List AV}{Ks:List Nat}{Hs:List c6}{pd:List Pg}{Q:St→Prop}{x:AV}
theorem aB.aG {l:List Oper}{Hs':List c6}(hh:Hs=Hs')(r:aB P C ops p b l i sl Ks Hs' pd Q):aB P C ops p b l i sl Ks Hs pd Q:=by subst hh;exact r
theorem aB.u9 (fl:List Bool)(Ks':List Nat){c:Call}{f:FuncId}{args:List AV}(hw:aX ops sl o=some true)(hE:p.isE i=true)(hpl:p.place.getD i none=none)(ho:o.op=.call c)(ht:aH C (rho C sl) c=some (f,args))(hb:p9 C f=true)
  (hf:Ks.map (p.fits i)=fl) (hK:sZ i fl Ks++Ks=Ks') (Ns:List c6) (ha:lH fl Hs (fun H N=>CallA P C f args H fun y h=>y=x∧h=N) Ns) (pd':List Pg) (hpd:pd'=(i,eB P C p b i o sl true x)::pd∨(pd'=pd∧p.lX.contains i=false))
  (r:aB P C ops p b rest (i+1) (eY sl o.dst x) Ks' (Ns++Hs) pd' Q):aB P C ops p b (o::rest) i sl Ks Hs pd Q:=by
 refine ⟨true,x,Ns,hw,fun h=>t112,fun _=>?_,fun h=>t112,fun h=>(by cases h),pd',?_,by rw[hE,hf,hK];exact r⟩
 ·rw[hf,hpl,ho];exact ha.imp fun H N h=>.inr ⟨c,f,args,rfl,ht,hb,h⟩
 ·rcases hpd with h | ⟨h1,h2⟩
  ·exact .inl h
  ·exact .inr ⟨h1,.inl h2⟩
theorem eB.u9 {c:Call}{f:FuncId}{args:List AV}{look:Nat→Option c6}{D:Nat}{H N:c6}(hE:p.isE i=true)(hpl:p.place.getD i none=none)(ho:o.op=.call c)(ht:aH C (rho C sl) c=some (f,args))(hb:p9 C f=true)(hc:CallA P C f args H fun y h=>y=x∧h=N)
  (hl:look (D|||2^i)=some N):eB P C p b i o sl true x look D H:=
 ⟨N,by rw[hpl,ho];exact .inr ⟨c,f,args,rfl,ht,hb,hc⟩,fun _=>hl,fun h=>t112⟩
end
def ZV (P:Program)(C:Cfg)(c:Code)(Q:Exit→St→Prop):Nat→St→Prop
 | 0,_=>False
 | n+1,st=>c9 P C c st fun e st'=>match e with
  | .normal=>ZV P C c Q n st'
  | e=>Q e st'
theorem c9.rounds {st:St}{Q:Exit→St→Prop}(n:Nat)(h:ZV P C c Q n st):c9 P C (.loop c) st Q:=by
 refine c9.loop (fun m s=>ZV P C c Q m s) n h fun m s hs=>?_;cases m with
 | zero=>exact hs.elim
 | succ m=>
  refine c9.mono hs fun e s' hq=>?_;cases e with
  | normal=>exact ⟨m,Nat.lt_succ_self m,hq⟩
  | exit id=>exact hq
  | goto l=>exact hq
  | ret=>exact hq
  | panic ch=>exact hq
  | outgrown=>exact hq
section
variable {n d:Nat}{H:c6}
theorem uB {xs:List AV}:jQ n H (d+1) (.agg xs)=(o6 (jQ n H d) xs).map .agg:=rfl
theorem lZ {xs:List AV}:jQ n H (d+1) (.tup xs)=(o6 (jQ n H d) xs).map .tup:=rfl
variable {g off len:Nat}
theorem dW:jQ n H (d+1) (.own β g off len)=if β<n then some (.own β g off len) else iT n H d (.own β g off len):=rfl
theorem vY:jQ n H (d+1) .j4=some (.vec 0 []):=rfl
theorem B6:jQ n H (d+1) .any=some .any:=rfl
theorem vZ {b:Bool}:jQ n H (d+1) (.bool b)=some (.bool b):=rfl
theorem qN {k:IntKind}{i:Int}:jQ n H (d+1) (.int k i)=some (.int k i):=rfl
theorem B7 {s:ByteArray}:jQ n H (d+1) (.str s)=some (.str s):=rfl
theorem uC {m:Nat}:jQ n H (d+1) (.vec m cs)=some (.vec m cs):=rfl
theorem eN:iT n H (d+1) (.own β g off len)=match H[β]? with
   | some b=>if b.gen=g∧n≤β then (if b.cQ then (if len=0 then some (.vec 0 []) else none)
    else if off+len*b.esz≤b.cells.length then (match o6 (iT n H d) ((b.cells.drop off).take (len*b.esz)) with
     | some cs=>some (.vec len cs)
     | none=>none) else none) else none
   | none=>none:=rfl
theorem wB:iT n H (d+1) .j4=some (.vec 0 []):=rfl
theorem B8:iT n H (d+1) .any=some .any:=rfl
theorem qO {b:Bool}:iT n H (d+1) (.bool b)=some (.bool b):=rfl
theorem uD {k:IntKind}{i:Int}:iT n H (d+1) (.int k i)=some (.int k i):=rfl
theorem qP {s:ByteArray}:iT n H (d+1) (.str s)=some (.str s):=rfl
theorem oE {m:Nat}:iT n H (d+1) (.vec m cs)=some (.vec m cs):=rfl
theorem oF {a b:Nat}:¬a+b<a:=by omega
end
theorem pV.refl:∀l:List AV,pV l l
 | []=>trivial
 | _::l=>⟨.inl rfl,pV.refl l⟩
theorem pV.app:∀{a b c d:List AV},pV a b→pV c d→pV (a++c) (b++d)
 | [],[],_,_,_,h=>h
 | _::_,_::_,_,_,h,h'=>⟨h.1,pV.app h.2 h'⟩
 | [],_::_,_,_,h,_=>h.elim
 | _::_,[],_,_,h,_=>h.elim
theorem QI {b:Blk}(i:Pic G B h φ w)(hb:h[β]?=some b)(hn:pV cs b.cells) :
  Pic G B (h.set β { b with cells:=cs }) φ w∧Ev h φ w (h.set β { b with cells:=cs }) φ w:=by
 have ev:Ev h φ w (h.set β { b with cells:=cs }) φ w:=by
  refine ⟨rfl,rfl,rfl,Nat.le_refl _,fun j hj=>⟨rfl,hj.1,fun γ c hc hv=>?_⟩,fun j m hj=>⟨rfl,hj.1,fun γ c hc hv he=>?_⟩,by simp,fun γ c c' h1 h2=>?_⟩
  ·rcases cR hb hc with ⟨rfl,rfl⟩ | ⟨_,hc'⟩
   ·exact hj.2 _ b hb hv
   ·exact hj.2 γ c hc' hv
  ·rcases cR hb hc with ⟨rfl,rfl⟩ | ⟨_,hc'⟩
   ·exact hj.2 _ b hb hv he
   ·exact hj.2 γ c hc' hv he
  ·rcases cR hb h2 with ⟨rfl,rfl⟩ | ⟨_,h2'⟩
   ·rw[hb]at h1;cases h1;exact ⟨Nat.le_refl _,fun _=>⟨rfl,rfl,rfl⟩⟩
   ·rw[h1]at h2';cases h2';exact ⟨Nat.le_refl _,fun _=>⟨rfl,rfl,rfl⟩⟩
 obtain ⟨nl,ng⟩:=hn.get;refine ⟨⟨fun γ c hc hv=>?_,fun γ γ' c c' hc hc' hv hv' he=>?_,fun γ c hc hv=>?_,fun γ c hc hv=>?_,i.room,fun g=>ev.H8 (i.eJ g)⟩,ev⟩
 ·rcases cR hb hc with ⟨rfl,rfl⟩ | ⟨_,hc'⟩
  ·obtain ⟨cur,h1,h2,h3,h4⟩:=i.blk _ b hb hv;refine ⟨cur,h1,h2,by simp only[nl];exact h3,fun j v z a d=>?_⟩;have hj:j<b.cells.length:=by rw[←nl];exact (List.getElem?_eq_some_iff.1 d).1
   have hx:b.cells[j]?=some b.cells[j]:=List.getElem?_eq_getElem hj;have hr:=h4 j v _ a hx;rcases ng j z _ d hx with rfl | ⟨e1,rfl⟩
   ·exact ⟨hr.1,ev.rel hr.2⟩
   ·exact ⟨hr.1,ev.rel (S2 (e1▸hr.2))⟩
  ·obtain ⟨cur,h1,h2,h3,h4⟩:=i.blk γ c hc' hv;exact ⟨cur,h1,h2,h3,fun j v x a d=>⟨(h4 j v x a d).1,ev.rel (h4 j v x a d).2⟩⟩
 ·rcases cR hb hc with ⟨rfl,rfl⟩ | ⟨n1,k1⟩<;>rcases cR hb hc' with ⟨rfl,rfl⟩ | ⟨n2,k2⟩
  ·rfl
  ·exact i.inj _ _ b c' hb k2 hv hv' he
  ·exact i.inj _ _ c b k1 hb hv hv' he
  ·exact i.inj _ _ c c' k1 k2 hv hv' he
 ·rcases cR hb hc with ⟨rfl,rfl⟩ | ⟨_,hc'⟩
  ·exact i.base _ b hb hv
  ·exact i.base γ c hc' hv
 ·rcases cR hb hc with ⟨rfl,rfl⟩ | ⟨_,hc'⟩
  ·have:=i.cQ _ b hb hv;simp only at this ⊢;rw[this]at nl;exact List.length_eq_zero_iff.1 nl
  ·exact i.cQ γ c hc' hv
theorem c9.lI {c:Code}{sl:List AV}{Q:Exit→St→Prop}{β:Nat}{b:Blk}(cs:List AV)(hb:h[β]?=some b)(hn:pV cs b.cells)
  (r:c9 P C c ⟨sl,h.set β { b with cells:=cs }⟩ Q):c9 P C c ⟨sl,h⟩ Q:=
 c9.step _ (fun B φ w i=>QI i hb hn) r
def s8 (e:TypeId)(K g:Nat)(zs:List AV):Blk:=match zs with
 | []=>⟨g,true,0,0,[],0⟩
 | z::zs=>⟨g,false,e,K,z::zs,0⟩
variable {K g:Nat}{zs:List AV}
theorem eE {e:TypeId}(h:zs≠[]):s8 e K g zs=⟨g,false,e,K,zs,0⟩:=by
 cases zs with
 | nil=>exact absurd rfl h
 | cons=>rfl
theorem Z5 {e:TypeId}:(s8 e K g zs).gen=g:=by cases zs<;>rfl
theorem o9 {e:TypeId}:(s8 e K g zs).cells=zs:=by cases zs<;>rfl
theorem aJ {H:c6}{e:TypeId}{β K g n m:Nat}{zs new:List AV}{src:AV}(hb:H[β]?=some (s8 e K g zs))(hK:C.sz e=K)(hK0:0<K)(hz:zs.length=n*K)(hn:new.length=m*K)(hm:0<m)(hs:rd H K src=some new)(hl:lenOf src=some m)
  (hB:(C.ti e).bytes≤1000) (hc:n+m≤1000000):j9 C e H (.own β g 0 n) src=some (.own β (g+1) 0 (n+m),H.set β (s8 e K (g+1) (zs++new))):=by
 have hbound:(n+m)*(C.ti e).bytes≤140737488355328:=by have:=Nat.mul_le_mul hc hB;omega
 have hmax:n+m≤maxLen:=by
  have:(1000000:Nat)≤maxLen:=by decide
  omega
 have hne:zs++new≠[]:=by intro h;have:=congrArg List.length h;simp only[List.length_append,List.length_nil,hn]at this;have h1:1*1≤m*K:=Nat.mul_le_mul hm hK0;omega
 unfold j9;rw[hK,hs,hl];simp only[hn,hK0,and_self,if_true,hb,Z5,true_and];rw[if_pos ⟨hmax,hbound⟩,if_neg (by omega)];cases zs with
 | nil=>
  have h0:n=0:=by
   replace hz:=s7z hz;rcases Nat.mul_eq_zero.1 hz.symm with h | h
   ·exact h
   ·omega
  subst h0;rw[eE hne];simp only[s8,if_true,List.nil_append,Nat.zero_add]
 | cons z zs=>
  rw[eE (by simp)];simp only[Bool.false_eq_true,if_false,and_self,true_and,hz,Nat.le_refl,Nat.zero_le,if_true];rw[if_neg (by rw[Nat.add_mul];have h1:1*1≤m*K:=Nat.mul_le_mul hm hK0;omega),List.take_of_length_le (by omega),eE hne]
variable {len:Nat}
theorem lJ {n d:Nat}{H:c6}{e:TypeId}{zs':List AV}(hb:H[β]?=some (s8 e K g zs))(hn:n≤β)(hz:zs.length=len*K)(hK:0<K)(ho:o6 (iT n H d) zs=some zs'):iT n H (d+1) (.own β g 0 len)=some (.vec len zs'):=by
 rw[eN,hb];cases zs with
 | nil=>
  have h0:len=0:=by
   replace hz:=s7z hz;rcases Nat.mul_eq_zero.1 hz.symm with h | h
   ·exact h
   ·omega
  subst h0;simp only[o6,Option.some.injEq]at ho;subst ho;simp[s8,hn]
 | cons z zs=>
  have h1:len*K≤(z::zs).length:=by omega
  have h2:List.take (len*K) (z::zs)=z::zs:=List.take_of_length_le (by omega);rw[eE (by simp)];simp only[hn,and_self,if_true,Bool.false_eq_true,if_false,Nat.zero_add,h1,List.drop_zero,h2,ho]
theorem c9.nilsO {sl:List AV}{Q:Exit→St→Prop}{e:TypeId}(zs':List AV)(hb:h[β]?=some (s8 e K g zs))(hn:pV zs' zs)(r:c9 P C c ⟨sl,h.set β (s8 e K g zs')⟩ Q):c9 P C c ⟨sl,h⟩ Q:=by
 refine c9.lI zs' hb (by rw[o9];exact hn) ?_;cases zs with
 | nil=>
  cases zs' with
  | nil=>exact r
  | cons=>exact hn.elim
 | cons z zs=>
  cases zs' with
  | nil=>exact hn.elim
  | cons z' zs'=>exact r
end
section
variable {P:Program}{C:Cfg}{G:Nat→AV}{B:Nat}{h:c6}{φ:Map}{w:World}
structure Pln (x:AV):Prop where
 sl:qF x=some x
 rf:∀n,Refs n x
 fz:∀n H d,iT n H (d+1) x=some x
theorem Pln.str {s:ByteArray}:Pln (.str s):=⟨rfl,fun _=>.str _,fun _ _ _=>rfl⟩
theorem Pln.int {k:IntKind}{i:Int}:Pln (.int k i):=⟨rfl,fun _=>.int _ _,fun _ _ _=>rfl⟩
theorem Pln.bool {b:Bool}:Pln (.bool b):=⟨rfl,fun _=>.bool _,fun _ _ _=>rfl⟩
theorem Pln.vec {m:Nat}{cs:List AV}:Pln (.vec m cs):=⟨rfl,fun _=>.vec _ _,fun _ _ _=>rfl⟩
theorem pK {α:Type}{f:α→Option α}:∀{l:List α},(∀x∈l,f x=some x)→o6 f l=some l
 | [],_=>rfl
 | x::l,h=>by simp only[o6,h x (by simp),pK (l:=l) fun y hy=>h y (by simp[hy])]
def z7 (l:List AV):Prop:=∀x∈l,Pln x
theorem z7.nil:z7 []:=fun x h=>by simp at h
variable {l:List AV}
theorem z7.cons {x:AV}(h:Pln x)(h':z7 l):z7 (x::l):=fun y hy=>by
 rcases List.mem_cons.1 hy with rfl | hy
 ·exact h
 ·exact h' y hy
theorem z7.flat {α:Type}{f:α→List AV}{l:List α}(h:∀a,z7 (f a)):z7 (l.flatMap f):=fun x hx=>by obtain ⟨a,_,ha⟩:=List.mem_flatMap.1 hx;exact h a x ha
theorem z7.map {α:Type}{f:α→AV}{l:List α}(h:∀a,Pln (f a)):z7 (l.map f):=fun x hx=>by obtain ⟨a,_,rfl⟩:=List.mem_map.1 hx;exact h a
theorem z7.WN (h:z7 l):o6 qF l=some l:=pK fun x hx=>(h x hx).sl
theorem z7.frz (h:z7 l)(n:Nat)(H:c6)(d:Nat):o6 (iT n H (d+1)) l=some l:=pK fun x hx=>(h x hx).fz n H d
theorem z7.refs (h:z7 l)(n:Nat):∀x∈l,Refs n x:=fun x hx=>(h x hx).rf n
def gK (e:TypeId)(K g:Nat)(zs:List AV)(k:Nat):Blk:=match zs with
 | []=>⟨g,true,0,0,[],0⟩
 | z::zs=>⟨g,false,e,K,z::zs,k⟩
theorem S4 {e:TypeId}{K g k:Nat}{zs:List AV}:(gK e K g zs k).cells=zs:=by cases zs<;>rfl
theorem Z6 {H:c6}{β:Nat}{b:Blk}(h:H[β]?=some b):H.set β b=H:=by obtain ⟨h1,h2⟩:=List.getElem?_eq_some_iff.1 h;rw[←h2];exact List.set_getElem_self h1
theorem c9.qQ {c:Code}{sl:List AV}{Q:Exit→St→Prop}{γ β k K g len:Nat}{e:TypeId}{zs:List AV}{b':Blk}(hg:h[γ]?=some (s8 e K g zs))(hz:zs.length=len*K)(hK:0<K)(hs:z7 zs)(hb:h[β]?=some b')(hne:β≠γ)(hk:b'.cells[k]?=some (.own γ g 0 len))
  (r:c9 P C c ⟨sl,(h.set γ (gK e K g zs (len*K))).set β { b' with cells:=b'.cells.set k (.vec len zs) }⟩ Q):c9 P C c ⟨sl,h⟩ Q:=by
 cases zs with
 | nil=>
  have h0:len=0:=by
   replace hz:=s7z hz;rcases Nat.mul_eq_zero.1 hz.symm with h | h
   ·exact h
   ·omega
  subst h0;refine c9.S3 (γ:=γ) hg rfl hb hk ?_;have e1:h.set γ (gK e K g [] (0*K))=h:=Z6 hg;rw[e1]at r;exact r
 | cons z zs=>
  have e1:((s8 e K g (z::zs)).cells.drop 0).take (len*K)=z::zs:=by rw[List.drop_zero];exact List.take_of_length_le (by rw[←hz];exact Nat.le_refl _)
  refine c9.L2 (γ:=γ) (off:=0) (len:=len) (cs:=z::zs) hg rfl ?_ ?_ hb hne hk ?_
  ·show 0+len*K≤(z::zs).length;omega
  ·show o6 qF (((s8 e K g (z::zs)).cells.drop 0).take (len*K))=_;rw[e1];exact hs.WN
  ·have e2:eM (s8 e K g (z::zs)) (0+len*(s8 e K g (z::zs)).esz)=gK e K g (z::zs) (len*K):=by show (⟨g,false,e,K,z::zs,max 0 (0+len*K)⟩:Blk)=⟨g,false,e,K,z::zs,len*K⟩;rw[Nat.zero_add,Nat.zero_max]
   rw[e2];exact r
theorem c9.slot {c:Code}{sl:List AV}{Q:Exit→St→Prop}{t:Nat}{x y:AV}(h':c6)(hp:∀(B:Nat) (φ:Map) (w:World),Pic C.eJ B h φ w→Pic C.eJ B h' φ w∧Ev h φ w h' φ w)(hx:sl[t]?=some x)(hxy:∀(B:Nat) (φ:Map) (w:World) (v:Value),Pic C.eJ B h φ w→Rel h φ w v x→Rel h' φ w v y)
  (r:c9 P C c ⟨sl.set t y,h'⟩ Q):c9 P C c ⟨sl,h⟩ Q:=by
 intro B φ w a i s;obtain ⟨i',ev⟩:=hp B φ w i;refine wp_mono (r B φ w a i' ⟨by rw[List.length_set];exact s.size,fun u=>?_,s.nI⟩) fun e a' w' ⟨st',φ',h1,h2,h3,h4⟩=>⟨st',φ',h1,ev.trans h2,h3,h4⟩;show Rel h' φ w _ ((sl.set t y).getD u .any);have hr:=s.rel u;simp only at hr;have hl:=(List.getElem?_eq_some_iff.1 hx).1;by_cases e:t=u
 ·subst e;have e1:(sl.set t y).getD t .any=y:=by simp[List.getD,hl]
  have e2:sl.getD t .any=x:=by simp[List.getD,hx]
  rw[e1];rw[e2]at hr;exact hxy B φ w _ i hr
 ·have e1:(sl.set t y).getD u .any=sl.getD u .any:=by simp[List.getD,List.getElem?_set_ne e]
  rw[e1];exact ev.rel hr
theorem c9.tA {c:Code}{sl:List AV}{Q:Exit→St→Prop}{γ t K g len:Nat}{e:TypeId}{zs:List AV}(hg:h[γ]?=some (s8 e K g zs))(hz:zs.length=len*K)(hK:0<K)(hs:z7 zs)(hx:sl[t]?=some (.own γ g 0 len))
  (r:c9 P C c ⟨sl.set t (.vec len zs),h.set γ (gK e K g zs (len*K))⟩ Q):c9 P C c ⟨sl,h⟩ Q:=by
 cases zs with
 | nil=>
  have h0:len=0:=by
   replace hz:=s7z hz;rcases Nat.mul_eq_zero.1 hz.symm with h | h
   ·exact h
   ·omega
  subst h0;have e1:h.set γ (gK e K g [] (0*K))=h:=Z6 hg;rw[e1]at r;refine c9.slot h (fun B φ w i=>⟨i,.refl _ _ _⟩) hx (fun B φ w v i hr=>?_) r;cases hr with
  | pure hp=>cases hp
  | own _ _ _ _ cap ad b2 hb2 hg2 hlc hcm had hn hvv=>exact .pure (.yE _ _)
 | cons z zs=>
  have e1:((s8 e K g (z::zs)).cells.drop 0).take (len*K)=z::zs:=by rw[List.drop_zero];exact List.take_of_length_le (by rw[←hz];exact Nat.le_refl _)
  have e2:eM (s8 e K g (z::zs)) (0+len*(s8 e K g (z::zs)).esz)=gK e K g (z::zs) (len*K):=by show (⟨g,false,e,K,z::zs,max 0 (0+len*K)⟩:Blk)=⟨g,false,e,K,z::zs,len*K⟩;rw[Nat.zero_add,Nat.zero_max]
  refine c9.slot _ (fun B φ w i=>by rw[←e2];exact qJ _ i hg) hx (fun B φ w v i hr=>?_) r;have:=B4 (off:=0) (len:=len) (cs:=z::zs) i hg rfl rfl (by show 0+len*K≤(z::zs).length;omega) (by show o6 qF (((s8 e K g (z::zs)).cells.drop 0).take (len*K))=_;rw[e1];exact hs.WN) hr;rw[e2]at this;exact this
end
section
variable {P:Program}{C:Cfg}
def ZW (fs:FuncId→Bool)(call:fR):fR:=fun f args h=>match fs f with
 | true=>match args.all (aF 0 9) with
  | true=>match call f args [] with
   | some (x,_)=>match x.scalar with
    | true=>fA0 x fun x=>some (x,h)
    | false=>call f args h
   | none=>call f args h
  | false=>call f args h
 | false=>call f args h
theorem S5 {x:AV}(hx:x.scalar=true):ZU x=x:=by cases x<;>first | rfl | cases hx
theorem QJ {fs:FuncId→Bool}{call:fR}(hc:call.ok P C):(ZW fs call).ok P C:=by
 intro f args h x h' he;unfold ZW at he;split at he
 ·split at he
  ·rename_i ha;split at he
   ·rename_i y h1 hy;split at he
    ·rename_i hsc;simp only[yS,Option.some.injEq,Prod.mk.injEq]at he;obtain ⟨rfl,rfl⟩:=he;have r:=CallA.frameP ha ((hc f args [] _ _ hy).mono fun _ _ e=>e.1) h;rw[S5 hsc]at r;exact r
    ·exact hc _ _ _ _ _ he
   ·exact hc _ _ _ _ _ he
  ·exact hc _ _ _ _ _ he
 ·exact hc _ _ _ _ _ he
variable {h:c6}
end
end Go.Ab
end
section
namespace Go.Ab
section
variable {P:Program}{C:Cfg}{ops:Array Oper}{l:List Oper}{st st':St}{Q:St→Prop}
theorem gJ.p {p:eI}{M:List Nat}{i:Nat}{hs hs':List c6}{pd pd':List Pd}(k:Nat)(hk:gJ P C ops p M (l.drop k) (i+(l.take k).length) st' hs' (pd'.map (mT P C)) Q)
  (h:K6 C ops p M (l.take k) i st hs pd=some (st',hs',pd'):=by simp (maxSteps:=2000000) (disch:=omega) only [go_sem,simprocAttr,if_pos,if_neg];rfl):gJ P C ops p M l i st hs (pd.map (mT P C)) Q:=gJ.pre k h hk
end
section
variable {P:Program}{C:Cfg}{pl:w7}{b:Nat}{ops:Array Oper}{i:Nat}{sl:List AV}{Ks:List Nat}{Hs:List c6}{pd:List Pg}{Q:St→Prop}{o:Oper}{rest:List Oper}{x:AV}
theorem aB.p {l:List Oper}{sl':List AV}(k:Nat)(hk:aB P C ops pl b (l.drop k) (i+(l.take k).length) sl' Ks Hs pd Q)
  (h:qL C ops pl (l.take k) i sl=some sl':=by simp (maxSteps:=2000000) (disch:=omega) only [go_sem,simprocAttr,if_pos,if_neg,Nat.add_assoc,List.replicate,qL,Z4,atA,mkA,laid,kept,aF,List.all_cons,List.all_nil,Bool.and_self,Bool.and_true,Option.map_some,Option.map_none];rfl):aB P C ops pl b l i sl Ks Hs pd Q:=aB.pre k h hk
end
section
variable {P:Program}{C:Cfg}{R:AV→c6→Prop}{st:St}{x:AV}{fn:Func}
theorem Ends.m (hr:R x st.h)(hx:yD C fn.results st.sl st.h=some x:=by simp only[go_sem,yD,lE,mX];first | rfl | (simp (maxSteps:=2000000) (disch:=omega) only [go_sem,simprocAttr,if_pos,if_neg];rfl)):Ends C fn R .ret st:=⟨x,hx,hr⟩
theorem Ends.n (hr:R x st.h)(hx:yD C fn.results st.sl st.h=some x:=by simp only[go_sem,yD,lE,mX];first | rfl | (simp (maxSteps:=2000000) (disch:=omega) only [go_sem,simprocAttr,if_pos,if_neg];rfl)):Ends C fn R .normal st:=⟨x,hx,hr⟩
theorem fact {p q:Prop}(h:p)(e:p=q:=by first | (simp only[decide_eq_true_eq,decide_eq_false_iff_not,Bool.not_eq_true',Bool.not_eq_false',Bool.not_eq_eq_eq_not,Bool.not_true,Bool.not_false,Int.not_le,Int.not_lt,beq_iff_eq,bne_iff_ne,ge_iff_le,gt_iff_lt,beq_eq_false_iff_ne,ne_eq,bne_eq_false_iff_eq];rfl) | rfl):q:=e▸h
end
def look:List (Nat×AV)→Nat→AV
 | [],_=>.any
 | (j,x)::r,i=>if i=j then x else look r i
def xY (l:List (Nat×AV)):Nat→Nat→List AV
 | 0,_=>[]
 | n+1,i=>look l i::xY l n (i+1)
def DV (l:List (Nat×AV)):List Nat→List (Nat×AV)
 | []=>[]
 | k::ks=>(k,look l k)::DV l ks
def mkS (n:Nat)(l:List (Nat×AV)):List AV:=xY l n 0
def FK:Nat→List AV→List (Nat×AV)
 | _,[]=>[]
 | i,x::r=>(i,x)::FK (i+1) r
theorem Z7 (l:List (Nat×AV)):∀n i,(xY l n i).length=n
 | 0,_=>rfl
 | n+1,i=>by simp[xY,Z7 l n (i+1)]
theorem Z8 (l:List (Nat×AV)):∀n i t,(xY l n i).getD t .any=if t<n then look l (i+t) else .any
 | 0,i,t=>by simp[xY]
 | n+1,i,0=>by simp[xY]
 | n+1,i,t+1=>by have:=Z8 l n (i+1) t;simp only[xY,List.getD_cons_succ,this,Nat.add_lt_add_iff_right,show i+1+t=i+(t+1) from by omega]
variable {n:Nat}{l:List (Nat×AV)}
theorem Z9:(mkS n l).length=n:=Z7 l n 0
variable {t:Nat}
theorem tB:(mkS n l).getD t .any=if t<n then look l t else .any:=by unfold mkS;rw[Z8,Nat.zero_add]
theorem AA (l:List (Nat×AV))(x:AV):∀n i d,(xY l n i).set d x=xY ((i+d,x)::l) n i
 | 0,i,d=>by simp[xY]
 | n+1,i,0=>by
  simp only[xY,List.set_cons_zero,Nat.add_zero,look,if_true];congr 1;have key:∀n j,i<j→xY l n j=xY ((i,x)::l) n j:=by
   intro n;induction n with
   | zero=>intros;rfl
   | succ n ih=>
    intro j hj;simp only[xY,look,if_neg (show ¬j=i by omega)];rw[ih (j+1) (by omega)]
  exact key n (i+1) (by omega)
 | n+1,i,d+1=>by have:=AA l x n (i+1) d;simp only[xY,List.set_cons_succ,this,look,if_neg (show ¬i=i+(d+1) by omega),show i+1+d=i+(d+1) from by omega]
variable {x:AV}
theorem cA {d:Nat}:(mkS n l).set d x=mkS n ((d,x)::l):=by unfold mkS;rw[AA,Nat.zero_add]
theorem QK {i:Nat}:look [] i=.any:=rfl
theorem HJ {i j:Nat}{r:List (Nat×AV)}:look ((j,x)::r) i=if i=j then x else look r i:=rfl
theorem AB:∀(xs:List AV) (i t:Nat),look (FK i xs) t=if i≤t then xs.getD (t-i) .any else .any
 | [],i,t=>by simp[FK,look]
 | x::r,i,t=>by
  simp only[FK,look,AB r (i+1) t];by_cases h:t=i
  ·subst h;simp
  ·rw[if_neg h];by_cases h2:i≤t
   ·rw[if_pos h2,if_pos (by omega),show t-i=(t-(i+1))+1 from by omega,List.getD_cons_succ]
   ·rw[if_neg h2,if_neg (by omega)]
variable {sl:List AV}
theorem rho_t {C:Cfg}{t:Tmp}:rho C sl (.tmp t)=sl.getD t .any:=rfl
theorem rho_c {C:Cfg}{v:Value}:rho C sl (.const v)=ZE v:=rfl
theorem rho_g {C:Cfg}{g:Nat}:rho C sl (.global g)=C.eJ g:=rfl
theorem rho_f {C:Cfg}{f:FuncId}:rho C sl (.func f)=.fn (.func f) [] []:=rfl
section
variable {P:Program}{C:Cfg}{h:c6}
theorem QL {m:Nat}:(List.replicate m AV.any).getD t .any=.any:=by simp only[List.getD,List.getElem?_replicate];split<;>rfl
variable {c:Code}
theorem c9.toS {args:List AV}{m:Nat}{Q:Exit→St→Prop}(n:Nat)(hn:args.length+m=n)(r:c9 P C c ⟨mkS n (FK 0 args),h⟩ Q):c9 P C c ⟨args++List.replicate m .any,h⟩ Q:=by
 refine c9.less (by rw[Z9];simp;omega) (fun t=>.inl ?_) r;rw[tB,AB];by_cases ht:t<args.length
 ·rw[if_pos (by omega),if_pos (Nat.zero_le _),Nat.sub_zero];simp[List.getD,List.getElem?_append_left ht]
 ·have e:(args++List.replicate m AV.any).getD t .any=.any:=by have:=QL (m:=m) (t:=t-args.length);simp only[List.getD,List.getElem?_append_right (by omega:args.length≤t)]at this ⊢;exact this
  rw[e];split
  ·rw[if_pos (Nat.zero_le _),Nat.sub_zero];simp[List.getD,List.getElem?_eq_none (by omega:args.length≤t)]
  ·rfl
theorem CallA.bodyS (g:Good P C){f:FuncId}{fn:Func}{c:Code}{args:List AV}{Q:AV→Prop}(n:Nat)(hf:C.fns f=some fn)(hb:fn.body=some c)(hn:fn.ntmps=n)(hl:args.length+(n-args.length)=n)
  (r:c9 P C c ⟨mkS n (FK 0 args),h⟩ (Ends C fn (Fin h Q))):CallA P C f args h (fun x h'=>Q x∧h'=h):=
 CallA.body g hf hb (by rw[hn];exact c9.toS n hl r)
theorem CallA.bodyWS (g:Good P C){f:FuncId}{fn:Func}{c:Code}{args:List AV}{Q:AV→c6→Prop}(n:Nat)(hf:C.fns f=some fn)(hb:fn.body=some c)(hn:fn.ntmps=n)(hl:args.length+(n-args.length)=n)
  (r:c9 P C c ⟨mkS n (FK 0 args),h⟩ (Ends C fn (Ii h Q))):CallA P C f args h Q:=
 CallA.HI g hf hb (by rw[hn];exact c9.toS n hl r)
theorem L3 {l:List (Nat×AV)}(t:Nat):∀ks:List Nat,look (DV l ks) t=look l t∨look (DV l ks) t=.any
 | []=>.inr rfl
 | k::ks=>by
  simp only[DV,look];split
  ·rename_i e;rw[e];exact .inl rfl
  ·exact L3 t ks
theorem c9.c7 {Q:Exit→St→Prop}(ks:List Nat)(r:c9 P C c ⟨mkS n (DV l ks),h⟩ Q):c9 P C c ⟨mkS n l,h⟩ Q:=by
 refine c9.less (by rw[Z9,Z9]) (fun t=>?_) r;rw[tB,tB];by_cases ht:t<n
 ·rw[if_pos ht,if_pos ht];exact L3 t ks
 ·rw[if_neg ht,if_neg ht];exact .inl rfl
def HK (l:List (Nat×AV)):List (Nat×AV)→Prop
 | []=>True
 | (k,x)::r=>x=look l k∧HK l r
def HL (N:Nat):List (Nat×AV)→Prop
 | []=>True
 | (_,x)::r=>Refs N x∧HL N r
theorem HK.get:∀{l':List (Nat×AV)},HK l l'→∀t,look l' t=look l t∨look l' t=.any
 | [],_,t=>.inr rfl
 | (k,x)::r,⟨h1,h2⟩,t=>by
  simp only[look];split
  ·rename_i e;rw[e,h1];exact .inl rfl
  ·exact h2.get t
theorem HL.get {N:Nat}:∀{l:List (Nat×AV)},HL N l→∀t,Refs N (look l t)
 | [],_,t=>.any
 | (k,x)::r,⟨h1,h2⟩,t=>by
  simp only[look];split
  ·exact h1
  ·exact h2.get t
theorem qR {l l':List (Nat×AV)}(h:∀t,look l' t=look l t∨look l' t=.any):∀n i,FJ (xY l' n i) (xY l n i)
 | 0,_=>trivial
 | n+1,i=>⟨h i,qR h n (i+1)⟩
theorem L4 {N:Nat}{l:List (Nat×AV)}(h:∀t,Refs N (look l t)):∀n i,∀x∈xY l n i,Refs N x
 | 0,_,x,hx=>by simp[xY]at hx
 | n+1,i,x,hx=>by
  rcases List.mem_cons.1 hx with rfl | hx
  ·exact h i
  ·exact L4 h n (i+1) x hx
theorem yG.s {h0 H:c6}{I:Nat→St→Prop}{m n:Nat}{l:List (Nat×AV)}(l':List (Nat×AV))(h2 l2:c6)(he:H=h2++l2)(hl:h0.length≤h2.length)(hk:aI h0 h2)(hI:I m ⟨mkS n l',h2⟩)
  (hs:HK l l':=by repeat' (first | refine ⟨?_,?_⟩ | exact trivial | rfl | (refine congrArg (AV.int _) ?_;omega)))
  (hr:HL h2.length l':=by repeat' (first | refine ⟨?_,?_⟩ | exact trivial | exact .any | exact .int _ _ | exact .bool _ | exact .str _ | exact .vec _ _ | exact .j4 | (refine .own _ _ _ _ ?_;simp;done) | (refine .ptr _ _ _ ?_;simp;done) | (refine .own _ _ _ _ ?_;simp;omega) | (refine .ptr _ _ _ ?_;simp;omega))):yG h0 I m ⟨mkS n l,H⟩:=
 ⟨mkS n l',h2,l2,he,hl,hk,qR hs.get n 0,L4 hr.get n 0,hI⟩
theorem Fits.s {H:c6}{I:Nat→St→Prop}{m n:Nat}{l:List (Nat×AV)}(l':List (Nat×AV))(hI:I m ⟨mkS n l',H⟩)
  (hs:HK l l':=by repeat' (first | refine ⟨?_,?_⟩ | exact trivial | rfl | (refine congrArg (AV.int _) ?_;omega))):Fits I m ⟨mkS n l,H⟩:=
 ⟨mkS n l',qR hs.get n 0,hI⟩
theorem c9.fitS {Q:Exit→St→Prop}(l':List (Nat×AV))(r:c9 P C c ⟨mkS n l',h⟩ Q)(hs:HK l l':=by repeat' (first | refine ⟨?_,?_⟩ | exact trivial | rfl | (refine congrArg (AV.int _) ?_;omega))):c9 P C c ⟨mkS n l,h⟩ Q:=
 c9.fit _ (qR hs.get n 0) r
theorem L5 {l:List (Nat×AV)}{k N:Nat}(hk:look l k=.j4):∀n i,DR N (xY ((k,.own N 0 0 0)::l) n i) (xY l n i)
 | 0,_=>trivial
 | n+1,i=>by
  refine ⟨?_,L5 hk n (i+1)⟩;simp only[look];split
  ·rename_i e;rw[e];exact .inr ⟨hk,rfl⟩
  ·exact .inl rfl
theorem c9.wC {Q:Exit→St→Prop}(k:Nat)(hk:look l k=.j4)(r:c9 P C c ⟨mkS n ((k,.own h.length 0 0 0)::l),h++[⟨0,true,0,0,[],0⟩]⟩ Q):c9 P C c ⟨mkS n l,h⟩ Q:=
 c9.virtual _ (L5 hk n 0) r
theorem kT (ht:t<n)(hx:look l t=x):(mkS n l)[t]?=some x:=by
 have h1:t<(mkS n l).length:=by rw[Z9];exact ht
 have h2:=tB (n:=n) (t:=t) (l:=l);rw[if_pos ht,hx]at h2;simp only[List.getD,List.getElem?_eq_getElem h1,Option.getD_some]at h2;rw[List.getElem?_eq_getElem h1,h2]
def DW (C:Cfg)(n:Nat)(l:List (Nat×AV)):Operand→AV
 | .tmp t=>if t<n then look l t else .any
 | .const v=>ZE v
 | .global g=>C.eJ g
 | .func f=>.fn (.func f) [] []
theorem rY:DW C n l=rho C (mkS n l):=by funext x;cases x<;>simp only[DW,rho,tB]
theorem HM {d:Nat}(hn:Nat.blt d n=true)(hx:look l d=x):(mkS n l).getD d .any=x:=by rw[tB,if_pos (by simpa [Nat.blt_eq] using hn),hx]
variable {b:Bool}
theorem c9.spl {Q:Exit→St→Prop}(d:Nat)(hn:Nat.blt d n=true)(hv:look l d=.bool b)(ht:b=true→c9 P C c ⟨mkS n l,h⟩ Q)(hf:b=false→c9 P C c ⟨mkS n l,h⟩ Q):c9 P C c ⟨mkS n l,h⟩ Q:=
 c9.split d (HM hn hv) ht hf
theorem o4.spl {ops:Array Oper}{rest:List Oper}{Q:St→Prop}(d:Nat)(hn:Nat.blt d n=true)(hv:look l d=.bool b)(ht:b=true→o4 P C ops rest ⟨mkS n l,h⟩ Q)(hf:b=false→o4 P C ops rest ⟨mkS n l,h⟩ Q):o4 P C ops rest ⟨mkS n l,h⟩ Q:=
 o4.split d (HM hn hv) ht hf
theorem kF.spl {ops:Array Oper}{p:eI}{i:Nat}{rest:List Oper}{Q:St→Prop}(d:Nat)(hn:Nat.blt d n=true)(hv:look l d=.bool b)(ht:b=true→kF P C ops p rest i ⟨mkS n l,h⟩ Q)(hf:b=false→kF P C ops p rest i ⟨mkS n l,h⟩ Q):kF P C ops p rest i ⟨mkS n l,h⟩ Q:=
 kF.split d (HM hn hv) ht hf
theorem c9.cT {c:Operand}{x y:Code}{Q:Exit→St→Prop}(hc:DW C n l c=.bool true)(r:c9 P C x ⟨mkS n l,h⟩ Q):c9 P C (.cond c x y) ⟨mkS n l,h⟩ Q:=c9.A0 (by rw[←rY];exact hc) r
theorem c9.cF {c:Operand}{x y:Code}{Q:Exit→St→Prop}(hc:DW C n l c=.bool false)(r:c9 P C y ⟨mkS n l,h⟩ Q):c9 P C (.cond c x y) ⟨mkS n l,h⟩ Q:=c9.DO (by rw[←rY];exact hc) r
def B9 (ops:Array Oper)(n:Nat)(l:List (Nat×AV))(o:Oper):Option Bool:=
 match o.guard with
 | none=>some true
 | some (j,want)=>match (ops[j]?).bind (·.dst) with
  | some d=>match (if d<n then look l d else .any) with
   | .bool b=>some (b==want)
   | .tup []=>some false
   | _=>none
  | none=>none
theorem uE {ops:Array Oper}{o:Oper}:B9 ops n l o=aX ops (mkS n l) o:=by unfold B9 aX;simp only[tB];rfl
theorem o4.cq {ops:Array Oper}{o:Oper}{rest:List Oper}{Q:St→Prop}{n d:Nat}{l:List (Nat×AV)}{x:AV}{c:Call}{f:FuncId}{args:List AV}(ho:o.op=.call c)(ht:aH C (DW C n l) c=some (f,args))(hb:p9 C f=true)
  (hc:CallA P C f args h fun y h'=>y=x∧h'=h) (hk:o4 P C ops rest ⟨mkS n ((d,x)::l),h⟩ Q) (hw:B9 ops n l o=some true:=by rfl) (hd:o.dst=some d:=by rfl):o4 P C ops (o::rest) ⟨mkS n l,h⟩ Q:=
 o4.ZL (uE▸hw) ho (rY▸ht) hb hc (by rw[hd];show o4 P C ops rest ⟨(mkS n l).set d x,h⟩ Q;rw[cA];exact hk)
theorem o4.ce {ops:Array Oper}{o:Oper}{rest:List Oper}{Q:St→Prop}{n d:Nat}{l:List (Nat×AV)}{x:AV}{H:c6}{c:Call}{f:FuncId}{args:List AV}(ho:o.op=.call c)(ht:aH C (DW C n l) c=some (f,args))(hb:p9 C f=true)
  (hc:CallA P C f args h fun y h'=>y=x∧h'=H) (hk:o4 P C ops rest ⟨mkS n ((d,x)::l),H⟩ Q) (hw:B9 ops n l o=some true:=by rfl) (hd:o.dst=some d:=by rfl):o4 P C ops (o::rest) ⟨mkS n l,h⟩ Q:=
 o4.u9 (uE▸hw) ho (rY▸ht) hb hc (by rw[hd];show o4 P C ops rest ⟨(mkS n l).set d x,H⟩ Q;rw[cA];exact hk)
theorem kF.cq {ops:Array Oper}{p:eI}{i:Nat}{o:Oper}{rest:List Oper}{Q:St→Prop}{n d:Nat}{l:List (Nat×AV)}{x:AV}{c:Call}{f:FuncId}{args:List AV}(ho:o.op=.call c)(ht:aH C (DW C n l) c=some (f,args))(hb:p9 C f=true)
  (hc:CallA P C f args h fun y h'=>y=x∧h'=h) (hk:kF P C ops p rest (i+1) ⟨mkS n ((d,x)::l),h⟩ Q) (hw:B9 ops n l o=some true:=by rfl) (hd:o.dst=some d:=by rfl):kF P C ops p (o::rest) i ⟨mkS n l,h⟩ Q:=
 kF.call (uE▸hw) ho (rY▸ht) hb hc (by rw[hd];show kF P C ops p rest (i+1) ⟨(mkS n l).set d x,h⟩ Q;rw[cA];exact hk)
def DX:List (Nat×Tmp)→Nat→Option Tmp
 | [],_=>none
 | (j,d)::r,i=>if i=j then some d else DX r i
def HN (js:List (Nat×Tmp))(sl:List AV)(o:Oper):Option Bool:=
 match o.guard with
 | none=>some true
 | some (j,want)=>match DX js j with
  | some d=>match sl.getD d .any with
   | .bool b=>some (b==want)
   | .tup []=>some false
   | _=>none
  | none=>none
def OR (ops:Array Oper)(js:List (Nat×Tmp)):Bool:=js.all fun x=>match (ops[x.1]?).bind (·.dst) with
 | some d=>d==x.2
 | none=>false
def opsV (C:Cfg)(js:List (Nat×Tmp)):List Oper→St→Option St
 | [],st=>some st
 | o::rest,st=>match HN js st.sl o with
  | some true=>match v8 C (rho C st.sl) st.h o.op with
   | some (x,h')=>opsV C js rest ⟨eY st.sl o.dst x,h'⟩
   | none=>none
  | some false=>opsV C js rest ⟨eY st.sl o.dst (.tup []),st.h⟩
  | none=>none
def S6 (C:Cfg)(js:List (Nat×Tmp))(p:eI):List Oper→Nat→St→Option St
 | [],_,st=>some st
 | o::rest,i,st=>match HN js st.sl o with
  | some true=>match DP C (p.isE i) (rho C st.sl) st.h o.op with
   | some (x,h')=>S6 C js p rest (i+1) ⟨eY st.sl o.dst x,h'⟩
   | none=>none
  | some false=>match p.isE i with
   | true=>none
   | false=>S6 C js p rest (i+1) ⟨eY st.sl o.dst (.tup []),st.h⟩
  | none=>none
theorem AD {ops:Array Oper}:∀{js:List (Nat×Tmp)},OR ops js=true→∀{j d},DX js j=some d→(ops[j]?).bind (·.dst)=some d
 | [],_,j,d,h=>by simp[DX]at h
 | (k,e)::r,hg,j,d,h=>by
  simp only[OR,List.all_cons,Bool.and_eq_true]at hg;simp only[DX]at h;split at h
  ·rename_i hj;cases h;subst hj;have h1:=hg.1;split at h1
   ·rename_i d' e';rw[e'];simp only[beq_iff_eq]at h1;rw[h1]
   ·cases h1
  ·exact AD (js:=r) hg.2 h
theorem uF {ops:Array Oper}{js:List (Nat×Tmp)}(hg:OR ops js=true){o:Oper}(h:HN js sl o=some b):aX ops sl o=some b:=by
 unfold HN at h;unfold aX;split at h
 ·rename_i e;rw[e];exact h
 ·rename_i j want e;rw[e];split at h
  ·rename_i d hd;simp only[AD hg hd];exact h
  ·cases h
theorem rZ {ops:Array Oper}{js:List (Nat×Tmp)}(hg:OR ops js=true):∀{l:List Oper} {st st':St},opsV C js l st=some st'→PQ C ops l st=some st'
 | [],st,st',h=>h
 | o::l,st,st',h=>by
  simp only[opsV]at h;simp only[PQ];split at h
  ·rename_i hw;rw[uF hg hw];simp only;split at h
   ·rename_i e;(try rw[e]);exact rZ hg h
   ·cases h
  ·rename_i hw;rw[uF hg hw];exact rZ hg h
  ·cases h
theorem uG {ops:Array Oper}{js:List (Nat×Tmp)}{p:eI}(hg:OR ops js=true):∀{l:List Oper} {i:Nat} {st st':St},S6 C js p l i st=some st'→A4 C ops p l i st=some st'
 | [],i,st,st',h=>h
 | o::l,i,st,st',h=>by
  simp only[S6]at h;simp only[A4];split at h
  ·rename_i hw;rw[uF hg hw];simp only;split at h
   ·rename_i e;(try rw[e]);exact uG hg h
   ·cases h
  ·rename_i hw;rw[uF hg hw];simp only;split at h
   ·cases h
   ·rename_i e;(try rw[e]);exact uG hg h
  ·cases h
section
variable {ops:Array Oper}{rest:List Oper}{st st':St}{Q:St→Prop}{p:eI}{i:Nat}
end
def sA:List Nat→Code→Code
 | [],c=>c
 | 0::r,.seq x _=>sA r x
 | 1::r,.seq _ y=>sA r y
 | 0::r,.block _ c=>sA r c
 | 0::r,.loop c=>sA r c
 | 0::r,.cond _ x _=>sA r x
 | 1::r,.cond _ _ y=>sA r y
 | _::_,c=>c
def kU (f:Func):Code:=f.body.getD .skip
def Led (n:Nat)(l':List (Nat×AV))(H:c6)(e:Exit)(st:St):Prop:=e=.normal∧∃l hh,st=⟨mkS n l,H++hh⟩∧HK l l'
theorem Led.mk {l':List (Nat×AV)}{H H':c6}(hh:c6)(he:H'=H++hh)(hs:HK l l':=by repeat' (first | refine ⟨?_,?_⟩ | exact trivial | rfl | (refine congrArg (AV.int _) ?_;omega))):Led n l' H .normal ⟨mkS n l,H'⟩:=
 ⟨rfl,l,hh,by rw[he],hs⟩
theorem c9.led {st:St}{Q:Exit→St→Prop}{l':List (Nat×AV)}{H:c6}(r:c9 P C c st (Led n l' H))(hq:∀l hh,HK l l'→Q .normal ⟨mkS n l,H++hh⟩):c9 P C c st Q:=
 r.mono fun e st ⟨h1,l,hh,h2,h3⟩=>by rw[h1,h2];exact hq l hh h3
end
end Go.Ab
end
