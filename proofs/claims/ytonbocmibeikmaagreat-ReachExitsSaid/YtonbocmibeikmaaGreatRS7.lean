/- My own texts, put together by a program of mine. -/
import Derived.Test.YtonbocmibeikmaaGreatRS6
set_option linter.unusedSimpArgs false
set_option linter.unusedVariables false
set_option maxRecDepth 100000
set_option maxHeartbeats 4000000
section
namespace Go.Un
open Go.Ab
section
variable {k n:Nat}{nx:Nat→List Int}{st:Nat→List Nat}
structure Gro (k n:Nat)(nx:Nat→List Int)(st:Nat→List Nat)(T:List (List Nat)):Prop where
 tb:Tb k n T
 id:Sub (dhN k 0) (T.getD 0 [])
 le:nP T (dS k n nx st)
variable {a b:List Nat}
theorem lG (ha:Rl k a)(hb:Rl k b):Sub a (cN a b):=fun d e h=>(tL ha hb).2 (.inl h)
theorem wM (ha:Rl k a)(hb:Rl k b):Sub b (cN a b):=fun d e h=>(tL ha hb).2 (.inr h)
theorem rW {c:List Nat}(ha:Rl k a)(hb:Rl k b)(h1:Sub a c)(h2:Sub b c):Sub (cN a b) c:=fun d e h=>((tL ha hb).1 h).elim (h1 d e) (h2 d e)
theorem aL (ha:Rl k a)(hb:Rl k b):cN a b=a↔Sub b a:=
 ⟨fun h=>by have:=wM ha hb;rw[h]at this;exact this,fun h=>Sub.De (qB ha hb) ha (rW ha hb (Sub.refl _) h) (lG ha hb)⟩
theorem Gro.start (p:Pro k n nx st):Gro k n nx st ((List.replicate n (List.replicate (k+1) 0)).set 0 (dhN k 0)):=by
 have hl:0<(List.replicate n (List.replicate (k+1) 0)).length:=by rw[List.length_replicate];exact p.pos
 have tb:Tb k n (List.replicate n (List.replicate (k+1) 0)):=⟨by simp,fun r hr=>by rw[List.eq_of_mem_replicate hr];exact U0 _⟩;refine ⟨tb.set (rl_dh _ _),by rw[eJ hl,if_pos rfl];exact Sub.refl _,fun i=>?_⟩;rw[eJ hl];split
 ·rename_i e;subst e;exact (BF p).id
 ·intro d e h;rw[List.getD_eq_getElem?_getD,List.getElem?_replicate]at h;split at h
  ·rw[show ((some (List.replicate (k+1) 0):Option (List Nat)).getD [])=List.replicate (k+1) 0 from rfl,wB]at h;cases h
  ·simp[bt]at h
variable {T:List (List Nat)}{pc:Nat}
theorem Gro.aft (p:Pro k n nx st)(g:Gro k n nx st T)(hp:pc<n):Rl k (o5 (T.getD pc []) (st pc))∧∀q∈nx pc,Sub (o5 (T.getD pc []) (st pc)) ((dS k n nx st).getD q.toNat []):=by refine ⟨EG (g.tb.get hp) (p.st pc hp),fun q hq d e h=>?_⟩;obtain ⟨f,h1,h2⟩:=(kF (g.tb.get hp) (p.st pc hp)).1 h;exact (BF p).at' pc hp q hq d e ((kF ((qE k n nx st).get hp) (p.st pc hp)).2 ⟨f,g.le pc d f h1,h2⟩)
variable {q:Nat}
theorem Gro.set (g:Gro k n nx st T)(hq:q<n)(ha:Rl k a)(hs:Sub a ((dS k n nx st).getD q [])):Gro k n nx st (T.set q (cN (T.getD q []) a))∧nP T (T.set q (cN (T.getD q []) a)):=by
 have hl:q<T.length:=by rw[g.tb.1];exact hq
 have hs':nP T (T.set q (cN (T.getD q []) a)):=fun i=>by
  rw[eJ hl];split
  ·rename_i e;subst e;exact lG (g.tb.get hq) ha
  ·exact Sub.refl _
 refine ⟨⟨g.tb.set (qB (g.tb.get hq) ha),g.id.trans (hs' 0),fun i=>?_⟩,hs'⟩;rw[eJ hl];split
 ·rename_i e;subst e;exact rW (g.tb.get hq) ha (g.le i) hs
 ·exact g.le i
theorem TK.mono {T':List (List Nat)}(c:TK nx st T pc)(he:T'.getD pc []=T.getD pc [])(hs:nP T T'):TK nx st T' pc:=fun q hq=>by rw[he];exact (c q hq).trans (hs _)
theorem Gro.done (p:Pro k n nx st)(g:Gro k n nx st T)(h:∀pc,pc<n→TK nx st T pc):T=dS k n nx st:=ClT.eq p ⟨g.tb,g.id,h⟩ g.le
structure NT (k n:Nat)(nx:Nat→List Int)(st:Nat→List Nat)(T:List (List Nat))(todo:List Nat):Prop where
 g:Gro k n nx st T
 td:∀x∈todo,x<n
 cl:∀pc,pc<n→pc∉todo→TK nx st T pc
theorem NT.start (p:Pro k n nx st):NT k n nx st ((List.replicate n (List.replicate (k+1) 0)).set 0 (dhN k 0)) [0]:=by
 refine ⟨Gro.start p,by simp;exact p.pos,fun pc hp hm q hq d e h=>?_⟩;have hl:0<(List.replicate n (List.replicate (k+1) 0)).length:=by rw[List.length_replicate];exact p.pos
 obtain ⟨f,h1,_⟩:=(kF ((Gro.start p).tb.get hp) (p.st pc hp)).1 h;rw[eJ hl,if_neg (by simpa using hm),List.getD_eq_getElem?_getD,List.getElem?_replicate,if_pos hp]at h1;rw[show ((some (List.replicate (k+1) 0):Option (List Nat)).getD [])=List.replicate (k+1) 0 from rfl,wB]at h1;cases h1
structure LO (k n:Nat)(nx:Nat→List Int)(st:Nat→List Nat)(pc:Nat)(R0:List Nat)(t0 l0:Nat)(T:List (List Nat))(todo:List Nat)(j:Nat):Prop where
 g:Gro k n nx st T
 td:∀x∈todo,x<n
 cl:∀p,p<n→p∉todo→p≠pc→TK nx st T p
 own:pc∈todo∨T.getD pc []=R0
 dn:∀d,d<j→Sub (o5 R0 (st pc)) (T.getD ((nx pc).getD d 0).toNat [])
 me:todo.length+t0≤l0+tot T
 mo:t0≤tot T
variable {todo:List Nat}
theorem NT.pop (h:NT k n nx st T (todo++[pc])):pc<n∧LO k n nx st pc (T.getD pc []) (tot T) todo.length T todo 0:=by refine ⟨h.td pc (by simp),h.g,fun x hx=>h.td x (by simp[hx]),fun p hp hm hne=>h.cl p hp (by simp[hm,hne]),.inr rfl,fun d hd=>by omega,Nat.le_refl _,Nat.le_refl _⟩
variable {t0 l0 j:Nat}{R0:List Nat}
theorem LO.skip (h:LO k n nx st pc R0 t0 l0 T todo j)(hs:Sub (o5 R0 (st pc)) (T.getD ((nx pc).getD j 0).toNat [])):LO k n nx st pc R0 t0 l0 T todo (j+1):=
 ⟨h.g,h.td,h.cl,h.own,fun d hd=>if e:d=j then by rw[e];exact hs else h.dn d (by omega),h.me,h.mo⟩
theorem LO.grow (p:Pro k n nx st)(hp:pc<n)(h:LO k n nx st pc R0 t0 l0 T todo j)(hR:Rl k (o5 R0 (st pc)))(hle:∀q∈nx pc,Sub (o5 R0 (st pc)) ((dS k n nx st).getD q.toNat []))(hj:j<(nx pc).length)(hqe:((nx pc).getD j 0).toNat=q)(hs:¬Sub (o5 R0 (st pc)) (T.getD q [])):LO k n nx st pc R0 t0 l0 (T.set q (cN (T.getD q []) (o5 R0 (st pc)))) (todo++[q]) (j+1):=by
 have hqm:(nx pc).getD j 0∈nx pc:=j7 hj;have hq:q<n:=by have:=p.nx pc hp _ hqm;omega
 obtain ⟨g',hs'⟩:=h.g.set hq hR (by have:=hle _ hqm;rwa[hqe]at this);have hl:q<T.length:=by rw[h.g.tb.1];exact hq
 have h2:=C3 h.g.tb hq (qB (h.g.tb.get hq) hR) (lG (h.g.tb.get hq) hR) (fun he=>hs ((aL (h.g.tb.get hq) hR).1 he.symm));refine ⟨g',fun x hx=>?_,fun p' hp' hm hne=>?_,?_,fun d hd=>?_,?_,by have:=h.mo;omega⟩
 ·rcases List.mem_append.1 hx with hx | hx
  ·exact h.td x hx
  ·rw[List.mem_singleton]at hx;omega
 ·simp only[List.mem_append,List.mem_singleton,not_or]at hm;exact (h.cl p' hp' hm.1 hne).mono (by rw[eJ hl,if_neg hm.2]) hs'
 ·rcases h.own with ho | ho
  ·exact .inl (by simp[ho])
  ·by_cases e:pc=q
   ·exact .inl (by simp[e])
   ·exact .inr (by rw[eJ hl,if_neg e];exact ho)
 ·by_cases e:d=j
  ·rw[e,hqe,eJ hl,if_pos rfl];exact wM (h.g.tb.get hq) hR
  ·exact (h.dn d (by omega)).trans (hs' _)
 ·have h1:=h.me;rw[List.length_append,List.length_singleton];omega
theorem LO.fin (hp:pc<n)(h:LO k n nx st pc R0 t0 l0 T todo (nx pc).length):NT k n nx st T todo:=by
 refine ⟨h.g,h.td,fun p hp' hm=>?_⟩;by_cases e:p=pc
 ·subst e;intro q hq;rcases h.own with ho | ho
  ·exact absurd ho hm
  ·obtain ⟨d,hd,rfl⟩:=List.getElem_of_mem hq;have:=h.dn d hd;rw[←ho]at this;simpa [List.getD,hd] using this
 ·exact h.cl p hp' hm e
theorem NT.done (p:Pro k n nx st)(h:NT k n nx st T []):T=dS k n nx st:=h.g.done p fun pc hp=>h.cl pc hp (by simp)
def XK (n:Nat)(T:List (List Nat))(l:Nat):Nat:=2*(4608*n-tot T)+l
variable {T0:List (List Nat)}
theorem mRun_lt (hk:k≤8)(h:LO k n nx st pc R0 (tot T0) l0 T todo j)(h0:Gro k n nx st T0):XK n T todo.length<XK n T0 (l0+1):=by have h1:=h.me;have h2:=L4 hk h.g.tb;have h3:=L4 hk h0.tb;have h4:=h.mo;unfold XK;omega
structure EW (k n:Nat)(nx:Nat→List Int)(st:Nat→List Nat)(T0 T:List (List Nat))(again:Bool)(pc:Nat):Prop where
 g:Gro k n nx st T
 le:tot T0≤tot T
 yes:again=true→tot T0<tot T
 no:again=false→T=T0∧∀p,p<pc→TK nx st T p
theorem EW.start (g:Gro k n nx st T):EW k n nx st T T false 0:=⟨g,Nat.le_refl _,fun h=>by (cases h),fun _=>⟨rfl,fun p hp=>by omega⟩⟩
structure EH (k n:Nat)(nx:Nat→List Int)(st:Nat→List Nat)(T0 T:List (List Nat))(again:Bool)(pc:Nat)(R0:List Nat)(j:Nat):Prop where
 g:Gro k n nx st T
 le:tot T0≤tot T
 yes:again=true→tot T0<tot T
 no:again=false→T=T0∧(∀p,p<pc→TK nx st T p)∧R0=T.getD pc []∧∀d,d<j→Sub (o5 R0 (st pc)) (T.getD ((nx pc).getD d 0).toNat [])
variable {again:Bool}
theorem EW.go (h:EW k n nx st T0 T again pc):EH k n nx st T0 T again pc (T.getD pc []) 0:=
 ⟨h.g,h.le,h.yes,fun e=>⟨(h.no e).1,(h.no e).2,rfl,fun d hd=>by omega⟩⟩
theorem EH.skip (h:EH k n nx st T0 T again pc R0 j)(hs:Sub (o5 R0 (st pc)) (T.getD ((nx pc).getD j 0).toNat [])):EH k n nx st T0 T again pc R0 (j+1):=
 ⟨h.g,h.le,h.yes,fun e=>⟨(h.no e).1,(h.no e).2.1,(h.no e).2.2.1,fun d hd=>if e2:d=j then by rw[e2];exact hs else (h.no e).2.2.2 d (by omega)⟩⟩
theorem EH.grow (p:Pro k n nx st)(hp:pc<n)(h:EH k n nx st T0 T again pc R0 j)(hR:Rl k (o5 R0 (st pc)))(hle:∀q∈nx pc,Sub (o5 R0 (st pc)) ((dS k n nx st).getD q.toNat []))(hj:j<(nx pc).length)(hqe:((nx pc).getD j 0).toNat=q)(hs:¬Sub (o5 R0 (st pc)) (T.getD q [])):EH k n nx st T0 (T.set q (cN (T.getD q []) (o5 R0 (st pc)))) true pc R0 (j+1):=by
 have hqm:(nx pc).getD j 0∈nx pc:=j7 hj;have hq:q<n:=by have:=p.nx pc hp _ hqm;omega
 obtain ⟨g',hs'⟩:=h.g.set hq hR (by have:=hle _ hqm;rwa[hqe]at this);have h2:=C3 h.g.tb hq (qB (h.g.tb.get hq) hR) (lG (h.g.tb.get hq) hR) (fun he=>hs ((aL (h.g.tb.get hq) hR).1 he.symm));have h3:=h.le;exact ⟨g',by omega,fun _=>by omega,fun e=>by cases e⟩
theorem EH.fin (h:EH k n nx st T0 T again pc R0 (nx pc).length):EW k n nx st T0 T again (pc+1):=by
 refine ⟨h.g,h.le,h.yes,fun e=>⟨(h.no e).1,fun p hp=>?_⟩⟩;obtain ⟨h1,h2,h3,h4⟩:=h.no e;by_cases e2:p=pc
 ·subst e2;intro q hq;obtain ⟨d,hd,rfl⟩:=List.getElem_of_mem hq;have:=h4 d hd;rw[h3]at this;simpa [List.getD,hd] using this
 ·exact h2 p (by omega)
theorem EW.done (p:Pro k n nx st)(h:EW k n nx st T0 T false n):T=dS k n nx st:=h.g.done p (h.no rfl).2
def TU (n:Nat)(T:List (List Nat))(again:Bool):Nat:=if again then 4608*n-tot T+1 else 0
theorem LP (hk:k≤8)(h:EW k n nx st T0 T again pc):TU n T again<TU n T0 true:=by
 have h1:=L4 hk h.g.tb;unfold TU;cases again
 ·simp
 ·have:=h.yes rfl;simp only[if_true];omega
end
section
variable {u:Un}{c:Clo}{m:Nat}
structure OfI (u:Un)(c:Clo)(m:Nat)(S0 S:List (List Nat))(again:Bool)(i:Nat):Prop where
 low:Low u c m S
 le:tot S0≤tot S
 yes:again=true→tot S0<tot S
 no:again=false→S=S0∧∀j,i≤j→j<c.insts.length→exT u c m S j=S.getD j []
variable {S:List (List Nat)}
theorem OfI.start (h:Low u c m S):OfI u c m S S false c.insts.length:=⟨h,Nat.le_refl _,fun h=>by (cases h),fun _=>⟨rfl,fun j h1 h2=>by omega⟩⟩
variable {S0:List (List Nat)}{again:Bool}{i:Nat}
theorem OfI.same (h:OfI u c m S0 S again (i+1))(he:exT u c m S i=S.getD i []):OfI u c m S0 S again i:=
 ⟨h.low,h.le,h.yes,fun e=>⟨(h.no e).1,fun j h1 h2=>if e2:j=i then by rw[e2];exact he else (h.no e).2 j (by omega) h2⟩⟩
theorem OfI.set (hu:WU u)(wc:WC u c)(hi:i<c.insts.length)(h:OfI u c m S0 S again (i+1))(he:exT u c m S i≠S.getD i []):OfI u c m S0 (S.set i (exT u c m S i)) true i:=by have h1:=h.low.set hu wc hi;have h2:=C3 h.low.tb hi (L5 (u:=u) (c:=c) (m:=m) S i) (h.low.up i hi) (Ne.symm he);have h3:=h.le;exact ⟨h1.1,by omega,fun _=>by omega,fun e=>by cases e⟩
theorem OfI.done (hu:WU u)(wc:WC u c)(h:OfI u c m S0 S false 0):S=bR u c m:=
 XH hu wc h.low.tb h.low.le fun i hi=>(h.no rfl).2 i (Nat.zero_le _) hi
theorem mOf_lt (h:OfI u c m S0 S again i):TU c.insts.length S again<TU c.insts.length S0 true:=by
 have h1:=L4 eV h.low.tb;unfold TU;cases again
 ·simp
 ·have:=h.yes rfl;simp only[if_true];omega
theorem Low.grow (hu:WU u)(wc:WC u c)(h:Low u c m S)(hne:S≠yE u c m S):tot S<tot (yE u c m S)∧tot (yE u c m S)≤4608*c.insts.length:=
 ⟨(TL h.tb (jR S) (h.round hu wc).2).2 hne,L4 eV (jR S)⟩
end
section
variable (u:Un)(c:Clo)(m:Nat)
def Susp:Nat→Nat→List (Nat×Nat)→Prop
 | _,_,[]=>True
 | i,d,(i',q)::rest=>∃pc' d',q=pc'+1∧i'<c.insts.length∧pc'<r8 u c i'∧LJ u c m i' d'∧Inn u c m i' pc' d' d∧(dW u c i' pc').op=2∧eN c i' pc'=i∧Susp i' d' rest
def TV (d:Nat):List (Nat×Nat)→Prop
 | []=>d≤kM u m
 | (i,pc)::rest=>∃d0,LJ u c m i d0∧Inn u c m i pc d0 d∧Susp u c m i d0 rest
end
section
variable {u:Un}{c:Clo}{m:Nat}
theorem TV.at' (hu:WU u)(wc:WC u c){d i pc:Nat}{rest:List (Nat×Nat)}(h:TV u c m d ((i,pc)::rest)):i<c.insts.length∧pc<r8 u c i∧d≤kM u m:=by obtain ⟨d0,h1,h2,_⟩:=h;have h3:=(h1.lt hu wc).1;have h4:=h2.lt hu wc h3;exact ⟨h3,h4.1,h4.2.2⟩
theorem TV.depth (hu:WU u)(wc:WC u c){d:Nat}{l:List (Nat×Nat)}(h:TV u c m d l):d≤kM u m:=by
 cases l with
 | nil=>exact h
 | cons p rest=>exact (h.at' hu wc).2.2
end
end Go.Un
end
section
namespace Go.Proofs.YtonbocmibeikmaaGreat
open Go.Ab Go.Un
variable {i:Nat}
theorem oK {l:List (List Int)}(h:i<l.length):List.take 1 (List.drop i (j8 l))=[.vec (l.getD i []).length (g6 (l.getD i []))]:=by unfold j8;rw[←List.map_drop,←List.map_take,List.drop_eq_getElem_cons h,List.take_succ_cons,List.take_zero];simp[List.getD,h]
variable {c:Clo}
theorem jF (h:i<c.insts.length):List.take 2 (List.drop (i*2) (g9 c.insts))=[.int .i64 (itI c i).proc,.vec (itI c i).j4.length (g6 (itI c i).j4)]:=HG h
variable {k:Nat}
theorem L7:(((k+1:Nat):Int)-1)=((k:Nat):Int):=by omega
theorem oL (n:Nat):(List.replicate n [AV.nils]).flatten=List.replicate n AV.nils:=by
  induction n with
  | zero=>rfl
  | succ n ih=>rw[List.replicate_succ,List.flatten_cons,ih];rfl
variable {r:List Nat}
theorem wN {T:List (List Nat)}(h:i<T.length):List.take i (l9 T)++AV.vec r.length (r.map j9)::List.drop (i+1) (l9 T)=l9 (T.set i r):=overT h
theorem iQ:(1≤maxLen)=True:=eq_true (by decide)
theorem overT0 {T:List (List Nat)}(h:0<T.length):bZ r::List.drop 1 (l9 T)=l9 (T.set 0 r):=overT (i:=0) h
variable {n:Nat}{Z:List Nat}
theorem wO (h:0<n):AV.vec r.length (r.map j9)::List.drop 1 (l9 (List.replicate n Z))=l9 ((List.replicate n Z).set 0 r):=overT0 (by rw[List.length_replicate];exact h)
variable {h:c7}{u:Un}{mx pc:Nat}
theorem LQ (hu:WU u)(wc:WC u c)(hmx:mx<u.mutexes.length)(hi:i<c.insts.length)(hp:pc<r8 u c i):CB 24 [.agg [.vec u.globals.length (g6 u.globals),.vec u.mutexes.length (c9 u.mutexes),.vec u.procs.length (g7 u.procs),.int .i64 u.main],.agg [.int .i64 (itI c i).proc,.vec (itI c i).j4.length (g6 (itI c i).j4)],.int .i64 ((pc:Nat):Int),.int .i64 ((mx:Nat):Int)] h (bZ (dhN (kM u mx) (chI (itI c i) (dW u c i pc) mx))):=
  (c_rel hu (bK wc hi) hp hmx).mono fun y k hq=>⟨hq.1.trans (BH _ _),hq.2⟩
theorem c_idN (k:Nat)(hk:k≤8):CB 67 [.int .i64 ((k:Nat):Int)] h (bZ (dhN k 0)):=
  (c_id k hk).mono fun y k hq=>⟨hq.1.trans (BH _ _),hq.2⟩
def xF (n i:Nat)(Z:List Nat):List AV:=l9 (List.replicate i Z)++List.replicate (n-i) AV.nils
theorem lH (h:i≤n):(xF n i Z).length=n:=by simp[xF,u5];omega
theorem LR:xF n 0 Z=List.replicate n AV.nils:=by simp[xF,l9]
theorem qF:xF n n Z=l9 (List.replicate n Z):=by simp[xF]
theorem LS:List.take i (xF n i Z)=l9 (List.replicate i Z):=by unfold xF;rw[List.take_append_of_le_length (by simp[u5]),List.take_of_length_le (by simp[u5])]
theorem LU:List.drop (i+1) (xF n i Z)=List.replicate (n-(i+1)) AV.nils:=by unfold xF;rw[List.drop_append,List.drop_of_length_le (by simp[u5]),u5,List.length_replicate,List.nil_append,List.drop_replicate];congr 1;omega
theorem V0 {x:AV}:List.take i (xF n i Z)++x::List.drop (i+1) (xF n i Z)=l9 (List.replicate i Z)++x::List.replicate (n-(i+1)) AV.nils:=by rw[LS,LU]
theorem LV:l9 (List.replicate i Z)++bZ Z::List.replicate (n-(i+1)) AV.nils=xF n (i+1) Z:=by unfold xF;rw[List.replicate_succ',l9,l9,List.map_append,List.append_assoc];rfl
theorem EI:l9 (List.replicate i (List.replicate (k+1) 0))++AV.vec (k+1) ((List.replicate (k+1) 0).map j9)::List.replicate (n-(i+1)) AV.nils=xF n (i+1) (List.replicate (k+1) 0):=by rw[←LV];simp[bZ]
theorem wP (N:Nat):∀x∈xF n i Z,Refs N x:=fun x hx=>by
  rcases List.mem_append.1 hx with hx | hx
  · exact (TR _).refs _ x hx
  · rw[List.eq_of_mem_replicate hx];exact .nils
theorem c8.EJ {c:Code}{sl:List AV}{H:c7}{Q:Exit→St→Prop}{β γ len e e':Nat}{A R:List AV}{zs:List Nat}(hβ:H[β]?=some ⟨0,false,e,1,A++.own γ 0 0 len::R,0⟩)(hγ:H[γ]?=some ⟨0,false,e',1,zs.map j9,0⟩)(hz:zs.length=len)(hne:β≠γ)
    (r:c8 Tryz.prog cfg c ⟨sl,(H.set γ ⟨0,false,e',1,zs.map j9,len⟩).set β ⟨0,false,e,1,A++.vec len (zs.map j9)::R,0⟩⟩ Q):c8 Tryz.prog cfg c ⟨sl,H⟩ Q:=by
  subst hz;refine c8.H6 (γ:=γ) (β:=β) (k:=A.length) (off:=0) (len:=zs.length) (cs:=zs.map j9) hγ rfl (by simp) ?_ hβ hne (by simp) ?_
  · show r6 oY (List.take (zs.length*1) (List.drop 0 (zs.map j9)))=_
    rw[List.drop_zero,Nat.mul_one,List.take_of_length_le (by simp)];exact (O8 zs).VK
  · have e1:dH ⟨0,false,e',1,zs.map j9,0⟩ (0+zs.length*1)=⟨0,false,e',1,zs.map j9,zs.length⟩:=by simp only[dH,Nat.zero_add,Nat.mul_one,Nat.zero_max]
    have e2:(A++AV.own γ 0 0 zs.length::R).set A.length (.vec zs.length (zs.map j9))=A++.vec zs.length (zs.map j9)::R:=by simp
    show c8 Tryz.prog cfg c ⟨sl,(H.set γ (dH ⟨0,false,e',1,zs.map j9,0⟩ (0+zs.length*1))).set β ⟨0,false,e,1,(A++AV.own γ 0 0 zs.length::R).set A.length (.vec zs.length (zs.map j9)),0⟩⟩ Q;rw[e1,e2];exact r
def sG (W:List Nat)(l q:Nat):List Nat:=if l+1≤W.length then W.set l q else W.take l++[q]
def xG (W:List Nat)(g l:Nat):Nat:=if l+1≤W.length then g else g+1
variable {W:List Nat}{q:Nat}
theorem yG {l:Nat}(h:l≤W.length):(sG W l q).take (l+1)=W.take l++[q]:=by
  unfold sG;split
  · rename_i h1
    rw[List.take_add_one,List.take_set,List.set_eq_of_length_le t55,List.getElem?_set_self (by omega)];rfl
  · rw[List.take_of_length_le t55]
theorem L9 {l:Nat}(h:l≤W.length):l+1≤(sG W l q).length:=by
  unfold sG;split
  · rw[List.length_set];assumption
  · rw[List.length_append,List.length_take,List.length_singleton];omega
theorem mN (h:k+1≤W.length):W.take (k+1)=W.take k++[W.getD k 0]:=by rw[List.take_add_one,List.getElem?_eq_getElem (by omega)];simp[List.getD,show k<W.length from by omega]
variable {g:Nat}
theorem TW {l:c7}{b0 b1:Blk}(hn:n≤W.length)(hl:n<1000000000):j6 cfg 3 (h++(b0::b1::⟨g,false,3,1,W.map j9,0⟩::⟨0,false,3,1,[.int .i64 ((q:Nat):Int)],0⟩::l)) (.own (h.length+2) g 0 n) (.own (h.length+3) 0 0 1)=some (.own (h.length+2) (xG W g n) 0 (n+1),h++(b0::b1::⟨xG W g n,false,3,1,(sG W n q).map j9,0⟩::⟨0,false,3,1,[.int .i64 ((q:Nat):Int)],0⟩::l)):=by
  have e1:cfg.sz 3=1:=rfl;have e2:(cfg.ti 3).bytes=8:=rfl;have h1:n+1≤maxLen:=by
    have:(1000000001:Nat)≤maxLen:=by decide
    omega
  have h2:(n+1)*8≤140737488355328:=by omega
  by_cases hc:n+1≤W.length
  · have e3:List.take n (W.map j9)++AV.int .i64 ((q:Nat):Int)::List.drop (n+1) (W.map j9)=(W.set n q).map j9:=vT (by omega)
    simp[j6,rd,lenOf,e1,e2,h1,h2,hc,hn,over,q9,n4,sG,xG];rw[e3];simp
  · have h3:List.take n (W.map j9)=W.map j9:=List.take_of_length_le t55
    have h4:List.take n W=W:=List.take_of_length_le (by omega);simp[j6,rd,lenOf,e1,e2,h1,h2,hc,hn,q9,n4,sG,xG,h4,j9];exact h3
attribute [local go_sem] rd bZ w6 aN u4 p8 l8 dK u5 Int.natCast_nonneg Int.natCast_inj nD dE nE jC iD jD lO oK C5 wN iQ wO V0 lH pZ rV oL List.length_set List.length_replicate Int.toNat_natCast_add_one kV wrap64 L7 List.length_map
variable {S:List (List Nat)}
theorem c_stepA (hu:WU u)(wc:WC u c)(hmx:mx<u.mutexes.length)(hS:Tb (kM u mx) c.insts.length S)(hi:i<c.insts.length)(hp:pc<r8 u c i)(l:c7):CB 110 [.int .i64 ((pc:Nat):Int),.ptr h.length 0 0,.ptr (h.length+5) 0 0,.ptr (h.length+3) 0 0,.ptr (h.length+1) 0 0,.ptr (h.length+4) 0 0,.ptr (h.length+2) 0 0] (h++(⟨0,false,30,4,[.vec u.globals.length (g6 u.globals),.vec u.mutexes.length (c9 u.mutexes),.vec u.procs.length (g7 u.procs),.int .i64 u.main],0⟩::⟨0,false,34,3,[.vec c.insts.length (g9 c.insts),.vec c.calls.length (j8 c.calls),.vec c.roots.length (g6 c.roots)],0⟩::⟨0,false,3,1,[.int .i64 ((mx:Nat):Int)],0⟩::⟨0,false,32,1,[.vec c.insts.length (l9 S)],0⟩::⟨0,false,3,1,[.int .i64 ((i:Nat):Int)],0⟩::⟨0,false,46,2,[.int .i64 (itI c i).proc,.vec (itI c i).j4.length (g6 (itI c i).j4)],0⟩::l)) (bZ (stS u c mx S i pc)):=by
  refine .bz Tryz.f110 37 ?_;have w:=bK wc hi;have w1:=w.lo;have w2:=w.hi;have hsz:(c6 u (itI c i)).length≤1664:=n6 hu w;have hcl:=wc.cl;have hcll:(c.calls.getD i []).length=(c6 u (itI c i)).length:=wc.cll i hi;have hp2:pc<(c6 u (itI c i)).length:=hp;have hSl:=hS.1;have hwl:=wc.len;have hcall:(dW u c i pc).op=2→0≤(c.calls.getD i []).getD pc 0∧(c.calls.getD i []).getD pc 0<c.insts.length:=fun ho=>by have:=(wc.call i hi pc hp).1 (.inl ho);exact ⟨this.1,this.2.1⟩
  have hop:dW u c i pc=(c6 u (itI c i)).getD pc g0:=rfl;rw[hop]at hcall;refine c19z ?_;refine c129z ?_;refine u2z ?_ ?_
  ·intro e1 qe1;refine .c5 [0,3,4,5] ?_;obtain ⟨hc1,hc2⟩:=hcall (by omega);refine .ss u9 (mkP 12 [0,0,2,0,14,30,0,126,254,511,1023,2047] []) ?_;refine c50z ?_;exact .ret (.ex (hq:=t54))
  intro e1 qe1;refine .sk ?_;refine .c5 [0,1,2,6] ?_;refine c28z ?_;refine .ca rfl rfl (LQ hu wc hmx hi hp) ?_;refine .n ?_;exact .ret (.ex (hq:=t54))
variable {A R:c7}
theorem LW {X:c7}{B:Blk}:(A++(B::(R++X)))[A.length+1+R.length+k]?=X[k]?:=by rw[List.getElem?_append_right (by omega),show A.length+1+R.length+k-A.length=(R.length+k)+1 from by omega,List.getElem?_cons_succ,List.getElem?_append_right (by omega)];congr 1;omega
theorem TX {X:c7}{B:Blk}:(A++(B::(R++X)))[A.length+1+R.length]?=X[0]?:=LW (k:=0)
section
attribute [local go_sem] LW TX
theorem TY (hu:WU u)(wc:WC u c)(hmx:mx<u.mutexes.length)(hS:Tb (kM u mx) c.insts.length S)(hi:i<c.insts.length)(hp:pc<r8 u c i)(l:c7):CB 110 [.int .i64 ((pc:Nat):Int),.ptr (A.length+1+R.length) 0 0,.ptr (A.length+1+R.length+5) 0 0,.ptr (A.length+1+R.length+3) 0 0,.ptr (A.length+1+R.length+1) 0 0,.ptr (A.length+1+R.length+4) 0 0,.ptr (A.length+1+R.length+2) 0 0] (A++(⟨g,false,22,1,l9 S,0⟩::(R++(⟨0,false,30,4,[.vec u.globals.length (g6 u.globals),.vec u.mutexes.length (c9 u.mutexes),.vec u.procs.length (g7 u.procs),.int .i64 u.main],0⟩::⟨0,false,34,3,[.vec c.insts.length (g9 c.insts),.vec c.calls.length (j8 c.calls),.vec c.roots.length (g6 c.roots)],0⟩::⟨0,false,3,1,[.int .i64 ((mx:Nat):Int)],0⟩::⟨0,false,32,1,[.own A.length g 0 c.insts.length],0⟩::⟨0,false,3,1,[.int .i64 ((i:Nat):Int)],0⟩::⟨0,false,46,2,[.int .i64 (itI c i).proc,.vec (itI c i).j4.length (g6 (itI c i).j4)],0⟩::l)))) (bZ (stS u c mx S i pc)):=by
  refine .bz Tryz.f110 37 ?_;have w:=bK wc hi;have w1:=w.lo;have w2:=w.hi;have hsz:(c6 u (itI c i)).length≤1664:=n6 hu w;have hcl:=wc.cl;have hcll:(c.calls.getD i []).length=(c6 u (itI c i)).length:=wc.cll i hi;have hp2:pc<(c6 u (itI c i)).length:=hp;have hSl:=hS.1;have hwl:=wc.len;have hcall:(dW u c i pc).op=2→0≤(c.calls.getD i []).getD pc 0∧(c.calls.getD i []).getD pc 0<c.insts.length:=fun ho=>by have:=(wc.call i hi pc hp).1 (.inl ho);exact ⟨this.1,this.2.1⟩
  have hop:dW u c i pc=(c6 u (itI c i)).getD pc g0:=rfl;rw[hop]at hcall;refine c19z ?_;refine c129z ?_;refine u2z ?_ ?_
  ·intro e1 qe1;refine .c5 [0,3,4,5] ?_;obtain ⟨hc1,hc2⟩:=hcall (by omega);refine .ss u9 (mkP 12 [0,0,2,0,14,30,0,126,254,511,1023,2047] []) ?_;refine c50z ?_;exact .ret (.ex (hq:=t54))
  intro e1 qe1;refine .sk ?_;refine .c5 [0,1,2,6] ?_;refine c28z ?_;refine .ca rfl rfl (LQ hu wc hmx hi hp) ?_;refine .n ?_;exact .ret (.ex (hq:=t54))
end
def mO (u:Un)(c:Clo)(mx:Nat)(S:List (List Nat))(i:Nat)(sv:AV)(h:c7):Prop:=∀pc,pc<r8 u c i→∀l,CallA Tryz.prog cfg 110 [.int .i64 ((pc:Nat):Int),.ptr h.length 0 0,.ptr (h.length+5) 0 0,.ptr (h.length+3) 0 0,.ptr (h.length+1) 0 0,.ptr (h.length+4) 0 0,.ptr (h.length+2) 0 0] (h++(⟨0,false,30,4,[.vec u.globals.length (g6 u.globals),.vec u.mutexes.length (c9 u.mutexes),.vec u.procs.length (g7 u.procs),.int .i64 u.main],0⟩::⟨0,false,34,3,[.vec c.insts.length (g9 c.insts),.vec c.calls.length (j8 c.calls),.vec c.roots.length (g6 c.roots)],0⟩::⟨0,false,3,1,[.int .i64 ((mx:Nat):Int)],0⟩::⟨0,false,32,1,[sv],0⟩::⟨0,false,3,1,[.int .i64 ((i:Nat):Int)],0⟩::⟨0,false,46,2,[.int .i64 (itI c i).proc,.vec (itI c i).j4.length (g6 (itI c i).j4)],0⟩::l)) (fun y' h'=>y'=bZ (stS u c mx S i pc)∧h'=h++(⟨0,false,30,4,[.vec u.globals.length (g6 u.globals),.vec u.mutexes.length (c9 u.mutexes),.vec u.procs.length (g7 u.procs),.int .i64 u.main],0⟩::⟨0,false,34,3,[.vec c.insts.length (g9 c.insts),.vec c.calls.length (j8 c.calls),.vec c.roots.length (g6 c.roots)],0⟩::⟨0,false,3,1,[.int .i64 ((mx:Nat):Int)],0⟩::⟨0,false,32,1,[sv],0⟩::⟨0,false,3,1,[.int .i64 ((i:Nat):Int)],0⟩::⟨0,false,46,2,[.int .i64 (itI c i).proc,.vec (itI c i).j4.length (g6 (itI c i).j4)],0⟩::l))
theorem EK (hu:WU u)(wc:WC u c)(hmx:mx<u.mutexes.length)(hS:Tb (kM u mx) c.insts.length S)(hi:i<c.insts.length)(h:c7):mO u c mx S i (.vec c.insts.length (l9 S)) h:=fun pc hp l=>c_stepA hu wc hmx hS hi hp l
variable {β:Nat}
theorem EL (hu:WU u)(wc:WC u c)(hmx:mx<u.mutexes.length)(hS:Tb (kM u mx) c.insts.length S)(hi:i<c.insts.length)(hb:h[β]?=some ⟨g,false,22,1,l9 S,0⟩):mO u c mx S i (.own β g 0 c.insts.length) h:=fun pc hp l=>by
  obtain ⟨hlt,hget⟩:=List.getElem?_eq_some_iff.1 hb;obtain ⟨A,R,rfl,rfl⟩:∃A R,h=A++⟨g,false,22,1,l9 S,0⟩::R∧A.length=β:=⟨h.take β,h.drop (β+1),by rw[←hget,←List.drop_eq_getElem_cons hlt,List.take_append_drop],by rw[List.length_take];omega⟩;have e:(A++⟨g,false,22,1,l9 S,0⟩::R).length=A.length+1+R.length:=by rw[List.length_append,List.length_cons];omega
  rw[e,List.append_assoc,List.cons_append];exact TY hu wc hmx hS hi hp l
theorem EM (hu:WU u)(wc:WC u c)(hmx:mx<u.mutexes.length)(hS:Tb (kM u mx) c.insts.length S)(hi:i<c.insts.length)(hb:h[β]?=some ⟨g,false,22,1,l9 S,0⟩)(l:c7):mO u c mx S i (.own β g 0 c.insts.length) (h++l):=
  EL hu wc hmx hS hi (by rw[List.getElem?_append_left (List.getElem?_eq_some_iff.1 hb).1];exact hb)
theorem mO.shift {sv:AV}(hs:∀l0,mO u c mx S i sv (h++l0))(hp:pc<r8 u c i){b:Blk}(l:c7):CB 110 [.int .i64 ((pc:Nat):Int),.ptr h.length 0 0,.ptr (h.length+5) 0 0,.ptr (h.length+3) 0 0,.ptr (h.length+1) 0 0,.ptr (h.length+4) 0 0,.ptr (h.length+2) 0 0] ((h++[⟨0,false,30,4,[.vec u.globals.length (g6 u.globals),.vec u.mutexes.length (c9 u.mutexes),.vec u.procs.length (g7 u.procs),.int .i64 u.main],0⟩,⟨0,false,34,3,[.vec c.insts.length (g9 c.insts),.vec c.calls.length (j8 c.calls),.vec c.roots.length (g6 c.roots)],0⟩,⟨0,false,3,1,[.int .i64 ((mx:Nat):Int)],0⟩,⟨0,false,32,1,[sv],0⟩,⟨0,false,3,1,[.int .i64 ((i:Nat):Int)],0⟩,⟨0,false,46,2,[.int .i64 (itI c i).proc,.vec (itI c i).j4.length (g6 (itI c i).j4)],0⟩,b])++l) (bZ (stS u c mx S i pc)):=by have:=hs [] pc hp (b::l);simpa only[List.append_nil,List.append_assoc,List.cons_append,List.nil_append] using this
theorem c_nextV (hu:WU u){it:y0}(w:WIt u it)(hpc:pc<(c6 u it).length):CB 146 [.agg [.vec u.globals.length (g6 u.globals),.vec u.mutexes.length (c9 u.mutexes),.vec u.procs.length (g7 u.procs),.int .i64 u.main],.agg [.int .i64 it.proc,.vec it.j4.length (g6 it.j4)],.int .i64 ((pc:Nat):Int)] h (.vec (n9 ((c6 u it).getD pc g0) pc).length (g6 (n9 ((c6 u it).getD pc g0) pc))):=c_nextF hu w hpc
section
attribute [local go_sem] TW
theorem c_run (hu:WU u){it:y0}(w:WIt u it)(hmx:mx<u.mutexes.length)(hk:nS (u.mutexes.getD mx w5)=k){sp:Nat→List Nat}{caps:List AV}(p:Pro k (c6 u it).length (fun pc=>n9 ((c6 u it).getD pc g0) pc) sp)(hst:∀pc,pc<(c6 u it).length→∀l,CB 110 (.int .i64 ((pc:Nat):Int)::caps) (h++l) (bZ (sp pc))):CB 111 [.agg [.vec u.globals.length (g6 u.globals),.vec u.mutexes.length (c9 u.mutexes),.vec u.procs.length (g7 u.procs),.int .i64 u.main,.int .i64 it.proc,.vec it.j4.length (g6 it.j4),.int .i64 ((mx:Nat):Int),.fn (.func 110) [] caps]] h (.vec (c6 u it).length (l9 (dS k (c6 u it).length (fun pc=>n9 ((c6 u it).getD pc g0) pc) sp))):=by
  refine .bz Tryz.f111 105 ?_;have w1:=w.lo;have w2:=w.hi;have hsz:(c6 u it).length≤1664:=n6 hu w;have hk8:k≤8:=by rw[←hk];exact C1
  have hps:=p.pos;have hml:=hu.ml;have hcd:=(dC hu w).1;refine .z ?_;refine .s ?_;refine .e 7 ?_;refine .ca rfl rfl (Cr (u.mutexes.getD mx w5)) ?_;refine .n ?_;refine .c5 [1,3] ?_;refine c129z ?_;refine .c5 [1,3,4] ?_;refine c17z ?_;refine .u0 (fun m st=>∃(i:Nat),(m=(c6 u it).length-i∧(i≤(c6 u it).length))∧st=⟨mkS 105 [(1,AV.ptr h.length 0 0),(3,AV.int .i64 ((k:Nat):Int)),(5,AV.own (h.length+1) 0 0 (c6 u it).length),(33,AV.int .i64 (((c6 u it).length:Nat):Int)),(34,AV.int .i64 ((i:Nat):Int))],h++[⟨0,false,172,8,[.vec u.globals.length (g6 u.globals),.vec u.mutexes.length (c9 u.mutexes),.vec u.procs.length (g7 u.procs),.int .i64 u.main,.int .i64 it.proc,.vec it.j4.length (g6 it.j4),.int .i64 ((mx:Nat):Int),.fn (.func 110) [] caps],0⟩,⟨0,false,22,1,xF (c6 u it).length i (List.replicate (k+1) 0),0⟩]⟩) (.v ⟨0,⟨rfl,by omega⟩,rfl⟩) ?_ (he:=t201);rintro m sl h' ⟨i,⟨hm,hi⟩,hst⟩;obtain ⟨rfl,rfl⟩:=St.mk.inj hst;clear hst;refine c19z ?_;refine u2z ?_ ?_
  ·intro e1 qe1;refine c72z ?_;refine c1z ?_;refine .c5 [1,3,5,33,34] ?_;refine c8.EJ (β:=h.length+1) (γ:=h.length+2) (A:=l9 (List.replicate i (List.replicate (k+1) 0))) (R:=List.replicate ((c6 u it).length-(i+1)) AV.nils) (zs:=(List.replicate (k+1) 0)) (len:=k+1) t25 t25 (by simp) (by omega) ?_;refine c13z ?_;exact ⟨_,by omega,.v ⟨(i+1),⟨rfl,by omega⟩,rfl⟩ (he:=t77) (hk:=by exact (v5.refl _).app rfl ⟨.inl rfl,.inr (wP _),trivial⟩)⟩
  intro e1 qe1;refine .exit ?_;obtain rfl:i=(c6 u it).length:=by omega
  simp only[qF];change c8 ..;refine c31z ?_;refine .ca rfl rfl (c_idN _ hk8) ?_;refine .n ?_;refine .c5 [1,5] ?_;refine .z ?_;refine .sb ?_;refine .u0 (fun m st=>∃(T:List (List Nat)) (W:List Nat) (l:Nat) (g:Nat),(m=XK (c6 u it).length T l∧(NT k (c6 u it).length (fun pc=>n9 ((c6 u it).getD pc g0) pc) sp T (W.take l)∧l≤W.length∧XK (c6 u it).length T l≤20000000))∧st=⟨mkS 105 [(1,AV.ptr h.length 0 0),(5,AV.own (h.length+1) 0 0 (c6 u it).length),(7,AV.own (h.length+2) g 0 l)],h++[⟨0,false,172,8,[.vec u.globals.length (g6 u.globals),.vec u.mutexes.length (c9 u.mutexes),.vec u.procs.length (g7 u.procs),.int .i64 u.main,.int .i64 it.proc,.vec it.j4.length (g6 it.j4),.int .i64 ((mx:Nat):Int),.fn (.func 110) [] caps],0⟩,⟨0,false,22,1,l9 T,0⟩,⟨g,false,3,1,W.map j9,0⟩]⟩) (.v ⟨((List.replicate (c6 u it).length (List.replicate (k+1) 0)).set 0 (dhN k 0)),[0],1,0,⟨rfl,⟨NT.start p,by simp,by unfold XK;omega⟩⟩,rfl⟩) ?_;rintro m sl h' ⟨T,W,l,g,⟨hm,⟨hI,hl,hlb⟩⟩,hst⟩;obtain ⟨rfl,rfl⟩:=St.mk.inj hst;clear hst;have hTl:T.length=(c6 u it).length:=hI.g.tb.1;have hlm:l≤XK (c6 u it).length T l:=by unfold XK;omega
  refine c0z ?_;refine u2z ?_ ?_
  ·intro e2 qe2;refine c132z ?_;obtain ⟨k1,rfl⟩:∃k1,l=k1+1:=⟨l-1,by omega⟩;refine .z ?_;refine .c5 [1,5,7,8] ?_;refine .z ?_;rw[mN (by omega)]at hI;generalize W.getD k1 0=pc at hI ⊢;obtain ⟨hpc,hJ0⟩:=hI.pop;have hst1:=p.st pc hpc;have hTp:=hI.g.tb.get hpc;obtain ⟨hR,hle⟩:=hI.g.aft p hpc;refine .ss u9 (mkP 10 [0,0,3,7,0,16,0,112,255,511] []) ?_;refine .k 7 [] ?_;refine iR.cq rfl (rfl) hb110 (hst pc hpc _) ?_;refine .ca rfl rfl (c_comp _ _ (hst1.lt hk8) t136 (hTp.lt hk8) t181) ?_;refine .n [] ?_;refine .c5 [1,5,7,8,9] ?_;have hnl:=kD (x:=(c6 u it).getD pc g0) (pc:=pc);refine c22z ?_;refine .ca rfl rfl (c_nextV hu w hpc) ?_;refine c135z ?_;refine .u0 (fun m st=>∃(T1:List (List Nat)) (W1:List Nat) (l1:Nat) (g1:Nat) (j:Nat),(m=(n9 ((c6 u it).getD pc g0) pc).length-j∧(LO k (c6 u it).length (fun pc=>n9 ((c6 u it).getD pc g0) pc) sp pc (T.getD pc []) (tot T) (W.take k1).length T1 (W1.take l1) j∧l1≤W1.length∧j≤(n9 ((c6 u it).getD pc g0) pc).length∧l1≤k1+j))∧st=⟨mkS 105 [(1,AV.ptr h.length 0 0),(5,AV.own (h.length+1) 0 0 (c6 u it).length),(7,AV.own (h.length+2) g1 0 l1),(9,bZ (o5 (T.getD pc []) (sp pc))),(77,AV.vec (n9 ((c6 u it).getD pc g0) pc).length (g6 (n9 ((c6 u it).getD pc g0) pc))),(78,AV.int .i64 (((n9 ((c6 u it).getD pc g0) pc).length:Nat):Int)),(79,AV.int .i64 ((j:Nat):Int))],h++[⟨0,false,172,8,[.vec u.globals.length (g6 u.globals),.vec u.mutexes.length (c9 u.mutexes),.vec u.procs.length (g7 u.procs),.int .i64 u.main,.int .i64 it.proc,.vec it.j4.length (g6 it.j4),.int .i64 ((mx:Nat):Int),.fn (.func 110) [] caps],0⟩,⟨0,false,22,1,l9 T1,0⟩,⟨g1,false,3,1,W1.map j9,0⟩]⟩) (.v ⟨T,W,k1,g,0,⟨rfl,⟨hJ0,by omega,by omega,by omega⟩⟩,rfl⟩) ?_;rintro m sl h' ⟨T1,W1,l1,g1,j,⟨hm,⟨hJ,hl1,hj,hlj⟩⟩,hst⟩;obtain ⟨rfl,rfl⟩:=St.mk.inj hst;clear hst;have hT1:T1.length=(c6 u it).length:=hJ.g.tb.1;refine c19z ?_;refine u2z ?_ ?_
   ·intro e3 qe3;refine c72z ?_;obtain ⟨hq1,hq2⟩:=p.nx pc hpc _ (j7 (d:=0) (show j<(n9 ((c6 u it).getD pc g0) pc).length from by omega));obtain ⟨q,hqe⟩:∃q:Nat,(n9 ((c6 u it).getD pc g0) pc).getD j 0=(q:Int):=⟨((n9 ((c6 u it).getD pc g0) pc).getD j 0).toNat,by omega⟩;rw[hqe]at hq1 hq2 ⊢;have hq3:q<(c6 u it).length:=by omega
    have hRq:=hJ.g.tb.get hq3;have hqt:((n9 ((c6 u it).getD pc g0) pc).getD j 0).toNat=q:=by rw[hqe];rfl
    refine c22z ?_;refine .ca rfl rfl (LN _ _ (by have:=hR.1;omega) t118) ?_;refine .n ?_;refine u2z ?_ ?_
    ·intro e4 qe4;refine .c5 [1,5,7,9,11,77,78,79] ?_;refine .s ?_;refine .e 7 ?_;refine .ca rfl rfl (U9 _ _ (hR.lt hk8) (hRq.lt hk8) t182 t118) ?_;refine .n ?_;refine .c5 [1,5,7,9,11,77,78,79] ?_;refine c47z ?_;exact ⟨_,by omega,.v ⟨(T1.set q (cN (T1.getD q []) (o5 (T.getD pc []) (sp pc)))),(sG W1 l1 q),(l1+1),(xG W1 g1 l1),(j+1),⟨rfl,⟨by rw[yG hl1];exact hJ.grow p hpc hR hle (by omega) hqt (fun hs=>absurd ((LA hk8 hR hRq).2 hs) (by assumption)),L9 hl1,by omega,by omega⟩⟩,rfl⟩ (he:=t11) (hk:=t103)⟩
    intro e4 qe4;refine c4z ?_;refine .c5 [1,5,7,9,77,78,79] ?_;refine .rz ?_;exact ⟨_,by omega,.v ⟨T1,W1,l1,g1,(j+1),⟨rfl,⟨hJ.skip ((LA hk8 hR (by rw[hqt];exact hRq)).1 (by rw[hqt];assumption)),hl1,by omega,by omega⟩⟩,rfl⟩ (he:=t11) (hk:=t103)⟩
   intro e3 qe3;refine .exit ?_;obtain rfl:j=(n9 ((c6 u it).getD pc g0) pc).length:=by omega
   have hmr:=mRun_lt hk8 hJ hI.g;rw[List.length_take,List.length_take,Nat.min_eq_left hl1,Nat.min_eq_left (show k1≤W.length from by omega)]at hmr;exact ⟨_,by omega,.v ⟨T1,W1,l1,g1,⟨rfl,⟨hJ.fin hpc,hl1,by omega⟩⟩,rfl⟩ (he:=t11) (hk:=t103)⟩
  intro e2 qe2;refine .exit ?_;obtain rfl:l=0:=by omega
  have hT:T=(dS k (c6 u it).length (fun pc=>n9 ((c6 u it).getD pc g0) pc) sp):=NT.done p (by simpa using hI);refine c191z ?_;exact ⟨_,_,rfl,U7 t25 (by omega) hTl,by (rw[hT])⟩
end
section
attribute [local go_sem] jF
theorem M0 (hu:WU u)(wc:WC u c)(hmx:mx<u.mutexes.length)(hS:Tb (kM u mx) c.insts.length S)(hi:i<c.insts.length)(hsv:∀l0,mO u c mx S i (.vec c.insts.length (l9 S)) (h++l0)):CB 70 [.agg [.vec u.globals.length (g6 u.globals),.vec u.mutexes.length (c9 u.mutexes),.vec u.procs.length (g7 u.procs),.int .i64 u.main],.agg [.vec c.insts.length (g9 c.insts),.vec c.calls.length (j8 c.calls),.vec c.roots.length (g6 c.roots)],.int .i64 ((mx:Nat):Int),.vec c.insts.length (l9 S),.int .i64 ((i:Nat):Int)] h (.vec (r8 u c i) (l9 (kG u c mx S i))):=by refine .bz Tryz.f70 25 ?_;have w:=bK wc hi;have w1:=w.lo;have w2:=w.hi;have hwl:=wc.len;refine c65z ?_;refine .c5 [5,6,7,8,9,11] ?_;refine .z ?_;refine .c5 [12] ?_;refine c63z ?_;refine .ca rfl rfl (c_run hu (bK wc hi) hmx rfl (LC hu wc hS hi) (fun pc hp l=>mO.shift hsv hp l)) ?_;refine .n ?_;exact .ret (.ex (hq:=by rfl))
end
section
attribute [local go_sem] jF
theorem LY (hu:WU u)(wc:WC u c)(hmx:mx<u.mutexes.length)(hS:Tb (kM u mx) c.insts.length S)(hi:i<c.insts.length)(hsv:∀l0,mO u c mx S i (.own β g 0 c.insts.length) (h++l0)):CB 70 [.agg [.vec u.globals.length (g6 u.globals),.vec u.mutexes.length (c9 u.mutexes),.vec u.procs.length (g7 u.procs),.int .i64 u.main],.agg [.vec c.insts.length (g9 c.insts),.vec c.calls.length (j8 c.calls),.vec c.roots.length (g6 c.roots)],.int .i64 ((mx:Nat):Int),.own β g 0 c.insts.length,.int .i64 ((i:Nat):Int)] h (.vec (r8 u c i) (l9 (kG u c mx S i))):=by refine .bz Tryz.f70 25 ?_;have w:=bK wc hi;have w1:=w.lo;have w2:=w.hi;have hwl:=wc.len;refine c65z ?_;refine .c5 [5,6,7,8,9,11] ?_;refine .z ?_;refine .c5 [12] ?_;refine c63z ?_;refine .ca rfl rfl (c_run hu (bK wc hi) hmx rfl (LC hu wc hS hi) (fun pc hp l=>mO.shift hsv hp l)) ?_;refine .n ?_;exact .ret (.ex (hq:=by rfl))
end
end Go.Proofs.YtonbocmibeikmaaGreat
end
section
namespace Go.Proofs.YtonbocmibeikmaaGreat
open Go.Ab Go.Un
variable {c:Clo}{i:Nat}
theorem kH (h:i<c.insts.length):List.take 1 (List.drop (i*2) (g9 c.insts))=[.int .i64 (itI c i).proc]:=nD h
variable {h:c7}
theorem M1 (u:Un)(mx:Nat):CB 30 [.agg [.str (u.mutexes.getD mx w5).name,.bool (u.mutexes.getD mx w5).re,.int .i64 (u.mutexes.getD mx w5).size]] h (.int .i64 ((kM u mx:Nat):Int)):=Cr _
variable {n:Nat}
theorem frz_old {β g len:Nat}{H:c7}(h:β<n):iL n H 6 (.own β g 0 len)=some (.own β g 0 len):=by rw[eF,if_pos h]
theorem v5.new {l':c7}(hk:∀b∈l',aA b.cells):v5 h (h++l'):=fun β b hb=>by
  by_cases hβ:β<h.length
  · left;rwa[List.getElem?_append_left hβ]at hb
  · right;rw[List.getElem?_append_right (by omega)]at hb;exact fun x hx=>(hk b (List.mem_of_getElem? hb) x hx).rf _
theorem plnU (u:Un):aA [.vec u.globals.length (g6 u.globals),.vec u.mutexes.length (c9 u.mutexes),.vec u.procs.length (g7 u.procs),.int .i64 u.main]:=aA.cons .vec (aA.cons .vec (aA.cons .vec (aA.cons .int .nil)))
theorem plnC (c:Clo):aA [.vec c.insts.length (g9 c.insts),.vec c.calls.length (j8 c.calls),.vec c.roots.length (g6 c.roots)]:=aA.cons .vec (aA.cons .vec (aA.cons .vec .nil))
theorem c8.TZ {c:Code}{H:c7}{Q:Exit→St→Prop}{γ t len n e:Nat}{l:List (Nat×AV)}{zs:List Nat}(hγ:H[γ]?=some ⟨0,false,e,1,zs.map j9,0⟩)(hz:zs.length=len)(hp:0<len)(hx:(mkS n l)[t]?=some (.own γ 0 0 len))
    (r:c8 Tryz.prog cfg c ⟨(mkS n l).set t (.vec len (zs.map j9)),H.set γ ⟨0,false,e,1,zs.map j9,len⟩⟩ Q):c8 Tryz.prog cfg c ⟨mkS n l,H⟩ Q:=by
  subst hz;have hne:zs.map j9≠[]:=fun h0=>by have:=congrArg List.length h0;rw[List.length_map]at this;replace this:=s6z this;omega
  refine c8.uR (t:=t) (γ:=γ) (len:=zs.length) (e:=e) (K:=1) (g:=0) (zs:=zs.map j9) (by rw[hγ];exact congrArg some (cP hne).symm) (by simp) (by omega) (O8 zs) hx ?_;obtain ⟨z,zs',hzz⟩:=List.exists_cons_of_ne_nil hne;have e1:fM e 1 0 (zs.map j9) (zs.length*1)=⟨0,false,e,1,zs.map j9,zs.length⟩:=by rw[hzz,Nat.mul_one];rfl
  rw[e1];exact r
theorem c8.seenT {c:Code}{H:c7}{Q:Exit→St→Prop}{γ t len n g e:Nat}{l:List (Nat×AV)}{T:List (List Nat)}(hγ:H[γ]?=some ⟨g,false,e,1,l9 T,0⟩)(hz:T.length=len)(hp:0<len)(hx:(mkS n l)[t]?=some (.own γ g 0 len))
    (r:c8 Tryz.prog cfg c ⟨(mkS n l).set t (.vec len (l9 T)),H.set γ ⟨g,false,e,1,l9 T,len⟩⟩ Q):c8 Tryz.prog cfg c ⟨mkS n l,H⟩ Q:=by
  subst hz;have hne:l9 T≠[]:=fun h0=>by have:=congrArg List.length h0;rw[u5]at this;replace this:=s6z this;omega
  refine c8.uR (t:=t) (γ:=γ) (len:=T.length) (e:=e) (K:=1) (g:=g) (zs:=l9 T) (by rw[hγ];exact congrArg some (cP hne).symm) (by simp[u5]) (by omega) (TR T) hx ?_;obtain ⟨z,zs',hzz⟩:=List.exists_cons_of_ne_nil hne;have e1:fM e 1 g (l9 T) (T.length*1)=⟨g,false,e,1,l9 T,T.length⟩:=by rw[hzz,Nat.mul_one];rfl
  rw[e1];exact r
attribute [local go_sem] rd bZ w6 aN u4 p8 l8 dK u5 Int.natCast_nonneg Int.natCast_inj dE nE jC iD jD lO oK C5 wN iQ wO V0 lH pZ rV oL List.length_set List.length_replicate Int.toNat_natCast_add_one kV wrap64 L7 List.length_map kH jF
theorem UA (a b:List Nat)(hl:a.length<1000000):CB 63 [bZ a,bZ b] h (.bool (decide (a=b))):=by
  refine .bz Tryz.f63 26 ?_;refine c89z ?_;refine u2z ?_ ?_
  ·intro e1 qe1;refine c105z ?_;exact ⟨[],_,(List.append_nil _).symm,t43,t82⟩
  intro e1 qe1;refine .sk ?_;refine c5z ?_;refine .cA (fun m st=>∃(i:Nat),(m=a.length-i∧((∀d,d<i→a.getD d 0=b.getD d 0)∧i≤a.length))∧st=⟨mkS 26 [(0,bZ a),(1,bZ b),(12,AV.int .i64 ((a.length:Nat):Int)),(13,AV.int .i64 ((i:Nat):Int))],h⟩) _ (.v ⟨0,⟨rfl,⟨t107,by omega⟩⟩,rfl⟩) ?_;rintro m sl h' ⟨i,⟨hm,⟨hI,hi⟩⟩,hst⟩;obtain ⟨rfl,rfl⟩:=St.mk.inj hst;refine c19z ?_;refine u2z ?_ ?_
  ·intro e2 qe2;refine c72z ?_;refine .ss u9 (mkP 9 [0,0,3,7,0,0,48,112,255] []) ?_;refine c50z ?_;refine u2z ?_ ?_
   ·intro e3 qe3;refine c105z ?_;exact ⟨[],_,(List.append_nil _).symm,t43,t82⟩
   intro e3 qe3;refine c4z ?_;refine .c5 [0,1,12,13] ?_;refine .rz ?_;exact ⟨_,by omega,.v ⟨(i+1),⟨rfl,⟨(fun d hd=>if e:d=i then by rw[e];omega else hI d (by omega)),by omega⟩⟩,rfl⟩⟩
  intro e2 qe2;refine c94z ?_;exact ⟨[],_,(List.append_nil _).symm,t43,t82⟩
variable {u:Un}{mx:Nat}
theorem c_exitV (hu:WU u)(wc:WC u c)(hmx:mx<u.mutexes.length){S:List (List Nat)}(hS:Tb (kM u mx) c.insts.length S)(hi:i<c.insts.length)(hsv:∀l0,mO u c mx S i (.vec c.insts.length (l9 S)) (h++l0)):CB 62 [.agg [.vec u.globals.length (g6 u.globals),.vec u.mutexes.length (c9 u.mutexes),.vec u.procs.length (g7 u.procs),.int .i64 u.main],.agg [.vec c.insts.length (g9 c.insts),.vec c.calls.length (j8 c.calls),.vec c.roots.length (g6 c.roots)],.int .i64 ((mx:Nat):Int),.vec c.insts.length (l9 S),.int .i64 ((i:Nat):Int)] h (bZ (exT u c mx S i)):=by
  refine .bz Tryz.f62 55 ?_;have w:=bK wc hi;have w1:=w.lo;have w2:=w.hi;have hsz:(c6 u (itI c i)).length≤1664:=n6 hu w;have hwl:=wc.len;have hk8:kM u mx≤8:=eV;have hk9:nS (u.mutexes.getD mx w5)≤8:=hk8;have hml:=hu.ml;have hT:=iP (u:=u) (c:=c) (m:=mx) S i;have hTl:(kG u c mx S i).length=r8 u c i:=hT.1;have hli:r8 u c i≤1664:=hsz;have hlc:r8 u c i=(c6 u (itI c i)).length:=rfl;refine .z ?_;refine c22z ?_;refine .ca rfl rfl (M1 u mx) ?_;refine c35z ?_;refine .c5 [2,3,4,5,6,11] ?_;refine c8.TZ (t:=11) (γ:=(h.length+2)) (len:=(kM u mx+1)) t25 (by simp) (by omega) (kO (by decide) rfl) ?_;rw[bT];simp only[n4,List.set_cons_succ,List.set_cons_zero];generalize (⟨0,false,3,1,(List.replicate (kM u mx+1) 0).map j9,kM u mx+1⟩:Blk)=Vb;refine c22z ?_;refine .ca rfl rfl (M0 hu wc hmx hS hi (fun l0=>by rw[List.append_assoc];exact hsv _)) ?_;refine c135z ?_;refine .cA (fun m st=>∃(j:Nat),(m=r8 u c i-j∧(j≤r8 u c i))∧st=⟨mkS 55 [(4,AV.int .i64 ((i:Nat):Int)),(5,AV.ptr h.length 0 0),(6,AV.ptr (h.length+1) 0 0),(11,bZ (U2 u c mx i (kG u c mx S i) j)),(27,AV.vec (r8 u c i) (l9 (kG u c mx S i))),(28,AV.int .i64 ((r8 u c i:Nat):Int)),(29,AV.int .i64 ((j:Nat):Int))],h++[⟨0,false,30,4,[.vec u.globals.length (g6 u.globals),.vec u.mutexes.length (c9 u.mutexes),.vec u.procs.length (g7 u.procs),.int .i64 u.main],0⟩,⟨0,false,34,3,[.vec c.insts.length (g9 c.insts),.vec c.calls.length (j8 c.calls),.vec c.roots.length (g6 c.roots)],0⟩,Vb]⟩) _ (.v ⟨0,⟨rfl,by omega⟩,rfl⟩ (hs:=t17)) ?_;rintro m sl h' ⟨j,⟨hm,hj⟩,hst⟩;obtain ⟨rfl,rfl⟩:=St.mk.inj hst;have hop:(dW u c i j).op=((c6 u (itI c i)).getD j g0).op:=rfl;refine c19z ?_;refine u2z ?_ ?_
  ·intro e1 qe1;refine c72z ?_;refine c250z ?_;refine u2z ?_ ?_
   ·intro e2 qe2;refine .c5 [4,5,6,11,13,27,28,29] ?_;have hTj:=hT.get (i:=j) (by omega);have hEj:=oI (u:=u) (c:=c) (m:=mx) i (kG u c mx S i) j;refine .r ?_;refine .e 2 ?_;refine .ca rfl rfl (U9 _ _ (hTj.lt hk8) (hEj.lt hk8) t204 t156) ?_;refine c25z ?_;refine .rz ?_;exact ⟨_,by omega,.v ⟨(j+1),⟨rfl,by omega⟩,rfl⟩ (hs:=t17)⟩
   intro e2 qe2;refine c4z ?_;refine .c5 [4,5,6,11,27,28,29] ?_;refine .rz ?_;exact ⟨_,by omega,.v ⟨(j+1),⟨rfl,by omega⟩,rfl⟩ (hs:=t17)⟩
  intro e1 qe1;refine .exit ?_;obtain rfl:j=r8 u c i:=by omega
  refine c216z ?_;exact .ret (.ex (hq:=by rfl))
theorem c_exitO (hu:WU u)(wc:WC u c)(hmx:mx<u.mutexes.length){S:List (List Nat)}(hS:Tb (kM u mx) c.insts.length S)(hi:i<c.insts.length){β g:Nat}(hsv:∀l0,mO u c mx S i (.own β g 0 c.insts.length) (h++l0)):CB 62 [.agg [.vec u.globals.length (g6 u.globals),.vec u.mutexes.length (c9 u.mutexes),.vec u.procs.length (g7 u.procs),.int .i64 u.main],.agg [.vec c.insts.length (g9 c.insts),.vec c.calls.length (j8 c.calls),.vec c.roots.length (g6 c.roots)],.int .i64 ((mx:Nat):Int),.own β g 0 c.insts.length,.int .i64 ((i:Nat):Int)] h (bZ (exT u c mx S i)):=by
  refine .bz Tryz.f62 55 ?_;have w:=bK wc hi;have w1:=w.lo;have w2:=w.hi;have hsz:(c6 u (itI c i)).length≤1664:=n6 hu w;have hwl:=wc.len;have hk8:kM u mx≤8:=eV;have hk9:nS (u.mutexes.getD mx w5)≤8:=hk8;have hml:=hu.ml;have hT:=iP (u:=u) (c:=c) (m:=mx) S i;have hTl:(kG u c mx S i).length=r8 u c i:=hT.1;have hli:r8 u c i≤1664:=hsz;have hlc:r8 u c i=(c6 u (itI c i)).length:=rfl;refine .z ?_;refine c22z ?_;refine .ca rfl rfl (M1 u mx) ?_;refine c35z ?_;refine .c5 [2,3,4,5,6,11] ?_;refine c8.TZ (t:=11) (γ:=(h.length+2)) (len:=(kM u mx+1)) t25 (by simp) (by omega) (kO (by decide) rfl) ?_;rw[bT];simp only[n4,List.set_cons_succ,List.set_cons_zero];generalize (⟨0,false,3,1,(List.replicate (kM u mx+1) 0).map j9,kM u mx+1⟩:Blk)=Vb;refine c22z ?_;refine .ca rfl rfl (LY hu wc hmx hS hi (fun l0=>by rw[List.append_assoc];exact hsv _)) ?_;refine c135z ?_;refine .cA (fun m st=>∃(j:Nat),(m=r8 u c i-j∧(j≤r8 u c i))∧st=⟨mkS 55 [(4,AV.int .i64 ((i:Nat):Int)),(5,AV.ptr h.length 0 0),(6,AV.ptr (h.length+1) 0 0),(11,bZ (U2 u c mx i (kG u c mx S i) j)),(27,AV.vec (r8 u c i) (l9 (kG u c mx S i))),(28,AV.int .i64 ((r8 u c i:Nat):Int)),(29,AV.int .i64 ((j:Nat):Int))],h++[⟨0,false,30,4,[.vec u.globals.length (g6 u.globals),.vec u.mutexes.length (c9 u.mutexes),.vec u.procs.length (g7 u.procs),.int .i64 u.main],0⟩,⟨0,false,34,3,[.vec c.insts.length (g9 c.insts),.vec c.calls.length (j8 c.calls),.vec c.roots.length (g6 c.roots)],0⟩,Vb]⟩) _ (.v ⟨0,⟨rfl,by omega⟩,rfl⟩ (hs:=t17)) ?_;rintro m sl h' ⟨j,⟨hm,hj⟩,hst⟩;obtain ⟨rfl,rfl⟩:=St.mk.inj hst;have hop:(dW u c i j).op=((c6 u (itI c i)).getD j g0).op:=rfl;refine c19z ?_;refine u2z ?_ ?_
  ·intro e1 qe1;refine c72z ?_;refine c250z ?_;refine u2z ?_ ?_
   ·intro e2 qe2;refine .c5 [4,5,6,11,13,27,28,29] ?_;have hTj:=hT.get (i:=j) (by omega);have hEj:=oI (u:=u) (c:=c) (m:=mx) i (kG u c mx S i) j;refine .r ?_;refine .e 2 ?_;refine .ca rfl rfl (U9 _ _ (hTj.lt hk8) (hEj.lt hk8) t204 t156) ?_;refine c25z ?_;refine .rz ?_;exact ⟨_,by omega,.v ⟨(j+1),⟨rfl,by omega⟩,rfl⟩ (hs:=t17)⟩
   intro e2 qe2;refine c4z ?_;refine .c5 [4,5,6,11,27,28,29] ?_;refine .rz ?_;exact ⟨_,by omega,.v ⟨(j+1),⟨rfl,by omega⟩,rfl⟩ (hs:=t17)⟩
  intro e1 qe1;refine .exit ?_;obtain rfl:j=r8 u c i:=by omega
  refine c216z ?_;exact .ret (.ex (hq:=by rfl))
theorem c_emptyV (hu:WU u)(wc:WC u c)(hmx:mx<u.mutexes.length):CB 61 [.agg [.vec u.globals.length (g6 u.globals),.vec u.mutexes.length (c9 u.mutexes),.vec u.procs.length (g7 u.procs),.int .i64 u.main],.agg [.vec c.insts.length (g9 c.insts),.vec c.calls.length (j8 c.calls),.vec c.roots.length (g6 c.roots)],.int .i64 ((mx:Nat):Int)] h (.vec c.insts.length (l9 (sF u c mx))):=by
  refine .bz Tryz.f61 31 ?_;have hwl:=wc.len;have hk8:kM u mx≤8:=eV;have hk9:nS (u.mutexes.getD mx w5)≤8:=hk8;have hml:=hu.ml;refine c186z ?_;refine .c5 [2,3,7] ?_;refine c14z ?_;refine .u0 (fun m st=>∃(i:Nat),(m=c.insts.length-i∧(i≤c.insts.length))∧st=⟨mkS 31 [(2,AV.int .i64 ((mx:Nat):Int)),(3,AV.ptr h.length 0 0),(7,AV.own (h.length+2) 0 0 c.insts.length),(14,AV.int .i64 ((c.insts.length:Nat):Int)),(15,AV.int .i64 ((i:Nat):Int))],h++[⟨0,false,30,4,[.vec u.globals.length (g6 u.globals),.vec u.mutexes.length (c9 u.mutexes),.vec u.procs.length (g7 u.procs),.int .i64 u.main],0⟩,⟨0,false,34,3,[.vec c.insts.length (g9 c.insts),.vec c.calls.length (j8 c.calls),.vec c.roots.length (g6 c.roots)],0⟩,⟨0,false,22,1,xF c.insts.length i (List.replicate (kM u mx+1) 0),0⟩]⟩) (.v ⟨0,⟨rfl,by omega⟩,rfl⟩) ?_ (he:=t201);rintro m sl h' ⟨i,⟨hm,hi⟩,hst⟩;obtain ⟨rfl,rfl⟩:=St.mk.inj hst;clear hst;refine c19z ?_;refine u2z ?_ ?_
  ·intro e1 qe1;refine c72z ?_;refine .r ?_;refine .e 7 ?_;refine .ca rfl rfl (M1 u mx) ?_;refine c25z ?_;refine .c5 [2,3,7,14,15] ?_;refine c8.EJ (β:=h.length+2) (γ:=h.length+3) (A:=l9 (List.replicate i (List.replicate (kM u mx+1) 0))) (R:=List.replicate (c.insts.length-(i+1)) AV.nils) (zs:=(List.replicate (kM u mx+1) 0)) (len:=kM u mx+1) t25 t25 (by simp) (by omega) ?_;refine c13z ?_;exact ⟨_,by omega,.v ⟨(i+1),⟨rfl,by omega⟩,rfl⟩ (he:=t77) (hk:=t177)⟩
  intro e1 qe1;refine .exit ?_;obtain rfl:i=c.insts.length:=by omega
  simp only[qF];refine c191z ?_;exact ⟨_,_,rfl,U7 t25 (by omega) (by simp),by rfl⟩
theorem UB (hu:WU u)(wc:WC u c)(hmx:mx<u.mutexes.length):CH 61 [.agg [.vec u.globals.length (g6 u.globals),.vec u.mutexes.length (c9 u.mutexes),.vec u.procs.length (g7 u.procs),.int .i64 u.main],.agg [.vec c.insts.length (g9 c.insts),.vec c.calls.length (j8 c.calls),.vec c.roots.length (g6 c.roots)],.int .i64 ((mx:Nat):Int)] h (.own (h.length+2) 0 0 c.insts.length) (h++[⟨0,false,30,4,[.vec u.globals.length (g6 u.globals),.vec u.mutexes.length (c9 u.mutexes),.vec u.procs.length (g7 u.procs),.int .i64 u.main],0⟩,⟨0,false,34,3,[.vec c.insts.length (g9 c.insts),.vec c.calls.length (j8 c.calls),.vec c.roots.length (g6 c.roots)],0⟩,⟨0,false,22,1,l9 (sF u c mx),0⟩]):=by
  refine .wz Tryz.f61 31 ?_;have hwl:=wc.len;have hk8:kM u mx≤8:=eV;have hk9:nS (u.mutexes.getD mx w5)≤8:=hk8;have hml:=hu.ml;refine c186z ?_;refine .c5 [2,3,7] ?_;refine c14z ?_;refine .u0 (fun m st=>∃(i:Nat),(m=c.insts.length-i∧(i≤c.insts.length))∧st=⟨mkS 31 [(2,AV.int .i64 ((mx:Nat):Int)),(3,AV.ptr h.length 0 0),(7,AV.own (h.length+2) 0 0 c.insts.length),(14,AV.int .i64 ((c.insts.length:Nat):Int)),(15,AV.int .i64 ((i:Nat):Int))],h++[⟨0,false,30,4,[.vec u.globals.length (g6 u.globals),.vec u.mutexes.length (c9 u.mutexes),.vec u.procs.length (g7 u.procs),.int .i64 u.main],0⟩,⟨0,false,34,3,[.vec c.insts.length (g9 c.insts),.vec c.calls.length (j8 c.calls),.vec c.roots.length (g6 c.roots)],0⟩,⟨0,false,22,1,xF c.insts.length i (List.replicate (kM u mx+1) 0),0⟩]⟩) (.v ⟨0,⟨rfl,by omega⟩,rfl⟩) ?_ (he:=t201);rintro m sl h' ⟨i,⟨hm,hi⟩,hst⟩;obtain ⟨rfl,rfl⟩:=St.mk.inj hst;clear hst;refine c19z ?_;refine u2z ?_ ?_
  ·intro e1 qe1;refine c72z ?_;refine .r ?_;refine .e 7 ?_;refine .ca rfl rfl (M1 u mx) ?_;refine c25z ?_;refine .c5 [2,3,7,14,15] ?_;refine c8.EJ (β:=h.length+2) (γ:=h.length+3) (A:=l9 (List.replicate i (List.replicate (kM u mx+1) 0))) (R:=List.replicate (c.insts.length-(i+1)) AV.nils) (zs:=(List.replicate (kM u mx+1) 0)) (len:=kM u mx+1) t25 t25 (by simp) (by omega) ?_;refine c13z ?_;exact ⟨_,by omega,.v ⟨(i+1),⟨rfl,by omega⟩,rfl⟩ (he:=t77) (hk:=t177)⟩
  intro e1 qe1;refine .exit ?_;obtain rfl:i=c.insts.length:=by omega
  simp only[qF];refine c191z ?_;exact ⟨_,[],_,(List.append_nil _).symm,by simp,v5.new (fun b hb=>by replace hb:=s7z hb;rcases hb with rfl | rfl | rfl;exact plnU u;exact plnC c;exact TR _),frz_old (by simp),by exact ⟨rfl,rfl⟩⟩
theorem c_of (hu:WU u)(wc:WC u c)(hmx:mx<u.mutexes.length):CB 23 [.agg [.vec u.globals.length (g6 u.globals),.vec u.mutexes.length (c9 u.mutexes),.vec u.procs.length (g7 u.procs),.int .i64 u.main],.agg [.vec c.insts.length (g9 c.insts),.vec c.calls.length (j8 c.calls),.vec c.roots.length (g6 c.roots)],.int .i64 ((mx:Nat):Int)] h (.vec c.insts.length (l9 (bR u c mx))):=by
  refine .bz Tryz.f23 41 ?_;have hwl:=wc.len;have hk8:kM u mx≤8:=eV;have hk9:nS (u.mutexes.getD mx w5)≤8:=hk8;have hml:=hu.ml;refine c87z ?_;refine .ch rfl rfl (UB hu wc hmx) ?_;refine .n ?_;refine c5z ?_;refine .u0 (fun m st=>∃(Sx:List (List Nat)) (ag:Bool),(m=TU c.insts.length Sx ag∧(Low u c mx Sx∧(ag=false→Sx=bR u c mx)))∧st=⟨mkS 41 [(2,AV.int .i64 ((mx:Nat):Int)),(3,AV.ptr h.length 0 0),(4,AV.ptr (h.length+1) 0 0),(7,AV.own (h.length+4) 0 0 c.insts.length),(8,AV.bool ag)],h++[⟨0,false,30,4,[.vec u.globals.length (g6 u.globals),.vec u.mutexes.length (c9 u.mutexes),.vec u.procs.length (g7 u.procs),.int .i64 u.main],0⟩,⟨0,false,34,3,[.vec c.insts.length (g9 c.insts),.vec c.calls.length (j8 c.calls),.vec c.roots.length (g6 c.roots)],0⟩,⟨0,false,30,4,[.vec u.globals.length (g6 u.globals),.vec u.mutexes.length (c9 u.mutexes),.vec u.procs.length (g7 u.procs),.int .i64 u.main],0⟩,⟨0,false,34,3,[.vec c.insts.length (g9 c.insts),.vec c.calls.length (j8 c.calls),.vec c.roots.length (g6 c.roots)],0⟩,⟨0,false,22,1,l9 Sx,0⟩]⟩) (.v ⟨(sF u c mx),true,⟨rfl,⟨Low.zero,fun h=>by cases h⟩⟩,rfl⟩) ?_ (he:=t172);rintro m sl h' ⟨Sx,ag,⟨hm,⟨hL,hdone⟩⟩,hst⟩;obtain ⟨rfl,rfl⟩:=St.mk.inj hst;clear hst;refine c0z ?_;refine u2z ?_ ?_
  ·intro e1 qe1;refine c132z ?_;have hag:ag=true:=by assumption
   subst hag;refine .z ?_;refine c14z ?_;refine .u0 (fun m st=>∃(S1:List (List Nat)) (a1:Bool) (i:Nat),(m=i∧(OfI u c mx Sx S1 a1 i∧i≤c.insts.length))∧st=⟨mkS 41 [(2,AV.int .i64 ((mx:Nat):Int)),(3,AV.ptr h.length 0 0),(4,AV.ptr (h.length+1) 0 0),(7,AV.own (h.length+4) 0 0 c.insts.length),(8,AV.bool a1),(9,AV.int .i64 (((i:Nat):Int)-1))],h++[⟨0,false,30,4,[.vec u.globals.length (g6 u.globals),.vec u.mutexes.length (c9 u.mutexes),.vec u.procs.length (g7 u.procs),.int .i64 u.main],0⟩,⟨0,false,34,3,[.vec c.insts.length (g9 c.insts),.vec c.calls.length (j8 c.calls),.vec c.roots.length (g6 c.roots)],0⟩,⟨0,false,30,4,[.vec u.globals.length (g6 u.globals),.vec u.mutexes.length (c9 u.mutexes),.vec u.procs.length (g7 u.procs),.int .i64 u.main],0⟩,⟨0,false,34,3,[.vec c.insts.length (g9 c.insts),.vec c.calls.length (j8 c.calls),.vec c.roots.length (g6 c.roots)],0⟩,⟨0,false,22,1,l9 S1,0⟩]⟩) (.v ⟨Sx,false,c.insts.length,⟨rfl,⟨OfI.start hL,Nat.le_refl _⟩⟩,rfl⟩) ?_;rintro m sl h' ⟨S1,a1,i,⟨hm,⟨hO,hi⟩⟩,hst⟩;obtain ⟨rfl,rfl⟩:=St.mk.inj hst;clear hst;have hS1:S1.length=c.insts.length:=hO.low.tb.1;refine c0z ?_;refine u2z ?_ ?_
   ·intro e2 qe2;refine c2z ?_;obtain ⟨i,rfl⟩:∃i',i=i'+1:=⟨i-1,by omega⟩;simp only[L7];refine c22z ?_;refine .ca rfl rfl (c_exitO hu wc hmx hO.low.tb (show i<c.insts.length by omega) (fun l0=>EM hu wc hmx hO.low.tb (show i<c.insts.length by omega) (β:=h.length+4) (g:=0) t25 l0)) ?_;refine .n ?_;refine .c5 [2,3,4,7,8,9,10] ?_;refine c22z ?_;refine .ca rfl rfl (UA _ _ (by have:=(L5 (u:=u) (c:=c) (m:=mx) S1 i).1;omega)) ?_;refine .n ?_;refine u2z ?_ ?_
    ·intro e3 qe3;refine .c5 [2,3,4,7,9,10] ?_;refine c47z ?_;exact ⟨_,by omega,.v ⟨(S1.set i (exT u c mx S1 i)),true,i,⟨rfl,⟨hO.set hu wc (by omega) (by assumption),by omega⟩⟩,rfl⟩ (hk:=t99)⟩
    intro e3 qe3;refine c4z ?_;refine .c5 [2,3,4,7,8,9] ?_;refine .rz ?_;exact ⟨_,by omega,.v ⟨S1,a1,i,⟨rfl,⟨hO.same (by assumption),by omega⟩⟩,rfl⟩ (hk:=t99)⟩
   intro e2 qe2;refine .exit ?_;obtain rfl:i=0:=by omega
   have hlt:=mOf_lt hO;exact ⟨_,by omega,.v ⟨S1,a1,⟨rfl,⟨hO.low,fun h=>by subst h;exact hO.done hu wc⟩⟩,rfl⟩ (hk:=t99)⟩
  intro e1 qe1;refine c94z ?_;exact ⟨_,_,rfl,U7 t25 (by omega) hL.tb.1,by (rw[hdone (by assumption)])⟩
def roundsN (n:Int):Nat:=(min (max n 0) 100).toNat
def BJ (n i:Nat)(T:List (List Nat)):List AV:=l9 (T.take i)++List.replicate (n-i) AV.nils
variable {T:List (List Nat)}
theorem LZ:BJ n 0 T=List.replicate n AV.nils:=by simp[BJ,l9]
theorem MA (N:Nat):∀x∈BJ n i T,Refs N x:=fun x hx=>by
  rcases List.mem_append.1 hx with hx | hx
  · exact (TR _).refs _ x hx
  · rw[List.eq_of_mem_replicate hx];exact .nils
theorem UC (h:T.length=n):BJ n n T=l9 T:=by rw[BJ,List.take_of_length_le (by omega),Nat.sub_self];simp
theorem MB {r:List Nat}(h:T.length=n)(hi:i<n)(hr:T.getD i []=r):l9 (T.take i)++AV.vec r.length (r.map j9)::List.replicate (n-(i+1)) AV.nils=BJ n (i+1) T:=by
  rw[BJ,List.take_add_one,List.getElem?_eq_getElem (by omega)];have e:T[i]=r:=by rw[←hr];simp[List.getD,show i<T.length from by omega]
  rw[e];simp[l9,bZ]
theorem overN {x:AV}(h:T.length=n)(hi:i<n):List.take i (BJ n i T)++x::List.drop (i+1) (BJ n i T)=l9 (T.take i)++x::List.replicate (n-(i+1)) AV.nils:=by
  have hl:(l9 (T.take i)).length=i:=by rw[u5,List.length_take];omega
  rw[BJ,List.take_append_of_le_length (by omega),List.take_of_length_le (by omega),List.drop_append,List.drop_of_length_le (by omega),hl,List.nil_append,List.drop_replicate,show n-i-(i+1-i)=n-(i+1) from by omega]
theorem C7 (h:T.length=n)(hi:i≤n):(BJ n i T).length=n:=by rw[BJ,List.length_append,u5,List.length_take,List.length_replicate];omega
attribute [local go_sem] overN C7
end Go.Proofs.YtonbocmibeikmaaGreat
end
section
namespace Go.Proofs.YtonbocmibeikmaaGreat
open Go.Ab Go.Un
def jT (A:c7)(B:Blk)(R:c7):c7:=A++B::R
variable {A R:c7}{B:Blk}
theorem qG {l:c7}:(jT A B R++l)[A.length]?=some B:=by unfold jT;rw[List.append_assoc,List.getElem?_append_right (Nat.le_refl _),Nat.sub_self];rfl
@[simp] theorem midH_len {A R:c7} {B:Blk}:(jT A B R).length=A.length+1+R.length:=by unfold jT;simp;omega
theorem UE {l:c7}:jT A B R++l=jT A B (R++l):=by unfold jT;rw[List.append_assoc,List.cons_append]
theorem midH_of {H:c7}{β:Nat}(h:H[β]?=some B):∃A R,H=jT A B R∧A.length=β:=by obtain ⟨hlt,hget⟩:=List.getElem?_eq_some_iff.1 h;exact ⟨H.take β,H.drop (β+1),by rw[jT,←hget,←List.drop_eq_getElem_cons hlt,List.take_append_drop],by rw[List.length_take];omega⟩
variable {h:c7}
theorem MC (u:Un)(mx:Nat):CB 43 [.agg [.str (u.mutexes.getD mx w5).name,.bool (u.mutexes.getD mx w5).re,.int .i64 (u.mutexes.getD mx w5).size]] h (.int .i64 ((kM u mx:Nat):Int)):=WY _
theorem BK (k:Nat)(hk:k≤8):CB 79 [.int .i64 ((k:Nat):Int),.int .i64 0] h (bZ (dhN k 0)):=
  (KQ k 0 hk (by omega) (by omega)).mono fun y k hq=>⟨hq.1.trans (BH _ _),hq.2⟩
variable {u:Un}{c:Clo}{mx i:Nat}
theorem MD (hu:WU u)(wc:WC u c)(hmx:mx<u.mutexes.length)(hi:i<c.insts.length){pc:Nat}(hp:pc<r8 u c i):CB 80 [.agg [.vec u.globals.length (g6 u.globals),.vec u.mutexes.length (c9 u.mutexes),.vec u.procs.length (g7 u.procs),.int .i64 u.main],.agg [.int .i64 (itI c i).proc,.vec (itI c i).j4.length (g6 (itI c i).j4)],.int .i64 ((pc:Nat):Int),.int .i64 ((mx:Nat):Int)] h (bZ (dhN (kM u mx) (chI (itI c i) (dW u c i pc) mx))):=
  (c_relR hu (bK wc hi) hp hmx).mono fun y k hq=>⟨hq.1.trans (BH _ _),hq.2⟩
theorem C8 (hu:WU u){it:y0}(w:WIt u it){pc:Nat}(hpc:pc<(c6 u it).length):CB 26 [.agg [.vec u.globals.length (g6 u.globals),.vec u.mutexes.length (c9 u.mutexes),.vec u.procs.length (g7 u.procs),.int .i64 u.main],.agg [.int .i64 it.proc,.vec it.j4.length (g6 it.j4)],.int .i64 ((pc:Nat):Int)] h (.vec (n9 ((c6 u it).getD pc g0) pc).length (g6 (n9 ((c6 u it).getD pc g0) pc))):=c_nextR hu w hpc
attribute [local go_sem] rd bZ w6 aN u4 p8 l8 dK u5 Int.natCast_nonneg Int.natCast_inj dE jC iD jD lO oK C5 wN iQ wO V0 lH pZ rV oL List.length_set List.length_replicate Int.toNat_natCast_add_one kV wrap64 L7 List.length_map kH jF qG
variable {S:List (List Nat)}
theorem wQ (hu:WU u)(wc:WC u c)(hmx:mx<u.mutexes.length)(hS:Tb (kM u mx) c.insts.length S)(hi:i<c.insts.length):CB 57 [.agg [.vec u.globals.length (g6 u.globals),.vec u.mutexes.length (c9 u.mutexes),.vec u.procs.length (g7 u.procs),.int .i64 u.main],.agg [.vec c.insts.length (g9 c.insts),.vec c.calls.length (j8 c.calls),.vec c.roots.length (g6 c.roots)],.int .i64 ((mx:Nat):Int),.vec c.insts.length (l9 S),.int .i64 ((i:Nat):Int)] h (.vec (r8 u c i) (l9 (kG u c mx S i))):=by
  refine .bz Tryz.f57 136 ?_;have w:=bK wc hi;have w1:=w.lo;have w2:=w.hi;have hsz:(c6 u (itI c i)).length≤1664:=n6 hu w;have hwl:=wc.len;have hk8:kM u mx≤8:=eV;have hk9:nS (u.mutexes.getD mx w5)≤8:=hk8;have hml:=hu.ml;have p:Pro (kM u mx) (c6 u (itI c i)).length (nxI u c i) (stS u c mx S i):=LC hu wc hS hi;have hps:=p.pos;have hcl:=wc.cl;have hcll:(c.calls.getD i []).length=(c6 u (itI c i)).length:=wc.cll i hi;have hSl:=hS.1;have hcall:∀pc,pc<(c6 u (itI c i)).length→(dW u c i pc).op=2→0≤(c.calls.getD i []).getD pc 0∧(c.calls.getD i []).getD pc 0<c.insts.length:=fun pc hp ho=>by have:=(wc.call i hi pc hp).1 (.inl ho);exact ⟨this.1,this.2.1⟩
  refine c65z ?_;refine .c5 [2,3,4,5,6,11] ?_;refine c203z ?_;refine .n ?_;refine c259z ?_;refine .c5 [2,3,4,5,6,11,12,13] ?_;refine c14z ?_;refine .u0 (fun m st=>∃(j:Nat),(m=(c6 u (itI c i)).length-j∧(j≤(c6 u (itI c i)).length))∧st=⟨mkS 136 [(2,AV.int .i64 ((mx:Nat):Int)),(3,AV.vec c.insts.length (l9 S)),(4,AV.int .i64 ((i:Nat):Int)),(5,AV.ptr h.length 0 0),(6,AV.ptr (h.length+1) 0 0),(11,AV.ptr (h.length+2) 0 0),(12,AV.int .i64 (((kM u mx):Nat):Int)),(13,AV.own (h.length+3) 0 0 (c6 u (itI c i)).length),(14,AV.int .i64 ((j:Nat):Int))],h++[⟨0,false,30,4,[.vec u.globals.length (g6 u.globals),.vec u.mutexes.length (c9 u.mutexes),.vec u.procs.length (g7 u.procs),.int .i64 u.main],0⟩,⟨0,false,34,3,[.vec c.insts.length (g9 c.insts),.vec c.calls.length (j8 c.calls),.vec c.roots.length (g6 c.roots)],0⟩,⟨0,false,46,2,[.int .i64 (itI c i).proc,.vec (itI c i).j4.length (g6 (itI c i).j4)],0⟩,⟨0,false,22,1,xF (c6 u (itI c i)).length j (List.replicate (kM u mx+1) 0),0⟩]⟩) (.v ⟨0,⟨rfl,by omega⟩,rfl⟩) ?_ (he:=t201);rintro m sl h' ⟨j,⟨hm,hj⟩,hst⟩;obtain ⟨rfl,rfl⟩:=St.mk.inj hst;clear hst;refine c0z ?_;refine u2z ?_ ?_
  ·intro e1 qe1;refine c2z ?_;refine c1z ?_;refine .c5 [2,3,4,5,6,11,12,13,14] ?_;refine c8.EJ (β:=h.length+3) (γ:=h.length+4) (A:=l9 (List.replicate j (List.replicate (kM u mx+1) 0))) (R:=List.replicate ((c6 u (itI c i)).length-(j+1)) AV.nils) (zs:=(List.replicate (kM u mx+1) 0)) (len:=kM u mx+1) t25 t25 (by simp) (by omega) ?_;refine c13z ?_;exact ⟨_,by omega,.v ⟨(j+1),⟨rfl,by omega⟩,rfl⟩ (he:=t77) (hk:=t166)⟩
  intro e1 qe1;refine .exit ?_;obtain rfl:j=(c6 u (itI c i)).length:=by omega
  simp only[qF];change c8 ..;refine c31z ?_;refine .ca rfl rfl (BK _ hk8) ?_;refine c35z ?_;refine .c5 [2,3,4,5,6,11,13] ?_;refine c14z ?_;refine .u0 (fun m st=>∃(T:List (List Nat)) (ag:Bool),(m=TU (c6 u (itI c i)).length T ag∧(Gro (kM u mx) (c6 u (itI c i)).length (nxI u c i) (stS u c mx S i) T∧(ag=false→T=dS (kM u mx) (c6 u (itI c i)).length (nxI u c i) (stS u c mx S i))))∧st=⟨mkS 136 [(2,AV.int .i64 ((mx:Nat):Int)),(3,AV.vec c.insts.length (l9 S)),(4,AV.int .i64 ((i:Nat):Int)),(5,AV.ptr h.length 0 0),(6,AV.ptr (h.length+1) 0 0),(11,AV.ptr (h.length+2) 0 0),(13,AV.own (h.length+3) 0 0 (c6 u (itI c i)).length),(15,AV.bool ag)],h++[⟨0,false,30,4,[.vec u.globals.length (g6 u.globals),.vec u.mutexes.length (c9 u.mutexes),.vec u.procs.length (g7 u.procs),.int .i64 u.main],0⟩,⟨0,false,34,3,[.vec c.insts.length (g9 c.insts),.vec c.calls.length (j8 c.calls),.vec c.roots.length (g6 c.roots)],0⟩,⟨0,false,46,2,[.int .i64 (itI c i).proc,.vec (itI c i).j4.length (g6 (itI c i).j4)],0⟩,⟨0,false,22,1,l9 T,0⟩]⟩) (.v ⟨((List.replicate (c6 u (itI c i)).length (List.replicate (kM u mx+1) 0)).set 0 (dhN (kM u mx) 0)),true,⟨rfl,⟨Gro.start p,fun hf=>by cases hf⟩⟩,rfl⟩) ?_;rintro m sl h' ⟨T,ag,⟨hm,⟨hG,hdone⟩⟩,hst⟩;obtain ⟨rfl,rfl⟩:=St.mk.inj hst;clear hst;refine c0z ?_;refine u2z ?_ ?_
  ·intro e2 qe2;refine c132z ?_;have hag:ag=true:=by assumption
   subst hag;refine .z ?_;refine c14z ?_;refine .u0 (fun m st=>∃(T1:List (List Nat)) (a1:Bool) (pc:Nat),(m=(c6 u (itI c i)).length-pc∧(EW (kM u mx) (c6 u (itI c i)).length (nxI u c i) (stS u c mx S i) T T1 a1 pc∧pc≤(c6 u (itI c i)).length))∧st=⟨mkS 136 [(2,AV.int .i64 ((mx:Nat):Int)),(3,AV.vec c.insts.length (l9 S)),(4,AV.int .i64 ((i:Nat):Int)),(5,AV.ptr h.length 0 0),(6,AV.ptr (h.length+1) 0 0),(11,AV.ptr (h.length+2) 0 0),(13,AV.own (h.length+3) 0 0 (c6 u (itI c i)).length),(15,AV.bool a1),(16,AV.int .i64 ((pc:Nat):Int))],h++[⟨0,false,30,4,[.vec u.globals.length (g6 u.globals),.vec u.mutexes.length (c9 u.mutexes),.vec u.procs.length (g7 u.procs),.int .i64 u.main],0⟩,⟨0,false,34,3,[.vec c.insts.length (g9 c.insts),.vec c.calls.length (j8 c.calls),.vec c.roots.length (g6 c.roots)],0⟩,⟨0,false,46,2,[.int .i64 (itI c i).proc,.vec (itI c i).j4.length (g6 (itI c i).j4)],0⟩,⟨0,false,22,1,l9 T1,0⟩]⟩) (.v ⟨T,false,0,⟨rfl,⟨EW.start hG,by omega⟩⟩,rfl⟩) ?_;rintro m sl h' ⟨T1,a1,pc,⟨hm,⟨hP,hpl⟩⟩,hst⟩;obtain ⟨rfl,rfl⟩:=St.mk.inj hst;clear hst;have hT1:T1.length=(c6 u (itI c i)).length:=hP.g.tb.1;refine c0z ?_;refine u2z ?_ ?_
   ·intro e3 qe3;refine c2z ?_;have hpc:pc<(c6 u (itI c i)).length:=by omega
    have hop:dW u c i pc=(c6 u (itI c i)).getD pc g0:=rfl;refine c28z ?_;refine .ca rfl rfl (MD hu wc hmx hi (show pc<r8 u c i by show pc<(c6 u (itI c i)).length;omega)) ?_;refine c35z ?_;refine .c5 [2,3,4,5,6,11,13,15,16,17] ?_;refine c129z ?_;refine u2z ?_ ?_
    ·intro e4 qe4;refine .c5 [2,3,4,5,6,11,13,15,16] ?_;obtain ⟨hc1,hc2⟩:=hcall pc hpc (by rw[hop];omega);refine c91z ?_;refine .c5 [2,3,4,5,6,11,13,15,16,17] ?_;have hst2:S.getD ((c.calls.getD i []).getD pc 0).toNat []=stS u c mx S i pc:=by unfold stS;rw[if_pos (show (dW u c i pc).op=2 from by rw[hop];omega)];first | done | rfl
     rw[hst2];have hst1:=p.st pc hpc;have hTp:=hP.g.tb.get hpc;obtain ⟨hR,hle⟩:=hP.g.aft p hpc;have hnl:=kD (x:=(c6 u (itI c i)).getD pc g0) (pc:=pc);refine c97z ?_;refine c174z ?_;refine c133z ?_;refine c14z ?_;refine .u0 (fun m st=>∃(T2:List (List Nat)) (a2:Bool) (j:Nat),(m=(n9 ((c6 u (itI c i)).getD pc g0) pc).length-j∧(EH (kM u mx) (c6 u (itI c i)).length (nxI u c i) (stS u c mx S i) T T2 a2 pc (T1.getD pc []) j∧j≤(n9 ((c6 u (itI c i)).getD pc g0) pc).length))∧st=⟨mkS 136 [(2,AV.int .i64 ((mx:Nat):Int)),(3,AV.vec c.insts.length (l9 S)),(4,AV.int .i64 ((i:Nat):Int)),(5,AV.ptr h.length 0 0),(6,AV.ptr (h.length+1) 0 0),(11,AV.ptr (h.length+2) 0 0),(13,AV.own (h.length+3) 0 0 (c6 u (itI c i)).length),(15,AV.bool a2),(16,AV.int .i64 ((pc:Nat):Int)),(18,bZ (o5 (T1.getD pc []) (stS u c mx S i pc))),(19,AV.vec (n9 ((c6 u (itI c i)).getD pc g0) pc).length (g6 (n9 ((c6 u (itI c i)).getD pc g0) pc))),(20,AV.int .i64 ((j:Nat):Int))],h++[⟨0,false,30,4,[.vec u.globals.length (g6 u.globals),.vec u.mutexes.length (c9 u.mutexes),.vec u.procs.length (g7 u.procs),.int .i64 u.main],0⟩,⟨0,false,34,3,[.vec c.insts.length (g9 c.insts),.vec c.calls.length (j8 c.calls),.vec c.roots.length (g6 c.roots)],0⟩,⟨0,false,46,2,[.int .i64 (itI c i).proc,.vec (itI c i).j4.length (g6 (itI c i).j4)],0⟩,⟨0,false,22,1,l9 T2,0⟩]⟩) (.v ⟨T1,a1,0,⟨rfl,⟨hP.go,by omega⟩⟩,rfl⟩) ?_;rintro m sl h' ⟨T2,a2,j,⟨hm,⟨hQ,hj⟩⟩,hst⟩;obtain ⟨rfl,rfl⟩:=St.mk.inj hst;clear hst;have hT2:T2.length=(c6 u (itI c i)).length:=hQ.g.tb.1;refine c0z ?_;refine u2z ?_ ?_
     ·intro e5 qe5;refine c2z ?_;obtain ⟨hq1,hq2⟩:=p.nx pc hpc _ (j7 (d:=0) (show j<(nxI u c i pc).length from by show j<(n9 ((c6 u (itI c i)).getD pc g0) pc).length;omega));rw[show nxI u c i pc=(n9 ((c6 u (itI c i)).getD pc g0) pc) from rfl]at hq1 hq2;have hjn:j<(nxI u c i pc).length:=by show j<(n9 ((c6 u (itI c i)).getD pc g0) pc).length;omega
      have hq3:((n9 ((c6 u (itI c i)).getD pc g0) pc).getD j 0).toNat<(c6 u (itI c i)).length:=by omega
      have hRq:=hQ.g.tb.get hq3;refine c108z ?_;refine .n ?_;refine c182z ?_;refine .n ?_;refine u2z ?_ ?_
      ·intro e6 qe6;refine c131z ?_;refine c45z ?_;exact ⟨_,by omega,.v ⟨(T2.set ((n9 ((c6 u (itI c i)).getD pc g0) pc).getD j 0).toNat (cN (T2.getD ((n9 ((c6 u (itI c i)).getD pc g0) pc).getD j 0).toNat []) (o5 (T1.getD pc []) (stS u c mx S i pc)))),true,(j+1),⟨rfl,⟨hQ.grow p hpc hR hle hjn rfl (fun hs=>absurd ((aL hRq hR).2 hs) (by assumption)),by omega⟩⟩,rfl⟩ (he:=t11) (hk:=t33)⟩
      intro e6 qe6;refine c4z ?_;refine c45z ?_;exact ⟨_,by omega,.v ⟨T2,a2,(j+1),⟨rfl,⟨hQ.skip ((aL hRq hR).1 (by assumption)),by omega⟩⟩,rfl⟩ (he:=t11) (hk:=t33)⟩
     intro e5 qe5;refine .exit ?_;obtain rfl:j=(n9 ((c6 u (itI c i)).getD pc g0) pc).length:=by omega
     change c8 ..;refine .rz ?_;exact ⟨_,by omega,.v ⟨T2,a2,(pc+1),⟨rfl,⟨hQ.fin,by omega⟩⟩,rfl⟩ (he:=t11) (hk:=t33)⟩
    intro e4 qe4;refine .sk ?_;refine .c5 [2,3,4,5,6,11,13,15,16,17] ?_;have hst2:dhN (kM u mx) (chI (itI c i) (dW u c i pc) mx)=stS u c mx S i pc:=by unfold stS;rw[if_neg (show ¬(dW u c i pc).op=2 from by rw[hop];omega)];first | done | rfl
    rw[hst2];have hst1:=p.st pc hpc;have hTp:=hP.g.tb.get hpc;obtain ⟨hR,hle⟩:=hP.g.aft p hpc;have hnl:=kD (x:=(c6 u (itI c i)).getD pc g0) (pc:=pc);refine c97z ?_;refine c174z ?_;refine c133z ?_;refine c14z ?_;refine .u0 (fun m st=>∃(T2:List (List Nat)) (a2:Bool) (j:Nat),(m=(n9 ((c6 u (itI c i)).getD pc g0) pc).length-j∧(EH (kM u mx) (c6 u (itI c i)).length (nxI u c i) (stS u c mx S i) T T2 a2 pc (T1.getD pc []) j∧j≤(n9 ((c6 u (itI c i)).getD pc g0) pc).length))∧st=⟨mkS 136 [(2,AV.int .i64 ((mx:Nat):Int)),(3,AV.vec c.insts.length (l9 S)),(4,AV.int .i64 ((i:Nat):Int)),(5,AV.ptr h.length 0 0),(6,AV.ptr (h.length+1) 0 0),(11,AV.ptr (h.length+2) 0 0),(13,AV.own (h.length+3) 0 0 (c6 u (itI c i)).length),(15,AV.bool a2),(16,AV.int .i64 ((pc:Nat):Int)),(18,bZ (o5 (T1.getD pc []) (stS u c mx S i pc))),(19,AV.vec (n9 ((c6 u (itI c i)).getD pc g0) pc).length (g6 (n9 ((c6 u (itI c i)).getD pc g0) pc))),(20,AV.int .i64 ((j:Nat):Int))],h++[⟨0,false,30,4,[.vec u.globals.length (g6 u.globals),.vec u.mutexes.length (c9 u.mutexes),.vec u.procs.length (g7 u.procs),.int .i64 u.main],0⟩,⟨0,false,34,3,[.vec c.insts.length (g9 c.insts),.vec c.calls.length (j8 c.calls),.vec c.roots.length (g6 c.roots)],0⟩,⟨0,false,46,2,[.int .i64 (itI c i).proc,.vec (itI c i).j4.length (g6 (itI c i).j4)],0⟩,⟨0,false,22,1,l9 T2,0⟩]⟩) (.v ⟨T1,a1,0,⟨rfl,⟨hP.go,by omega⟩⟩,rfl⟩) ?_;rintro m sl h' ⟨T2,a2,j,⟨hm,⟨hQ,hj⟩⟩,hst⟩;obtain ⟨rfl,rfl⟩:=St.mk.inj hst;clear hst;have hT2:T2.length=(c6 u (itI c i)).length:=hQ.g.tb.1;refine c0z ?_;refine u2z ?_ ?_
    ·intro e7 qe7;refine c2z ?_;obtain ⟨hq1,hq2⟩:=p.nx pc hpc _ (j7 (d:=0) (show j<(nxI u c i pc).length from by show j<(n9 ((c6 u (itI c i)).getD pc g0) pc).length;omega));rw[show nxI u c i pc=(n9 ((c6 u (itI c i)).getD pc g0) pc) from rfl]at hq1 hq2;have hjn:j<(nxI u c i pc).length:=by show j<(n9 ((c6 u (itI c i)).getD pc g0) pc).length;omega
     have hq3:((n9 ((c6 u (itI c i)).getD pc g0) pc).getD j 0).toNat<(c6 u (itI c i)).length:=by omega
     have hRq:=hQ.g.tb.get hq3;refine c108z ?_;refine .n ?_;refine c182z ?_;refine .n ?_;refine u2z ?_ ?_
     ·intro e8 qe8;refine c131z ?_;refine c45z ?_;exact ⟨_,by omega,.v ⟨(T2.set ((n9 ((c6 u (itI c i)).getD pc g0) pc).getD j 0).toNat (cN (T2.getD ((n9 ((c6 u (itI c i)).getD pc g0) pc).getD j 0).toNat []) (o5 (T1.getD pc []) (stS u c mx S i pc)))),true,(j+1),⟨rfl,⟨hQ.grow p hpc hR hle hjn rfl (fun hs=>absurd ((aL hRq hR).2 hs) (by assumption)),by omega⟩⟩,rfl⟩ (he:=t11) (hk:=t33)⟩
     intro e8 qe8;refine c4z ?_;refine c45z ?_;exact ⟨_,by omega,.v ⟨T2,a2,(j+1),⟨rfl,⟨hQ.skip ((aL hRq hR).1 (by assumption)),by omega⟩⟩,rfl⟩ (he:=t11) (hk:=t33)⟩
    intro e7 qe7;refine .exit ?_;obtain rfl:j=(n9 ((c6 u (itI c i)).getD pc g0) pc).length:=by omega
    change c8 ..;refine .rz ?_;exact ⟨_,by omega,.v ⟨T2,a2,(pc+1),⟨rfl,⟨hQ.fin,by omega⟩⟩,rfl⟩ (he:=t11) (hk:=t33)⟩
   intro e3 qe3;refine .exit ?_;obtain rfl:pc=(c6 u (itI c i)).length:=by omega
   have hlt:=LP hk8 hP;exact ⟨_,by omega,.v ⟨T1,a1,⟨rfl,⟨hP.g,fun hf=>by subst hf;exact hP.done p⟩⟩,rfl⟩ (he:=t11) (hk:=t33)⟩
  intro e2 qe2;refine c8z ?_;refine .c5 [13] ?_;refine c24z ?_;exact ⟨_,_,rfl,U7 t25 (by omega) hG.tb.1,by (show _=_;rw[hdone (by assumption)];rfl)⟩
theorem ME {g:Nat}(hu:WU u)(wc:WC u c)(hmx:mx<u.mutexes.length)(hS:Tb (kM u mx) c.insts.length S)(hi:i<c.insts.length):CB 57 [.agg [.vec u.globals.length (g6 u.globals),.vec u.mutexes.length (c9 u.mutexes),.vec u.procs.length (g7 u.procs),.int .i64 u.main],.agg [.vec c.insts.length (g9 c.insts),.vec c.calls.length (j8 c.calls),.vec c.roots.length (g6 c.roots)],.int .i64 ((mx:Nat):Int),.own A.length g 0 c.insts.length,.int .i64 ((i:Nat):Int)] (jT A ⟨g,false,22,1,l9 S,0⟩ R) (.vec (r8 u c i) (l9 (kG u c mx S i))):=by
  refine .bz Tryz.f57 136 ?_;have w:=bK wc hi;have w1:=w.lo;have w2:=w.hi;have hsz:(c6 u (itI c i)).length≤1664:=n6 hu w;have hwl:=wc.len;have hk8:kM u mx≤8:=eV;have hk9:nS (u.mutexes.getD mx w5)≤8:=hk8;have hml:=hu.ml;have p:Pro (kM u mx) (c6 u (itI c i)).length (nxI u c i) (stS u c mx S i):=LC hu wc hS hi;have hps:=p.pos;have hcl:=wc.cl;have hcll:(c.calls.getD i []).length=(c6 u (itI c i)).length:=wc.cll i hi;have hSl:=hS.1;have hcall:∀pc,pc<(c6 u (itI c i)).length→(dW u c i pc).op=2→0≤(c.calls.getD i []).getD pc 0∧(c.calls.getD i []).getD pc 0<c.insts.length:=fun pc hp ho=>by have:=(wc.call i hi pc hp).1 (.inl ho);exact ⟨this.1,this.2.1⟩
  refine c65z ?_;refine .c5 [2,3,4,5,6,11] ?_;refine c203z ?_;refine .n ?_;refine c259z ?_;refine .c5 [2,3,4,5,6,11,12,13] ?_;refine c14z ?_;refine .u0 (fun m st=>∃(j:Nat),(m=(c6 u (itI c i)).length-j∧(j≤(c6 u (itI c i)).length))∧st=⟨mkS 136 [(2,AV.int .i64 ((mx:Nat):Int)),(3,AV.own A.length g 0 c.insts.length),(4,AV.int .i64 ((i:Nat):Int)),(5,AV.ptr (jT A ⟨g,false,22,1,l9 S,0⟩ R).length 0 0),(6,AV.ptr ((jT A ⟨g,false,22,1,l9 S,0⟩ R).length+1) 0 0),(11,AV.ptr ((jT A ⟨g,false,22,1,l9 S,0⟩ R).length+2) 0 0),(12,AV.int .i64 (((kM u mx):Nat):Int)),(13,AV.own ((jT A ⟨g,false,22,1,l9 S,0⟩ R).length+3) 0 0 (c6 u (itI c i)).length),(14,AV.int .i64 ((j:Nat):Int))],(jT A ⟨g,false,22,1,l9 S,0⟩ R)++[⟨0,false,30,4,[.vec u.globals.length (g6 u.globals),.vec u.mutexes.length (c9 u.mutexes),.vec u.procs.length (g7 u.procs),.int .i64 u.main],0⟩,⟨0,false,34,3,[.vec c.insts.length (g9 c.insts),.vec c.calls.length (j8 c.calls),.vec c.roots.length (g6 c.roots)],0⟩,⟨0,false,46,2,[.int .i64 (itI c i).proc,.vec (itI c i).j4.length (g6 (itI c i).j4)],0⟩,⟨0,false,22,1,xF (c6 u (itI c i)).length j (List.replicate (kM u mx+1) 0),0⟩]⟩) (.v ⟨0,⟨rfl,by omega⟩,rfl⟩) ?_ (he:=t201);rintro m sl h' ⟨j,⟨hm,hj⟩,hst⟩;obtain ⟨rfl,rfl⟩:=St.mk.inj hst;clear hst;refine c0z ?_;refine u2z ?_ ?_
  ·intro e1 qe1;refine c2z ?_;refine c1z ?_;refine .c5 [2,3,4,5,6,11,12,13,14] ?_;refine c8.EJ (β:=(jT A ⟨g,false,22,1,l9 S,0⟩ R).length+3) (γ:=(jT A ⟨g,false,22,1,l9 S,0⟩ R).length+4) (A:=l9 (List.replicate j (List.replicate (kM u mx+1) 0))) (R:=List.replicate ((c6 u (itI c i)).length-(j+1)) AV.nils) (zs:=(List.replicate (kM u mx+1) 0)) (len:=kM u mx+1) t25 t25 (by simp) (by omega) ?_;refine c13z ?_;exact ⟨_,by omega,.v ⟨(j+1),⟨rfl,by omega⟩,rfl⟩ (he:=t77) (hk:=t166)⟩
  intro e1 qe1;refine .exit ?_;obtain rfl:j=(c6 u (itI c i)).length:=by omega
  simp only[qF];change c8 ..;refine c31z ?_;refine .ca rfl rfl (BK _ hk8) ?_;refine c35z ?_;refine .c5 [2,3,4,5,6,11,13] ?_;refine c14z ?_;refine .u0 (fun m st=>∃(T:List (List Nat)) (ag:Bool),(m=TU (c6 u (itI c i)).length T ag∧(Gro (kM u mx) (c6 u (itI c i)).length (nxI u c i) (stS u c mx S i) T∧(ag=false→T=dS (kM u mx) (c6 u (itI c i)).length (nxI u c i) (stS u c mx S i))))∧st=⟨mkS 136 [(2,AV.int .i64 ((mx:Nat):Int)),(3,AV.own A.length g 0 c.insts.length),(4,AV.int .i64 ((i:Nat):Int)),(5,AV.ptr (jT A ⟨g,false,22,1,l9 S,0⟩ R).length 0 0),(6,AV.ptr ((jT A ⟨g,false,22,1,l9 S,0⟩ R).length+1) 0 0),(11,AV.ptr ((jT A ⟨g,false,22,1,l9 S,0⟩ R).length+2) 0 0),(13,AV.own ((jT A ⟨g,false,22,1,l9 S,0⟩ R).length+3) 0 0 (c6 u (itI c i)).length),(15,AV.bool ag)],(jT A ⟨g,false,22,1,l9 S,0⟩ R)++[⟨0,false,30,4,[.vec u.globals.length (g6 u.globals),.vec u.mutexes.length (c9 u.mutexes),.vec u.procs.length (g7 u.procs),.int .i64 u.main],0⟩,⟨0,false,34,3,[.vec c.insts.length (g9 c.insts),.vec c.calls.length (j8 c.calls),.vec c.roots.length (g6 c.roots)],0⟩,⟨0,false,46,2,[.int .i64 (itI c i).proc,.vec (itI c i).j4.length (g6 (itI c i).j4)],0⟩,⟨0,false,22,1,l9 T,0⟩]⟩) (.v ⟨((List.replicate (c6 u (itI c i)).length (List.replicate (kM u mx+1) 0)).set 0 (dhN (kM u mx) 0)),true,⟨rfl,⟨Gro.start p,fun hf=>by cases hf⟩⟩,rfl⟩) ?_;rintro m sl h' ⟨T,ag,⟨hm,⟨hG,hdone⟩⟩,hst⟩;obtain ⟨rfl,rfl⟩:=St.mk.inj hst;clear hst;refine c0z ?_;refine u2z ?_ ?_
  ·intro e2 qe2;refine c132z ?_;have hag:ag=true:=by assumption
   subst hag;refine .z ?_;refine c14z ?_;refine .u0 (fun m st=>∃(T1:List (List Nat)) (a1:Bool) (pc:Nat),(m=(c6 u (itI c i)).length-pc∧(EW (kM u mx) (c6 u (itI c i)).length (nxI u c i) (stS u c mx S i) T T1 a1 pc∧pc≤(c6 u (itI c i)).length))∧st=⟨mkS 136 [(2,AV.int .i64 ((mx:Nat):Int)),(3,AV.own A.length g 0 c.insts.length),(4,AV.int .i64 ((i:Nat):Int)),(5,AV.ptr (jT A ⟨g,false,22,1,l9 S,0⟩ R).length 0 0),(6,AV.ptr ((jT A ⟨g,false,22,1,l9 S,0⟩ R).length+1) 0 0),(11,AV.ptr ((jT A ⟨g,false,22,1,l9 S,0⟩ R).length+2) 0 0),(13,AV.own ((jT A ⟨g,false,22,1,l9 S,0⟩ R).length+3) 0 0 (c6 u (itI c i)).length),(15,AV.bool a1),(16,AV.int .i64 ((pc:Nat):Int))],(jT A ⟨g,false,22,1,l9 S,0⟩ R)++[⟨0,false,30,4,[.vec u.globals.length (g6 u.globals),.vec u.mutexes.length (c9 u.mutexes),.vec u.procs.length (g7 u.procs),.int .i64 u.main],0⟩,⟨0,false,34,3,[.vec c.insts.length (g9 c.insts),.vec c.calls.length (j8 c.calls),.vec c.roots.length (g6 c.roots)],0⟩,⟨0,false,46,2,[.int .i64 (itI c i).proc,.vec (itI c i).j4.length (g6 (itI c i).j4)],0⟩,⟨0,false,22,1,l9 T1,0⟩]⟩) (.v ⟨T,false,0,⟨rfl,⟨EW.start hG,by omega⟩⟩,rfl⟩) ?_;rintro m sl h' ⟨T1,a1,pc,⟨hm,⟨hP,hpl⟩⟩,hst⟩;obtain ⟨rfl,rfl⟩:=St.mk.inj hst;clear hst;have hT1:T1.length=(c6 u (itI c i)).length:=hP.g.tb.1;refine c0z ?_;refine u2z ?_ ?_
   ·intro e3 qe3;refine c2z ?_;have hpc:pc<(c6 u (itI c i)).length:=by omega
    have hop:dW u c i pc=(c6 u (itI c i)).getD pc g0:=rfl;refine c28z ?_;refine .ca rfl rfl (MD hu wc hmx hi (show pc<r8 u c i by show pc<(c6 u (itI c i)).length;omega)) ?_;refine c35z ?_;refine .c5 [2,3,4,5,6,11,13,15,16,17] ?_;refine c129z ?_;refine u2z ?_ ?_
    ·intro e4 qe4;refine .c5 [2,3,4,5,6,11,13,15,16] ?_;obtain ⟨hc1,hc2⟩:=hcall pc hpc (by rw[hop];omega);refine c91z ?_;refine .c5 [2,3,4,5,6,11,13,15,16,17] ?_;have hst2:S.getD ((c.calls.getD i []).getD pc 0).toNat []=stS u c mx S i pc:=by unfold stS;rw[if_pos (show (dW u c i pc).op=2 from by rw[hop];omega)];first | done | rfl
     rw[hst2];have hst1:=p.st pc hpc;have hTp:=hP.g.tb.get hpc;obtain ⟨hR,hle⟩:=hP.g.aft p hpc;have hnl:=kD (x:=(c6 u (itI c i)).getD pc g0) (pc:=pc);refine c97z ?_;refine c174z ?_;refine c133z ?_;refine c14z ?_;refine .u0 (fun m st=>∃(T2:List (List Nat)) (a2:Bool) (j:Nat),(m=(n9 ((c6 u (itI c i)).getD pc g0) pc).length-j∧(EH (kM u mx) (c6 u (itI c i)).length (nxI u c i) (stS u c mx S i) T T2 a2 pc (T1.getD pc []) j∧j≤(n9 ((c6 u (itI c i)).getD pc g0) pc).length))∧st=⟨mkS 136 [(2,AV.int .i64 ((mx:Nat):Int)),(3,AV.own A.length g 0 c.insts.length),(4,AV.int .i64 ((i:Nat):Int)),(5,AV.ptr (jT A ⟨g,false,22,1,l9 S,0⟩ R).length 0 0),(6,AV.ptr ((jT A ⟨g,false,22,1,l9 S,0⟩ R).length+1) 0 0),(11,AV.ptr ((jT A ⟨g,false,22,1,l9 S,0⟩ R).length+2) 0 0),(13,AV.own ((jT A ⟨g,false,22,1,l9 S,0⟩ R).length+3) 0 0 (c6 u (itI c i)).length),(15,AV.bool a2),(16,AV.int .i64 ((pc:Nat):Int)),(18,bZ (o5 (T1.getD pc []) (stS u c mx S i pc))),(19,AV.vec (n9 ((c6 u (itI c i)).getD pc g0) pc).length (g6 (n9 ((c6 u (itI c i)).getD pc g0) pc))),(20,AV.int .i64 ((j:Nat):Int))],(jT A ⟨g,false,22,1,l9 S,0⟩ R)++[⟨0,false,30,4,[.vec u.globals.length (g6 u.globals),.vec u.mutexes.length (c9 u.mutexes),.vec u.procs.length (g7 u.procs),.int .i64 u.main],0⟩,⟨0,false,34,3,[.vec c.insts.length (g9 c.insts),.vec c.calls.length (j8 c.calls),.vec c.roots.length (g6 c.roots)],0⟩,⟨0,false,46,2,[.int .i64 (itI c i).proc,.vec (itI c i).j4.length (g6 (itI c i).j4)],0⟩,⟨0,false,22,1,l9 T2,0⟩]⟩) (.v ⟨T1,a1,0,⟨rfl,⟨hP.go,by omega⟩⟩,rfl⟩) ?_;rintro m sl h' ⟨T2,a2,j,⟨hm,⟨hQ,hj⟩⟩,hst⟩;obtain ⟨rfl,rfl⟩:=St.mk.inj hst;clear hst;have hT2:T2.length=(c6 u (itI c i)).length:=hQ.g.tb.1;refine c0z ?_;refine u2z ?_ ?_
     ·intro e5 qe5;refine c2z ?_;obtain ⟨hq1,hq2⟩:=p.nx pc hpc _ (j7 (d:=0) (show j<(nxI u c i pc).length from by show j<(n9 ((c6 u (itI c i)).getD pc g0) pc).length;omega));rw[show nxI u c i pc=(n9 ((c6 u (itI c i)).getD pc g0) pc) from rfl]at hq1 hq2;have hjn:j<(nxI u c i pc).length:=by show j<(n9 ((c6 u (itI c i)).getD pc g0) pc).length;omega
      have hq3:((n9 ((c6 u (itI c i)).getD pc g0) pc).getD j 0).toNat<(c6 u (itI c i)).length:=by omega
      have hRq:=hQ.g.tb.get hq3;refine c108z ?_;refine .n ?_;refine c182z ?_;refine .n ?_;refine u2z ?_ ?_
      ·intro e6 qe6;refine c131z ?_;refine c45z ?_;exact ⟨_,by omega,.v ⟨(T2.set ((n9 ((c6 u (itI c i)).getD pc g0) pc).getD j 0).toNat (cN (T2.getD ((n9 ((c6 u (itI c i)).getD pc g0) pc).getD j 0).toNat []) (o5 (T1.getD pc []) (stS u c mx S i pc)))),true,(j+1),⟨rfl,⟨hQ.grow p hpc hR hle hjn rfl (fun hs=>absurd ((aL hRq hR).2 hs) (by assumption)),by omega⟩⟩,rfl⟩ (he:=t11) (hk:=t33)⟩
      intro e6 qe6;refine c4z ?_;refine c45z ?_;exact ⟨_,by omega,.v ⟨T2,a2,(j+1),⟨rfl,⟨hQ.skip ((aL hRq hR).1 (by assumption)),by omega⟩⟩,rfl⟩ (he:=t11) (hk:=t33)⟩
     intro e5 qe5;refine .exit ?_;obtain rfl:j=(n9 ((c6 u (itI c i)).getD pc g0) pc).length:=by omega
     change c8 ..;refine .rz ?_;exact ⟨_,by omega,.v ⟨T2,a2,(pc+1),⟨rfl,⟨hQ.fin,by omega⟩⟩,rfl⟩ (he:=t11) (hk:=t33)⟩
    intro e4 qe4;refine .sk ?_;refine .c5 [2,3,4,5,6,11,13,15,16,17] ?_;have hst2:dhN (kM u mx) (chI (itI c i) (dW u c i pc) mx)=stS u c mx S i pc:=by unfold stS;rw[if_neg (show ¬(dW u c i pc).op=2 from by rw[hop];omega)];first | done | rfl
    rw[hst2];have hst1:=p.st pc hpc;have hTp:=hP.g.tb.get hpc;obtain ⟨hR,hle⟩:=hP.g.aft p hpc;have hnl:=kD (x:=(c6 u (itI c i)).getD pc g0) (pc:=pc);refine c97z ?_;refine c174z ?_;refine c133z ?_;refine c14z ?_;refine .u0 (fun m st=>∃(T2:List (List Nat)) (a2:Bool) (j:Nat),(m=(n9 ((c6 u (itI c i)).getD pc g0) pc).length-j∧(EH (kM u mx) (c6 u (itI c i)).length (nxI u c i) (stS u c mx S i) T T2 a2 pc (T1.getD pc []) j∧j≤(n9 ((c6 u (itI c i)).getD pc g0) pc).length))∧st=⟨mkS 136 [(2,AV.int .i64 ((mx:Nat):Int)),(3,AV.own A.length g 0 c.insts.length),(4,AV.int .i64 ((i:Nat):Int)),(5,AV.ptr (jT A ⟨g,false,22,1,l9 S,0⟩ R).length 0 0),(6,AV.ptr ((jT A ⟨g,false,22,1,l9 S,0⟩ R).length+1) 0 0),(11,AV.ptr ((jT A ⟨g,false,22,1,l9 S,0⟩ R).length+2) 0 0),(13,AV.own ((jT A ⟨g,false,22,1,l9 S,0⟩ R).length+3) 0 0 (c6 u (itI c i)).length),(15,AV.bool a2),(16,AV.int .i64 ((pc:Nat):Int)),(18,bZ (o5 (T1.getD pc []) (stS u c mx S i pc))),(19,AV.vec (n9 ((c6 u (itI c i)).getD pc g0) pc).length (g6 (n9 ((c6 u (itI c i)).getD pc g0) pc))),(20,AV.int .i64 ((j:Nat):Int))],(jT A ⟨g,false,22,1,l9 S,0⟩ R)++[⟨0,false,30,4,[.vec u.globals.length (g6 u.globals),.vec u.mutexes.length (c9 u.mutexes),.vec u.procs.length (g7 u.procs),.int .i64 u.main],0⟩,⟨0,false,34,3,[.vec c.insts.length (g9 c.insts),.vec c.calls.length (j8 c.calls),.vec c.roots.length (g6 c.roots)],0⟩,⟨0,false,46,2,[.int .i64 (itI c i).proc,.vec (itI c i).j4.length (g6 (itI c i).j4)],0⟩,⟨0,false,22,1,l9 T2,0⟩]⟩) (.v ⟨T1,a1,0,⟨rfl,⟨hP.go,by omega⟩⟩,rfl⟩) ?_;rintro m sl h' ⟨T2,a2,j,⟨hm,⟨hQ,hj⟩⟩,hst⟩;obtain ⟨rfl,rfl⟩:=St.mk.inj hst;clear hst;have hT2:T2.length=(c6 u (itI c i)).length:=hQ.g.tb.1;refine c0z ?_;refine u2z ?_ ?_
    ·intro e7 qe7;refine c2z ?_;obtain ⟨hq1,hq2⟩:=p.nx pc hpc _ (j7 (d:=0) (show j<(nxI u c i pc).length from by show j<(n9 ((c6 u (itI c i)).getD pc g0) pc).length;omega));rw[show nxI u c i pc=(n9 ((c6 u (itI c i)).getD pc g0) pc) from rfl]at hq1 hq2;have hjn:j<(nxI u c i pc).length:=by show j<(n9 ((c6 u (itI c i)).getD pc g0) pc).length;omega
     have hq3:((n9 ((c6 u (itI c i)).getD pc g0) pc).getD j 0).toNat<(c6 u (itI c i)).length:=by omega
     have hRq:=hQ.g.tb.get hq3;refine c108z ?_;refine .n ?_;refine c182z ?_;refine .n ?_;refine u2z ?_ ?_
     ·intro e8 qe8;refine c131z ?_;refine c45z ?_;exact ⟨_,by omega,.v ⟨(T2.set ((n9 ((c6 u (itI c i)).getD pc g0) pc).getD j 0).toNat (cN (T2.getD ((n9 ((c6 u (itI c i)).getD pc g0) pc).getD j 0).toNat []) (o5 (T1.getD pc []) (stS u c mx S i pc)))),true,(j+1),⟨rfl,⟨hQ.grow p hpc hR hle hjn rfl (fun hs=>absurd ((aL hRq hR).2 hs) (by assumption)),by omega⟩⟩,rfl⟩ (he:=t11) (hk:=t33)⟩
     intro e8 qe8;refine c4z ?_;refine c45z ?_;exact ⟨_,by omega,.v ⟨T2,a2,(j+1),⟨rfl,⟨hQ.skip ((aL hRq hR).1 (by assumption)),by omega⟩⟩,rfl⟩ (he:=t11) (hk:=t33)⟩
    intro e7 qe7;refine .exit ?_;obtain rfl:j=(n9 ((c6 u (itI c i)).getD pc g0) pc).length:=by omega
    change c8 ..;refine .rz ?_;exact ⟨_,by omega,.v ⟨T2,a2,(pc+1),⟨rfl,⟨hQ.fin,by omega⟩⟩,rfl⟩ (he:=t11) (hk:=t33)⟩
   intro e3 qe3;refine .exit ?_;obtain rfl:pc=(c6 u (itI c i)).length:=by omega
   have hlt:=LP hk8 hP;exact ⟨_,by omega,.v ⟨T1,a1,⟨rfl,⟨hP.g,fun hf=>by subst hf;exact hP.done p⟩⟩,rfl⟩ (he:=t11) (hk:=t33)⟩
  intro e2 qe2;refine c8z ?_;refine .c5 [13] ?_;refine c24z ?_;exact ⟨_,_,rfl,U7 t25 (by omega) hG.tb.1,by (show _=_;rw[hdone (by assumption)];rfl)⟩
theorem UF (hu:WU u)(wc:WC u c)(hmx:mx<u.mutexes.length)(hS:Tb (kM u mx) c.insts.length S)(hi:i<c.insts.length):CB 136 [.agg [.vec u.globals.length (g6 u.globals),.vec u.mutexes.length (c9 u.mutexes),.vec u.procs.length (g7 u.procs),.int .i64 u.main],.agg [.vec c.insts.length (g9 c.insts),.vec c.calls.length (j8 c.calls),.vec c.roots.length (g6 c.roots)],.int .i64 ((mx:Nat):Int),.vec c.insts.length (l9 S),.int .i64 ((i:Nat):Int)] h (bZ (exT u c mx S i)):=by
  refine .bz Tryz.f136 57 ?_;have w:=bK wc hi;have w1:=w.lo;have w2:=w.hi;have hsz:(c6 u (itI c i)).length≤1664:=n6 hu w;have hwl:=wc.len;have hk8:kM u mx≤8:=eV;have hk9:nS (u.mutexes.getD mx w5)≤8:=hk8;have hml:=hu.ml;have hT:=iP (u:=u) (c:=c) (m:=mx) S i;have hTl:(kG u c mx S i).length=r8 u c i:=hT.1;have hli:r8 u c i≤1664:=hsz;have hlc:r8 u c i=(c6 u (itI c i)).length:=rfl;refine .z ?_;refine c22z ?_;refine .ca rfl rfl ((wQ hu wc hmx hS hi)) ?_;refine .n ?_;refine .c5 [2,4,5,6,11] ?_;refine c203z ?_;refine c35z ?_;refine .c5 [4,5,6,11,12] ?_;refine c8.TZ (t:=12) (γ:=(h.length+2)) (len:=(kM u mx+1)) t25 (by simp) (by omega) (kO (by decide) rfl) ?_;rw[bT];simp only[n4,List.set_cons_succ,List.set_cons_zero];generalize (⟨0,false,3,1,(List.replicate (kM u mx+1) 0).map j9,kM u mx+1⟩:Blk)=Vb;refine c14z ?_;refine .cA (fun m st=>∃(j:Nat),(m=r8 u c i-j∧(j≤r8 u c i))∧st=⟨mkS 57 [(4,AV.int .i64 ((i:Nat):Int)),(5,AV.ptr h.length 0 0),(6,AV.ptr (h.length+1) 0 0),(11,AV.vec (r8 u c i) (l9 (kG u c mx S i))),(12,bZ (U2 u c mx i (kG u c mx S i) j)),(13,AV.int .i64 ((j:Nat):Int))],h++[⟨0,false,30,4,[.vec u.globals.length (g6 u.globals),.vec u.mutexes.length (c9 u.mutexes),.vec u.procs.length (g7 u.procs),.int .i64 u.main],0⟩,⟨0,false,34,3,[.vec c.insts.length (g9 c.insts),.vec c.calls.length (j8 c.calls),.vec c.roots.length (g6 c.roots)],0⟩,Vb]⟩) _ (.v ⟨0,⟨rfl,by omega⟩,rfl⟩ (hs:=t17)) ?_;rintro m sl h' ⟨j,⟨hm,hj⟩,hst⟩;obtain ⟨rfl,rfl⟩:=St.mk.inj hst;have hop:(dW u c i j).op=((c6 u (itI c i)).getD j g0).op:=rfl;refine c0z ?_;refine u2z ?_ ?_
  ·intro e1 qe1;refine c2z ?_;have hTj:=hT.get (i:=j) (by omega);have hEj:=oI (u:=u) (c:=c) (m:=mx) i (kG u c mx S i) j;refine c250z ?_;refine u2z ?_ ?_
   ·intro e2 qe2;refine .c5 [4,5,6,11,12,13] ?_;refine .r ?_;refine .e 5 ?_;refine .ca rfl rfl (C6 _ _ (hTj.lt hk8) (hEj.lt hk8) t204 t156) ?_;refine c25z ?_;refine .rz ?_;exact ⟨_,by omega,.v ⟨(j+1),⟨rfl,by omega⟩,rfl⟩ (hs:=t17)⟩
   intro e2 qe2;refine c4z ?_;refine .c5 [4,5,6,11,12,13] ?_;refine .rz ?_;exact ⟨_,by omega,.v ⟨(j+1),⟨rfl,by omega⟩,rfl⟩ (hs:=t17)⟩
  intro e1 qe1;refine .exit ?_;obtain rfl:j=r8 u c i:=by omega
  change c8 ..;refine .c5 [12] ?_;refine .z ?_;exact .ret (.ex (hq:=by rfl))
theorem c_exitRO {g:Nat}(hu:WU u)(wc:WC u c)(hmx:mx<u.mutexes.length)(hS:Tb (kM u mx) c.insts.length S)(hi:i<c.insts.length):CB 136 [.agg [.vec u.globals.length (g6 u.globals),.vec u.mutexes.length (c9 u.mutexes),.vec u.procs.length (g7 u.procs),.int .i64 u.main],.agg [.vec c.insts.length (g9 c.insts),.vec c.calls.length (j8 c.calls),.vec c.roots.length (g6 c.roots)],.int .i64 ((mx:Nat):Int),.own A.length g 0 c.insts.length,.int .i64 ((i:Nat):Int)] (jT A ⟨g,false,22,1,l9 S,0⟩ R) (bZ (exT u c mx S i)):=by
  refine .bz Tryz.f136 57 ?_;have w:=bK wc hi;have w1:=w.lo;have w2:=w.hi;have hsz:(c6 u (itI c i)).length≤1664:=n6 hu w;have hwl:=wc.len;have hk8:kM u mx≤8:=eV;have hk9:nS (u.mutexes.getD mx w5)≤8:=hk8;have hml:=hu.ml;have hT:=iP (u:=u) (c:=c) (m:=mx) S i;have hTl:(kG u c mx S i).length=r8 u c i:=hT.1;have hli:r8 u c i≤1664:=hsz;have hlc:r8 u c i=(c6 u (itI c i)).length:=rfl;refine .z ?_;refine c22z ?_;refine .ca rfl rfl ((by rw[UE];exact ME hu wc hmx hS hi)) ?_;refine .n ?_;refine .c5 [2,4,5,6,11] ?_;refine c203z ?_;refine c35z ?_;refine .c5 [4,5,6,11,12] ?_;refine c8.TZ (t:=12) (γ:=((jT A ⟨g,false,22,1,l9 S,0⟩ R).length+2)) (len:=(kM u mx+1)) t25 (by simp) (by omega) (kO (by decide) rfl) ?_;rw[bT];simp only[n4,List.set_cons_succ,List.set_cons_zero];generalize (⟨0,false,3,1,(List.replicate (kM u mx+1) 0).map j9,kM u mx+1⟩:Blk)=Vb;refine c14z ?_;refine .cA (fun m st=>∃(j:Nat),(m=r8 u c i-j∧(j≤r8 u c i))∧st=⟨mkS 57 [(4,AV.int .i64 ((i:Nat):Int)),(5,AV.ptr (jT A ⟨g,false,22,1,l9 S,0⟩ R).length 0 0),(6,AV.ptr ((jT A ⟨g,false,22,1,l9 S,0⟩ R).length+1) 0 0),(11,AV.vec (r8 u c i) (l9 (kG u c mx S i))),(12,bZ (U2 u c mx i (kG u c mx S i) j)),(13,AV.int .i64 ((j:Nat):Int))],(jT A ⟨g,false,22,1,l9 S,0⟩ R)++[⟨0,false,30,4,[.vec u.globals.length (g6 u.globals),.vec u.mutexes.length (c9 u.mutexes),.vec u.procs.length (g7 u.procs),.int .i64 u.main],0⟩,⟨0,false,34,3,[.vec c.insts.length (g9 c.insts),.vec c.calls.length (j8 c.calls),.vec c.roots.length (g6 c.roots)],0⟩,Vb]⟩) _ (.v ⟨0,⟨rfl,by omega⟩,rfl⟩ (hs:=t17)) ?_;rintro m sl h' ⟨j,⟨hm,hj⟩,hst⟩;obtain ⟨rfl,rfl⟩:=St.mk.inj hst;have hop:(dW u c i j).op=((c6 u (itI c i)).getD j g0).op:=rfl;refine c0z ?_;refine u2z ?_ ?_
  ·intro e1 qe1;refine c2z ?_;have hTj:=hT.get (i:=j) (by omega);have hEj:=oI (u:=u) (c:=c) (m:=mx) i (kG u c mx S i) j;refine c250z ?_;refine u2z ?_ ?_
   ·intro e2 qe2;refine .c5 [4,5,6,11,12,13] ?_;refine .r ?_;refine .e 5 ?_;refine .ca rfl rfl (C6 _ _ (hTj.lt hk8) (hEj.lt hk8) t204 t156) ?_;refine c25z ?_;refine .rz ?_;exact ⟨_,by omega,.v ⟨(j+1),⟨rfl,by omega⟩,rfl⟩ (hs:=t17)⟩
   intro e2 qe2;refine c4z ?_;refine .c5 [4,5,6,11,12,13] ?_;refine .rz ?_;exact ⟨_,by omega,.v ⟨(j+1),⟨rfl,by omega⟩,rfl⟩ (hs:=t17)⟩
  intro e1 qe1;refine .exit ?_;obtain rfl:j=r8 u c i:=by omega
  change c8 ..;refine .c5 [12] ?_;refine .z ?_;exact .ret (.ex (hq:=by rfl))
end Go.Proofs.YtonbocmibeikmaaGreat
end
section
namespace Go.Proofs.YtonbocmibeikmaaGreat
open Go.Ab Go.Un
variable {h:c7}{T:List (List Nat)}{g n:Nat}
theorem tQ {l:c7}{b0 b1:Blk}{r:List Nat}(hn:T.length=n)(hl:n<100000):j6 cfg 22 (h++(b0::b1::p9 22 1 g (l9 T)::⟨0,false,22,1,[.vec r.length (r.map j9)],0⟩::l)) (.own (h.length+2) g 0 n) (.own (h.length+3) 0 0 1)=some (.own (h.length+2) (g+1) 0 (n+1),h++(b0::b1::p9 22 1 (g+1) (l9 (T++[r]))::⟨0,false,22,1,[.vec r.length (r.map j9)],0⟩::l)):=by subst hn;rw[u7 (C:=cfg) (K:=1) (m:=1) (new:=[.vec r.length (r.map j9)]) (zs:=l9 T) t25 rfl (by omega) (by simp[l9]) rfl (by omega) t116 rfl (by decide) (by omega),n4,show l9 T++[AV.vec r.length (r.map j9)]=l9 (T++[r]) from by simp[l9,bZ]];rfl
theorem tR {l:c7}{b0 b1 b3:Blk}{k:Nat}(hn:T.length=n)(hl:n<100000):j6 cfg 22 (h++(b0::b1::p9 22 1 g (l9 T)::b3::⟨0,false,22,1,[.own (h.length+3) 0 0 k],0⟩::l)) (.own (h.length+2) g 0 n) (.own (h.length+4) 0 0 1)=some (.own (h.length+2) (g+1) 0 (n+1),h++(b0::b1::⟨g+1,false,22,1,l9 T++[.own (h.length+3) 0 0 k],0⟩::b3::⟨0,false,22,1,[.own (h.length+3) 0 0 k],0⟩::l)):=by subst hn;rw[u7 (C:=cfg) (K:=1) (m:=1) (new:=[.own (h.length+3) 0 0 k]) (zs:=l9 T) t25 rfl (by omega) (by simp[l9]) rfl (by omega) t116 rfl (by decide) (by omega),n4,cP (zs:=l9 T++[AV.own (h.length+3) 0 0 k]) (by simp)];rfl
variable {l:List Int}
theorem C9 {a:Nat}:List.take (l.length-a) (List.drop a (g6 l))=g6 (l.drop a):=by unfold g6;rw[←List.map_drop,List.take_of_length_le (by simp)]
theorem c8.seenG {c:Code}{sl:List AV}{H:c7}{Q:Exit→St→Prop}{β γ len e e' g:Nat}{A R:List AV}{zs:List Nat}(hβ:H[β]?=some ⟨g,false,e,1,A++.own γ 0 0 len::R,0⟩)(hγ:H[γ]?=some ⟨0,false,e',1,zs.map j9,0⟩)(hz:zs.length=len)(hne:β≠γ)
    (r:c8 Tryz.prog cfg c ⟨sl,(H.set γ ⟨0,false,e',1,zs.map j9,len⟩).set β ⟨g,false,e,1,A++.vec len (zs.map j9)::R,0⟩⟩ Q):c8 Tryz.prog cfg c ⟨sl,H⟩ Q:=by
  subst hz;refine c8.H6 (γ:=γ) (β:=β) (k:=A.length) (off:=0) (len:=zs.length) (cs:=zs.map j9) hγ rfl (by simp) ?_ hβ hne (by simp) ?_
  · show r6 oY (List.take (zs.length*1) (List.drop 0 (zs.map j9)))=_
    rw[List.drop_zero,Nat.mul_one,List.take_of_length_le (by simp)];exact (O8 zs).VK
  · have e1:dH ⟨0,false,e',1,zs.map j9,0⟩ (0+zs.length*1)=⟨0,false,e',1,zs.map j9,zs.length⟩:=by simp only[dH,Nat.zero_add,Nat.mul_one,Nat.zero_max]
    have e2:(A++AV.own γ 0 0 zs.length::R).set A.length (.vec zs.length (zs.map j9))=A++.vec zs.length (zs.map j9)::R:=by simp
    show c8 Tryz.prog cfg c ⟨sl,(H.set γ (dH ⟨0,false,e',1,zs.map j9,0⟩ (0+zs.length*1))).set β ⟨g,false,e,1,(A++AV.own γ 0 0 zs.length::R).set A.length (.vec zs.length (zs.map j9)),0⟩⟩ Q;rw[e1,e2];exact r
theorem UG {k:Nat}:(⟨g,false,22,1,l9 T++[AV.vec (k+1) ((List.replicate (k+1) 0).map j9)],0⟩:Blk)=p9 22 1 g (l9 (T++[List.replicate (k+1) 0])):=by rw[cP (by simp[l9])];simp[l9,bZ]
theorem Dt {β len:Nat}{H:c7}{a:List (List Nat)}(hb:H[β]?=some (p9 22 1 g (l9 a)))(hn:n≤β)(hl:a.length=len)(hp:0<len):iL n H 6 (.own β g 0 len)=some (.vec len (l9 a)):=by rw[cP (by intro h0;have:=congrArg List.length h0;rw[u5]at this;replace this:=s6z this;omega)]at hb;exact U7 hb hn hl
def Ff (u:Un)(c:Clo)(mx:Nat)(l:List Int):List (List Nat):=(List.range c.insts.length).map fun i=>XG (l.drop (min l.length (i*(kM u mx+1)))) (kM u mx)
variable {u:Un}{c:Clo}{mx:Nat}
theorem tabT_tb:Tb (kM u mx) c.insts.length (Ff u c mx l):=by refine ⟨by simp[Ff],fun r hr=>?_⟩;obtain ⟨i,_,rfl⟩:=List.mem_map.1 hr;refine ⟨KX _ _,fun x hx=>?_⟩;obtain ⟨d,_,rfl⟩:=List.mem_map.1 hx;exact relV_lt _ _ _
theorem tab_snoc {i:Nat}(hi:i<c.insts.length):(Ff u c mx l).take i++[XG (l.drop (min l.length (i*(kM u mx+1)))) (kM u mx)]=(Ff u c mx l).take (i+1):=by
  have hl:i<(Ff u c mx l).length:=by rw[tabT_tb.1];exact hi
  rw[List.take_add_one,List.getElem?_eq_getElem hl];simp[Ff]
theorem UH {i:Nat}{S:List (List Nat)}(hi:i<c.insts.length):(yE u c mx S).take i++[exT u c mx S i]=(yE u c mx S).take (i+1):=by
  have hl:i<(yE u c mx S).length:=by rw[(jR S).1];exact hi
  rw[List.take_add_one,List.getElem?_eq_getElem hl];simp[yE]
theorem UI (h:T.length=n):T.take n=T:=List.take_of_length_le (by omega)
attribute [local go_sem] rd bZ w6 aN u4 p8 l8 dK u5 Int.natCast_nonneg Int.natCast_inj dE jC iD jD lO oK C5 wN iQ wO V0 lH pZ rV oL List.length_set List.length_replicate Int.toNat_natCast_add_one kV wrap64 L7 List.length_map kH jF qG tQ tR C9 iQ
theorem UJ (hu:WU u)(wc:WC u c)(hmx:mx<u.mutexes.length):CB 93 [.agg [.vec u.globals.length (g6 u.globals),.vec u.mutexes.length (c9 u.mutexes),.vec u.procs.length (g7 u.procs),.int .i64 u.main],.agg [.vec c.insts.length (g9 c.insts),.vec c.calls.length (j8 c.calls),.vec c.roots.length (g6 c.roots)],.int .i64 ((mx:Nat):Int)] h (.vec c.insts.length (l9 (sF u c mx))):=by
  refine .bz Tryz.f93 28 ?_;have hwl:=wc.len;have hk8:kM u mx≤8:=eV;have hk9:nS (u.mutexes.getD mx w5)≤8:=hk8;have hml:=hu.ml;refine c60z ?_;refine c8.sB 7 rfl ?_;refine .u0 (fun m st=>∃(i:Nat),(m=c.insts.length-i∧(i≤c.insts.length))∧st=⟨mkS 28 [(2,AV.int .i64 ((mx:Nat):Int)),(3,AV.ptr h.length 0 0),(4,AV.ptr (h.length+1) 0 0),(7,AV.own (h.length+2) i 0 i),(8,AV.int .i64 ((i:Nat):Int))],h++[⟨0,false,30,4,[.vec u.globals.length (g6 u.globals),.vec u.mutexes.length (c9 u.mutexes),.vec u.procs.length (g7 u.procs),.int .i64 u.main],0⟩,⟨0,false,34,3,[.vec c.insts.length (g9 c.insts),.vec c.calls.length (j8 c.calls),.vec c.roots.length (g6 c.roots)],0⟩,p9 22 1 i (l9 (List.replicate i (List.replicate (kM u mx+1) 0)))]⟩) (.v ⟨0,⟨rfl,by omega⟩,rfl⟩ (hs:=t14)) ?_;rintro m sl h' ⟨i,⟨hm,hi⟩,hst⟩;obtain ⟨rfl,rfl⟩:=St.mk.inj hst;clear hst;have hrl:(List.replicate i (List.replicate (kM u mx+1) 0)).length=i:=List.length_replicate;refine c0z ?_;refine u2z ?_ ?_
  ·intro e1 qe1;refine c2z ?_;refine .r ?_;refine .e 6 ?_;refine .ca rfl rfl (MC u mx) ?_;refine c25z ?_;refine .c5 [2,3,4,7,8] ?_;refine c8.seenG (β:=h.length+2) (γ:=h.length+3) (g:=i+1) (A:=l9 (List.replicate i (List.replicate (kM u mx+1) 0))) (R:=[]) (zs:=(List.replicate (kM u mx+1) 0)) (len:=kM u mx+1) t25 t25 (by simp) (by omega) ?_;refine c13z ?_;exact ⟨_,by omega,.v ⟨(i+1),⟨rfl,by omega⟩,rfl⟩ (he:=by (rw[UG,←List.replicate_succ'];simp only[List.append_assoc,List.cons_append,List.nil_append];rfl)) (hk:=t95) (hs:=t14)⟩
  intro e1 qe1;refine .exit ?_;obtain rfl:i=c.insts.length:=by omega
  change c8 ..;refine .c5 [7] ?_;refine c24z ?_;exact ⟨_,_,rfl,Dt t25 (by omega) hrl (by omega),by rfl⟩
theorem UK (hu:WU u)(wc:WC u c)(hmx:mx<u.mutexes.length){S:List (List Nat)}(hS:Tb (kM u mx) c.insts.length S):CB 94 [.agg [.vec u.globals.length (g6 u.globals),.vec u.mutexes.length (c9 u.mutexes),.vec u.procs.length (g7 u.procs),.int .i64 u.main],.agg [.vec c.insts.length (g9 c.insts),.vec c.calls.length (j8 c.calls),.vec c.roots.length (g6 c.roots)],.int .i64 ((mx:Nat):Int),.vec c.insts.length (l9 S)] h (.vec c.insts.length (l9 (yE u c mx S))):=by
  refine .bz Tryz.f94 27 ?_;have hwl:=wc.len;have hk8:kM u mx≤8:=eV;have hk9:nS (u.mutexes.getD mx w5)≤8:=hk8;have hml:=hu.ml;have hSl:=hS.1;refine c60z ?_;refine c8.sB 9 rfl ?_;refine .u0 (fun m st=>∃(i:Nat),(m=c.insts.length-i∧(i≤c.insts.length))∧st=⟨mkS 27 [(2,AV.int .i64 ((mx:Nat):Int)),(3,AV.vec c.insts.length (l9 S)),(4,AV.ptr h.length 0 0),(5,AV.ptr (h.length+1) 0 0),(9,AV.own (h.length+2) i 0 i),(10,AV.int .i64 ((i:Nat):Int))],h++[⟨0,false,30,4,[.vec u.globals.length (g6 u.globals),.vec u.mutexes.length (c9 u.mutexes),.vec u.procs.length (g7 u.procs),.int .i64 u.main],0⟩,⟨0,false,34,3,[.vec c.insts.length (g9 c.insts),.vec c.calls.length (j8 c.calls),.vec c.roots.length (g6 c.roots)],0⟩,p9 22 1 i (l9 ((yE u c mx S).take i))]⟩) (.v ⟨0,⟨rfl,by omega⟩,rfl⟩ (hs:=t14)) ?_;rintro m sl h' ⟨i,⟨hm,hi⟩,hst⟩;obtain ⟨rfl,rfl⟩:=St.mk.inj hst;clear hst;have hrl:((yE u c mx S).take i).length=i:=by rw[List.length_take,(jR S).1];omega
  refine c0z ?_;refine u2z ?_ ?_
  ·intro e1 qe1;refine c2z ?_;refine .r ?_;refine .e 6 ?_;refine .ca rfl rfl (UF hu wc hmx hS (show i<c.insts.length by omega)) ?_;refine c25z ?_;refine .c5 [2,3,4,5,9,10] ?_;refine .rz ?_;exact ⟨_,by omega,.v ⟨(i+1),⟨rfl,by omega⟩,rfl⟩ (he:=by (rw[UH (by omega)];simp only[List.append_assoc,List.cons_append,List.nil_append];rfl)) (hk:=t95) (hs:=t14)⟩
  intro e1 qe1;refine .exit ?_;obtain rfl:i=c.insts.length:=by omega
  rw[UI (jR S).1];change c8 ..;refine .c5 [9] ?_;refine c24z ?_;exact ⟨_,_,rfl,Dt t25 (by omega) (jR S).1 (by omega),by rfl⟩
theorem BL {m:Nat}{a b:List (List Nat)}(ha:a.length=n)(hb:b.length=m)(hl:n<1000000)(hr:∀r∈a,r.length<100000):CB 33 [.vec n (l9 a),.vec m (l9 b)] h (.bool (decide (a=b))):=by subst ha hb;exact c_sameT (n:=0) a b hl hr
theorem Dv (hu:WU u)(wc:WC u c)(hmx:mx<u.mutexes.length):CB 56 [.agg [.vec u.globals.length (g6 u.globals),.vec u.mutexes.length (c9 u.mutexes),.vec u.procs.length (g7 u.procs),.int .i64 u.main],.agg [.vec c.insts.length (g9 c.insts),.vec c.calls.length (j8 c.calls),.vec c.roots.length (g6 c.roots)],.int .i64 ((mx:Nat):Int)] h (.vec c.insts.length (l9 (bR u c mx))):=by
  refine .bz Tryz.f56 23 ?_;have hwl:=wc.len;have hk8:kM u mx≤8:=eV;have hk9:nS (u.mutexes.getD mx w5)≤8:=hk8;have hml:=hu.ml;refine c87z ?_;refine .ca rfl rfl (UJ hu wc hmx) ?_;refine c135z ?_;refine .cA (fun m st=>∃(Sx:List (List Nat)),(m=4608*c.insts.length-tot Sx∧(Low u c mx Sx))∧st=⟨mkS 23 [(2,AV.int .i64 ((mx:Nat):Int)),(3,AV.ptr h.length 0 0),(4,AV.ptr (h.length+1) 0 0),(7,AV.vec c.insts.length (l9 Sx))],h++[⟨0,false,30,4,[.vec u.globals.length (g6 u.globals),.vec u.mutexes.length (c9 u.mutexes),.vec u.procs.length (g7 u.procs),.int .i64 u.main],0⟩,⟨0,false,34,3,[.vec c.insts.length (g9 c.insts),.vec c.calls.length (j8 c.calls),.vec c.roots.length (g6 c.roots)],0⟩]⟩) _ (.v ⟨(sF u c mx),⟨rfl,Low.zero⟩,rfl⟩) ?_;rintro m sl h' ⟨Sx,⟨hm,hL⟩,hst⟩;obtain ⟨rfl,rfl⟩:=St.mk.inj hst;have hSl:=hL.tb.1;have hRl:=(jR (u:=u) (c:=c) (m:=mx) Sx).1;refine .block ?_;refine c28z ?_;refine .ca rfl rfl (UK hu wc hmx hL.tb) ?_;refine c35z ?_;refine c31z ?_;refine .ca rfl rfl (BL hSl hRl (by omega) (fun r hr=>by have:=(hL.tb.2 r hr).1;omega)) ?_;refine .nil ?_;refine u2z ?_ ?_
  ·intro e1 qe1;refine .c5 [7] ?_;refine .z ?_;exact .ret (.ex (hq:=by (rw[hL.done hu wc (Eq.symm (by assumption))])))
  intro e1 qe1;refine .sk ?_;refine .c5 [2,3,4,8] ?_;refine .rz ?_;have hgr:=hL.grow hu wc (by assumption);exact ⟨_,by omega,.v ⟨(yE u c mx Sx),⟨rfl,(hL.round hu wc).1⟩,rfl⟩⟩
end Go.Proofs.YtonbocmibeikmaaGreat
end
section
namespace Go.Un
open Go.Ab
section
variable (u:Un)(c:Clo)(m:Nat)
structure EN (E:List Nat):Prop where
 es:Es u c m E
 le:Sub E (gU u c m)
 rt:∀i:Nat,(i:Int)∈c.roots→bt E i 0=true
structure sH (E:List Nat)(j:Nat):Prop where
 es:Es u c m E
 le:Sub E (gU u c m)
 rt:∀k,k<j→bt E (c.roots.getD k 0).toNat 0=true
 z:∀i:Nat,(i:Int)∉c.roots→E.getD i 0=0
noncomputable def qH (E:List Nat)(i pc:Nat):Nat:=applyN ((inS u c m i).getD pc []) (E.getD i 0)
def qI:List Nat:=c.roots.map Int.toNat
def wE (E:List Nat)(l:Nat):Nat:=2*(512*c.insts.length-E.sum)+l
structure NU (E:List Nat)(todo:List Nat):Prop where
 g:EN u c m E
 td:∀i∈todo,i<c.insts.length
 cl:∀i,i<c.insts.length→i∉todo→∀pc,pc<r8 u c i→ClE u c m E i pc
structure NV (i w0:Nat)(E:List Nat)(todo:List Nat)(j:Nat):Prop where
 g:EN u c m E
 td:∀x∈todo,x<c.insts.length
 cl:∀x,x<c.insts.length→x∉todo→x≠i→∀pc,pc<r8 u c x→ClE u c m E x pc
 ci:i∉todo→∀pc,pc<j→ClE u c m E i pc
 wt:wE c E todo.length≤w0
structure M3 (E0 E:List Nat)(again:Bool)(i j:Nat):Prop where
 g:EN u c m E
 mo:E0.sum≤E.sum
 up:again=true→E0.sum<E.sum
 no:again=false→E=E0∧(∀x,x<i→∀pc,pc<r8 u c x→ClE u c m E x pc)∧∀pc,pc<j→ClE u c m E i pc
def mEnt (E:List Nat)(again:Bool):Nat:=if again then 512*c.insts.length-E.sum+1 else 0
end
section
variable {u:Un}{c:Clo}{m:Nat}
variable {j:Nat}
theorem D0:(1:Nat).testBit j=true↔j=0:=by
 cases j with
 | zero=>simp
 | succ j=>simp[Nat.testBit_succ]
theorem XL:1<2^(kM u m+1):=by have:=Nat.one_lt_two_pow (n:=kM u m+1) (by omega);exact this
theorem root_at (wc:WC u c)(hj:j<c.roots.length):((c.roots.getD j 0).toNat:Int)=c.roots.getD j 0∧(c.roots.getD j 0).toNat<c.insts.length∧(((c.roots.getD j 0).toNat:Nat):Int)∈c.roots:=by
 have h1:c.roots.getD j 0∈c.roots:=j7 hj;have h2:=wc.rr _ h1;have h3:((c.roots.getD j 0).toNat:Int)=c.roots.getD j 0:=by omega
 exact ⟨h3,by omega,by rw[h3];exact h1⟩
theorem sH.start:sH u c m (List.replicate c.insts.length 0) 0:=
 ⟨Es.zero,fun i d h=>(by rw[wB]at h;cases h),fun k hk=>by omega,fun i _=>(by simp only[List.getD,List.getElem?_replicate];split<;>rfl)⟩
variable {E:List Nat}
theorem sH.next (hu:WU u)(wc:WC u c)(h:sH u c m E j)(hj:j<c.roots.length):sH u c m (E.set (c.roots.getD j 0).toNat 1) (j+1):=by
 obtain ⟨h1,h2,h3⟩:=root_at wc hj;have hl:(c.roots.getD j 0).toNat<E.length:=by rw[h.es.1];exact h2
 refine ⟨h.es.set XL,fun i d hb=>?_,fun k hk=>?_,fun i hi=>?_⟩
 ·rw[yF hl]at hb;split at hb
  ·rename_i e;subst e;rw[D0]at hb;subst hb;exact (jS hu wc).2 (.root h3)
  ·exact h.le i d hb
 ·rw[yF hl];split
  ·exact D0.2 rfl
  ·rename_i hne;rcases Nat.lt_succ_iff_lt_or_eq.1 hk with hk | rfl
   ·exact h.rt k hk
   ·exact absurd rfl hne
 ·have hne:(c.roots.getD j 0).toNat≠i:=fun e=>by subst e;exact hi h3
  rw[List.getD_eq_getElem?_getD,List.getElem?_set_ne hne,←List.getD_eq_getElem?_getD];exact h.z i hi
theorem sH.all (wc:WC u c)(h:sH u c m E c.roots.length):EN u c m E:=by refine ⟨h.es,h.le,fun i hi=>?_⟩;obtain ⟨k,hk,he⟩:=List.getElem_of_mem hi;have:=h.rt k hk;rw[show c.roots.getD k 0=c.roots[k] from by simp[List.getD,hk],he]at this;simpa using this
variable {i:Nat}
theorem yH (wc:WC u c):i∈qI c↔(i:Int)∈c.roots:=by
 unfold qI;constructor
 ·intro h;obtain ⟨r,hr,rfl⟩:=List.mem_map.1 h;have:=wc.rr r hr;rwa[show ((r.toNat:Nat):Int)=r from by omega]
 ·intro h;exact List.mem_map.2 ⟨_,h,by simp⟩
theorem V1 (wc:WC u c):g6 c.roots=(qI c).map j9:=by unfold qI g6;rw[List.map_map];refine List.map_congr_left fun r hr=>?_;have:=wc.rr r hr;show AV.int .i64 r=j9 r.toNat;rw[j9,show ((r.toNat:Nat):Int)=r from by omega]
theorem yI:(qI c).length=c.roots.length:=by simp[qI]
theorem rX {r:List Nat}:∀n,cD r 0 n=0
 | 0=>rfl
 | n+1=>by rw[KW (by simp)];exact rX n
theorem NU.start (wc:WC u c)(h:sH u c m E c.roots.length):NU u c m E (qI c):=by
 refine ⟨h.all wc,fun i hi=>?_,fun i hi hn pc hp ho j hj=>?_⟩
 ·have:=wc.rr _ ((yH wc).1 hi);omega
 ·have h0:=h.z i (fun hm=>hn ((yH wc).2 hm));rw[h0]at hj;rw[show applyN ((inS u c m i).getD pc []) 0=0 from rX _]at hj;simp at hj
variable {todo:List Nat}
theorem NU.pop (h:NU u c m E (todo++[i])):i<c.insts.length∧NV u c m i (wE c E todo.length) E todo 0:=by refine ⟨h.td i (by simp),h.g,fun x hx=>h.td x (by simp[hx]),fun x hx hn hne=>h.cl x hx (by simp[hn,hne]),fun _ pc hp=>by omega,Nat.le_refl _⟩
variable {pc k:Nat}
theorem ClE.grow {y:Nat}(hc:ClE u c m E i pc)(hk:k<E.length)(hne:i≠k)(hy:∀j,bt E k j=true→y.testBit j=true):ClE u c m (E.set k y) i pc:=fun ho j hj=>by
 rw[List.getD_eq_getElem?_getD (l:=E.set k y),List.getElem?_set_ne (Ne.symm hne),←List.getD_eq_getElem?_getD]at hj;have h1:=hc ho j hj;rw[yF hk];split
 ·rename_i e;rw[e]at h1;exact hy j h1
 ·exact h1
theorem EN.set (hu:WU u)(wc:WC u c)(h:EN u c m E)(hi:i<c.insts.length)(hp:pc<r8 u c i)(ho:(dW u c i pc).op=2) :
  EN u c m (E.set (eN c i pc) (E.getD (eN c i pc) 0|||qH u c m E i pc)):=by
 have hk:=iE hu wc hi hp ho;have hl:eN c i pc<E.length:=by rw[h.es.1];exact hk
 refine ⟨h.es.set (Nat.or_lt_two_pow (h.es.get _) (jE ((wK i).get hp) _)),fun x d hb=>?_,fun x hx=>?_⟩
 ·rw[yF hl]at hb;split at hb
  ·rename_i e;subst e;rw[Nat.testBit_or,Bool.or_eq_true]at hb;rcases hb with hb | hb
   ·exact h.le _ d hb
   ·obtain ⟨d0,k1,k2⟩:=(U6 hu wc hi hp).1 hb;exact (jS hu wc).2 (.call ((jS hu wc).1 (h.le _ _ k1)) k2 ho)
  ·exact h.le x d hb
 ·rw[yF hl];split
  ·rename_i e;subst e;rw[Nat.testBit_or,Bool.or_eq_true];exact .inl (h.rt _ hx)
  ·exact h.rt x hx
variable {x:Nat}
theorem EN.up (h:EN u c m E)(hk:k<c.insts.length)(hx:x<2^(kM u m+1))(hne:¬∀j,x.testBit j=true→bt E k j=true):E.sum<(E.set k (E.getD k 0|||x)).sum∧(E.set k (E.getD k 0|||x)).sum≤512*c.insts.length:=by
 refine ⟨TQ (by rw[h.es.1];exact hk) (fun j hj=>?_) (fun he=>hne fun j hj=>?_),XJ (h.es.set (Nat.or_lt_two_pow (h.es.get _) hx))⟩
 ·rw[Nat.testBit_or,Bool.or_eq_true];exact .inl hj
 ·have:=congrArg (fun n=>n.testBit j) he;simp only[Nat.testBit_or]at this;unfold bt;rw[this,hj,Bool.or_true]
theorem or_in {a:Nat}(h:a.testBit j=true):(a|||x).testBit j=true:=by rw[Nat.testBit_or,h,Bool.true_or]
theorem or_same:(E.getD k 0|||x)=E.getD k 0↔∀j,x.testBit j=true→bt E k j=true:=by
 constructor
 ·intro h j hj;have:=congrArg (fun n=>n.testBit j) h;simp only[Nat.testBit_or]at this;unfold bt;rw[←this,hj,Bool.or_true]
 ·intro h;refine oG fun j=>?_;rw[Nat.testBit_or,Bool.or_eq_true];exact ⟨fun hj=>hj.elim id (h j),.inl⟩
variable {w0:Nat}
theorem NV.skip (h:NV u c m i w0 E todo j)(hs:(dW u c i j).op=2→∀q,(qH u c m E i j).testBit q=true→bt E (eN c i j) q=true):NV u c m i w0 E todo (j+1):=
 ⟨h.g,h.td,h.cl,fun hn pc hp=>by
  rcases Nat.lt_succ_iff_lt_or_eq.1 hp with hp | rfl
  ·exact h.ci hn pc hp
  ·exact hs,h.wt⟩
theorem NV.grow (hu:WU u)(wc:WC u c)(h:NV u c m i w0 E todo j)(hi:i<c.insts.length)(hj:j<r8 u c i)(ho:(dW u c i j).op=2)(hne:¬∀q,(qH u c m E i j).testBit q=true→bt E (eN c i j) q=true) :
  NV u c m i w0 (E.set (eN c i j) (E.getD (eN c i j) 0|||qH u c m E i j)) (todo++[eN c i j]) (j+1):=by
 have hk:=iE hu wc hi hj ho;have hl:eN c i j<E.length:=by rw[h.g.es.1];exact hk
 have hx:=jE (s:=E.getD i 0) ((wK (u:=u) (c:=c) (m:=m) i).get hj);obtain ⟨s1,s2⟩:=h.g.up hk hx hne;have hw:=h.wt;refine ⟨h.g.set hu wc hi hj ho,fun x hx=>?_,fun x hx hn hxi pc hp=>?_,fun hn pc hp=>?_,?_⟩
 ·rcases List.mem_append.1 hx with hx | hx
  ·exact h.td x hx
  ·rw[List.mem_singleton.1 hx];exact hk
 ·simp only[List.mem_append,List.mem_singleton,not_or]at hn;exact (h.cl x hx hn.1 hxi pc hp).grow hl hn.2 fun q hq=>or_in hq
 ·simp only[List.mem_append,List.mem_singleton,not_or]at hn;rcases Nat.lt_succ_iff_lt_or_eq.1 hp with hp | rfl
  ·exact (h.ci hn.1 pc hp).grow hl hn.2 fun q hq=>or_in hq
  ·intro _ q hq;rw[List.getD_eq_getElem?_getD (l:=E.set _ _),List.getElem?_set_ne (Ne.symm hn.2),←List.getD_eq_getElem?_getD]at hq;rw[yF hl,if_pos rfl,Nat.testBit_or,Bool.or_eq_true];exact .inr hq
 ·unfold wE at hw ⊢;rw[List.length_append,List.length_singleton];unfold qH;omega
theorem NV.fin (h:NV u c m i w0 E todo (r8 u c i)):NU u c m E todo:=
 ⟨h.g,h.td,fun x hx hn pc hp=>by
  by_cases e:x=i
  ·subst e;exact h.ci hn pc hp
  ·exact h.cl x hx hn e pc hp⟩
theorem EN.done (hu:WU u)(wc:WC u c)(h:EN u c m E)(hc:∀i pc,i<c.insts.length→pc<r8 u c i→ClE u c m E i pc):E=gU u c m:=ent_eq hu wc h.es h.le h.rt hc
theorem NU.done (hu:WU u)(wc:WC u c)(h:NU u c m E []):E=gU u c m:=h.g.done hu wc fun i pc hi hp=>h.cl i hi (by simp) pc hp
theorem M3.start (h:EN u c m E):M3 u c m E E false 0 0:=⟨h,Nat.le_refl _,fun e=>(by cases e),fun _=>⟨rfl,fun x hx=>by omega,fun pc hp=>by omega⟩⟩
variable {E0:List Nat}{again:Bool}
theorem M3.skip (h:M3 u c m E0 E again i j)(hs:(dW u c i j).op=2→∀q,(qH u c m E i j).testBit q=true→bt E (eN c i j) q=true):M3 u c m E0 E again i (j+1):=
 ⟨h.g,h.mo,h.up,fun e=>⟨(h.no e).1,(h.no e).2.1,fun pc hp=>by
  rcases Nat.lt_succ_iff_lt_or_eq.1 hp with hp | rfl
  ·exact (h.no e).2.2 pc hp
  ·exact hs⟩⟩
theorem M3.grow (hu:WU u)(wc:WC u c)(h:M3 u c m E0 E again i j)(hi:i<c.insts.length)(hj:j<r8 u c i)(ho:(dW u c i j).op=2)(hne:¬∀q,(qH u c m E i j).testBit q=true→bt E (eN c i j) q=true) :
  M3 u c m E0 (E.set (eN c i j) (E.getD (eN c i j) 0|||qH u c m E i j)) true i (j+1):=by
 have hx:=jE (s:=E.getD i 0) ((wK (u:=u) (c:=c) (m:=m) i).get hj);obtain ⟨s1,s2⟩:=h.g.up (iE hu wc hi hj ho) hx hne;have:=h.mo;exact ⟨h.g.set hu wc hi hj ho,by unfold qH;omega,fun _=>by unfold qH;omega,fun e=>(by cases e)⟩
theorem M3.fin (h:M3 u c m E0 E again i (r8 u c i)):M3 u c m E0 E again (i+1) 0:=
 ⟨h.g,h.mo,h.up,fun e=>⟨(h.no e).1,fun x hx pc hp=>by
  rcases Nat.lt_succ_iff_lt_or_eq.1 hx with hx | rfl
  ·exact (h.no e).2.1 x hx pc hp
  ·exact (h.no e).2.2 pc hp,fun pc hp=>by omega⟩⟩
theorem M3.done (hu:WU u)(wc:WC u c)(h:M3 u c m E0 E false c.insts.length 0):E=gU u c m:=h.g.done hu wc fun i pc hi hp=>(h.no rfl).2.1 i hi pc hp
theorem mEnt_lt (h:M3 u c m E0 E again i j):mEnt c E again<mEnt c E0 true:=by
 have h1:=XJ h.g.es;have h2:=h.mo;unfold mEnt;cases again with
 | false=>simp
 | true=>have:=h.up rfl;simp;omega
variable {d:Nat}
theorem UL (hu:WU u)(wc:WC u c)(hi:i<c.insts.length):((gC u c m i).getD 0 0).testBit d=true↔∃d0,LJ u c m i d0∧Inn u c m i 0 d0 d:=wL hu wc hi (dC hu (bK wc hi)).1
theorem MF (hu:WU u)(wc:WC u c)(hi:i<c.insts.length)(h:bt (gU u c m) i d=true):((gC u c m i).getD 0 0).testBit d=true:=by have h1:=(jS hu wc).1 h;exact (UL hu wc hi).2 ⟨d,h1,.start (h1.lt hu wc).2⟩
theorem BM (hu:WU u)(wc:WC u c)(hi:i<c.insts.length)(hp:pc<r8 u c i){q:Int}(hq:q∈nxI u c i pc){e:Nat}(he:(applyN (stS u c m (bR u c m) i pc) ((gC u c m i).getD pc 0)).testBit e=true):((gC u c m i).getD q.toNat 0).testBit e=true:=by
 have hpro:=LC (m:=m) hu wc s4 hi;obtain ⟨f,h1,h2⟩:=(wJ (hpro.st pc hp)).1 he;obtain ⟨d,k1,k2⟩:=(wL hu wc hi hp).1 h1;have hq2:=hpro.nx pc hp q hq;refine (wL hu wc hi (by omega)).2 ⟨d,k1,?_⟩;unfold stS at h2;split at h2
 ·rename_i ho;obtain ⟨p',h3,h4,h5⟩:=(mM hu wc (iE hu wc hi hp ho)).1 h2;exact .call k2 ho h5 h4 hq
 ·rename_i ho;exact .step k2 ho h2 hq
theorem V2 (hi:i<c.insts.length):(wX u c m).getD i 0=applyN ((bR u c m).getD i []) ((gU u c m).getD i 0):=by simp[wX,List.getD,hi]
end
section
variable {u:Un}{c:Clo}{m:Nat}
variable {x d:Nat}
theorem UM (hu:WU u)(wc:WC u c):bt (gU u c m) x d=true↔((x:Int)∈c.roots∧d=0)∨∃i pc,i<c.insts.length∧pc<r8 u c i∧(dW u c i pc).op=2∧eN c i pc=x∧((gC u c m i).getD pc 0).testBit d=true:=by
 rw[jS hu wc];constructor
 ·intro h;cases h with
  | root h=>exact .inl ⟨h,rfl⟩
  | call h1 h2 h3=>
   have hi:=(h1.lt hu wc).1;have hp:=(h2.lt hu wc hi).1;exact .inr ⟨_,_,hi,hp,h3,rfl,(wL hu wc hi hp).2 ⟨_,h1,h2⟩⟩
 ·rintro (⟨h,rfl⟩ | ⟨i,pc,hi,hp,ho,rfl,hb⟩)
  ·exact .root h
  ·obtain ⟨d0,h1,h2⟩:=(wL hu wc hi hp).1 hb;exact .call h1 h2 ho
def sI (c:Clo)(x w j:Nat):Prop:=(w=0∨w=1)∧(w=1↔∃k,k<j∧c.roots.getD k 0=(x:Int))
theorem sI.start:sI c x 0 0:=⟨.inl rfl,⟨fun h=>by omega,fun ⟨k,h,_⟩=>by omega⟩⟩
variable {w j:Nat}
theorem sI.hit (h:sI c x w j)(hx:c.roots.getD j 0=(x:Int)):sI c x 1 (j+1):=⟨.inr rfl,⟨fun _=>⟨j,by omega,hx⟩,fun _=>rfl⟩⟩
theorem sI.miss (h:sI c x w j)(hx:¬c.roots.getD j 0=(x:Int)):sI c x w (j+1):=⟨h.1,⟨fun hw=>by
 obtain ⟨k,hk,he⟩:=h.2.1 hw;exact ⟨k,by omega,he⟩,fun ⟨k,hk,he⟩=>by
 rcases Nat.lt_succ_iff_lt_or_eq.1 hk with hk | rfl
 ·exact h.2.2 ⟨k,hk,he⟩
 ·exact absurd he hx⟩⟩
structure qJ (u:Un)(c:Clo)(m x w i j:Nat):Prop where
 lt:w<2^(kM u m+1)
 bits:∀d,w.testBit d=true↔((x:Int)∈c.roots∧d=0)∨∃a b,(a<i∨a=i∧b<j)∧a<c.insts.length∧b<r8 u c a∧(dW u c a b).op=2∧eN c a b=x∧((gC u c m a).getD b 0).testBit d=true
theorem sI.go (h:sI c x w c.roots.length):qJ u c m x w 0 0:=by
 have key:w=1↔(x:Int)∈c.roots:=h.2.trans ⟨fun ⟨k,hk,he⟩=>by rw[←he];exact j7 hk,fun hx=>by obtain ⟨k,hk,he⟩:=List.getElem_of_mem hx;exact ⟨k,hk,by simp[List.getD,hk,he]⟩⟩
 have h1:=h.1;have h2:=XL (u:=u) (m:=m);refine ⟨by omega,fun d=>⟨fun hd=>?_,fun hd=>?_⟩⟩
 ·rcases h1 with rfl | rfl
  ·simp at hd
  ·exact .inl ⟨key.1 rfl,D0.1 hd⟩
 ·rcases hd with ⟨hx,rfl⟩ | ⟨a,b,hab,_⟩
  ·rw[key.2 hx];exact D0.2 rfl
  ·omega
variable {i:Nat}
theorem qJ.skip (h:qJ u c m x w i j)(hn:¬((dW u c i j).op=2∧eN c i j=x)):qJ u c m x w i (j+1):=by
 refine ⟨h.lt,fun d=>(h.bits d).trans ⟨?_,?_⟩⟩
 ·rintro (hd | ⟨a,b,hab,hr⟩)
  ·exact .inl hd
  ·exact .inr ⟨a,b,by omega,hr⟩
 ·rintro (hd | ⟨a,b,hab,k1,k2,k3,k4,k5⟩)
  ·exact .inl hd
  ·refine .inr ⟨a,b,?_,k1,k2,k3,k4,k5⟩;by_cases e:a=i∧b=j
   ·obtain ⟨rfl,rfl⟩:=e;exact absurd ⟨k3,k4⟩ hn
   ·omega
theorem qJ.add (h:qJ u c m x w i j)(hi:i<c.insts.length)(hj:j<r8 u c i)(ho:(dW u c i j).op=2)(hx:eN c i j=x):qJ u c m x (w|||(gC u c m i).getD j 0) i (j+1):=by
 refine ⟨Nat.or_lt_two_pow h.lt (gD hj),fun d=>?_⟩;rw[Nat.testBit_or,Bool.or_eq_true,h.bits d];constructor
 ·rintro ((hd | ⟨a,b,hab,hr⟩) | hd)
  ·exact .inl hd
  ·exact .inr ⟨a,b,by omega,hr⟩
  ·exact .inr ⟨i,j,by omega,hi,hj,ho,hx,hd⟩
 ·rintro (hd | ⟨a,b,hab,k1,k2,k3,k4,k5⟩)
  ·exact .inl (.inl hd)
  ·by_cases e:a=i∧b=j
   ·obtain ⟨rfl,rfl⟩:=e;exact .inr k5
   ·exact .inl (.inr ⟨a,b,by omega,k1,k2,k3,k4,k5⟩)
theorem qJ.row (h:qJ u c m x w i (r8 u c i)):qJ u c m x w (i+1) 0:=by
 refine ⟨h.lt,fun d=>(h.bits d).trans ⟨?_,?_⟩⟩
 ·rintro (hd | ⟨a,b,hab,hr⟩)
  ·exact .inl hd
  ·exact .inr ⟨a,b,by omega,hr⟩
 ·rintro (hd | ⟨a,b,hab,k1,k2,k3⟩)
  ·exact .inl hd
  ·refine .inr ⟨a,b,?_,k1,k2,k3⟩;by_cases e:a=i
   ·subst e;exact .inr ⟨rfl,k2⟩
   ·omega
theorem qJ.done (hu:WU u)(wc:WC u c)(h:qJ u c m x w c.insts.length 0):(gU u c m).getD x 0=w:=oG fun d=>by
 refine Iff.trans (UM hu wc (x:=x) (d:=d)) (Iff.trans ⟨?_,?_⟩ (h.bits d).symm)
 ·rintro (hd | ⟨a,b,k1,hr⟩)
  ·exact .inl hd
  ·exact .inr ⟨a,b,.inl k1,k1,hr⟩
 ·rintro (hd | ⟨a,b,_,hr⟩)
  ·exact .inl hd
  ·exact .inr ⟨a,b,hr⟩
structure rJ (u:Un)(c:Clo)(m i w j:Nat):Prop where
 lt:w<2^(kM u m+1)
 bits:∀d,w.testBit d=true↔∃b,b<j∧b<r8 u c i∧(dW u c i b).op=8∧((gC u c m i).getD b 0).testBit d=true
theorem rJ.start:rJ u c m i 0 0:=⟨Nat.two_pow_pos _,fun d=>by simp⟩
theorem rJ.skip (h:rJ u c m i w j)(hn:¬(dW u c i j).op=8):rJ u c m i w (j+1):=by
 refine ⟨h.lt,fun d=>(h.bits d).trans ⟨fun ⟨b,k1,k2⟩=>⟨b,by omega,k2⟩,fun ⟨b,k1,k2,k3,k4⟩=>⟨b,?_,k2,k3,k4⟩⟩⟩;by_cases e:b=j
 ·subst e;exact absurd k3 hn
 ·omega
theorem rJ.add (h:rJ u c m i w j)(hj:j<r8 u c i)(ho:(dW u c i j).op=8):rJ u c m i (w|||(gC u c m i).getD j 0) (j+1):=by
 refine ⟨Nat.or_lt_two_pow h.lt (gD hj),fun d=>?_⟩;rw[Nat.testBit_or,Bool.or_eq_true,h.bits d];constructor
 ·rintro (⟨b,k1,k2⟩ | hd)
  ·exact ⟨b,by omega,k2⟩
  ·exact ⟨j,by omega,hj,ho,hd⟩
 ·rintro ⟨b,k1,k2,k3,k4⟩;by_cases e:b=j
  ·subst e;exact .inr k4
  ·exact .inl ⟨b,by omega,k2,k3,k4⟩
theorem rJ.done (hu:WU u)(wc:WC u c)(hi:i<c.insts.length)(h:rJ u c m i w (r8 u c i)):(wX u c m).getD i 0=w:=oG fun d=>by
 have hR:Rl (kM u m) ((bR u c m).getD i []):=s4.get hi;rw[V2 hi,wJ hR,h.bits d];constructor
 ·rintro ⟨d0,h1,h2⟩;obtain ⟨pc,k1,k2,k3⟩:=(mM hu wc hi).1 h2;exact ⟨pc,k1,k1,k2,(wL hu wc hi k1).2 ⟨d0,(jS hu wc).1 h1,k3⟩⟩
 ·rintro ⟨pc,_,k1,k2,k3⟩;obtain ⟨d0,h1,h2⟩:=(wL hu wc hi k1).1 k3;exact ⟨d0,(jS hu wc).2 h1,(mM hu wc hi).2 ⟨pc,k1,k2,h2⟩⟩
theorem XM:((List.range 512).all fun s=>(bits .andNot .i64 (s:Int) 1 != 0)==decide (1<(s:Int))&&(bits .and .i64 (s:Int) 1==0)==decide (s%2=0))=true:=by kernel_rfl
theorem V3 {s:Nat}(hs:s<512):bits .andNot .i64 (s:Int) 1=0↔s≤1:=by
 have:=List.all_eq_true.1 XM s (List.mem_range.2 hs);simp only[Bool.and_eq_true,beq_iff_eq]at this;have h1:=this.1;by_cases e:bits .andNot .i64 (s:Int) 1=0
 ·simp only[e,bne_self_eq_false]at h1;have:=of_decide_eq_false h1.symm;exact ⟨fun _=>by omega,fun _=>e⟩
 ·have e2:(bits .andNot .i64 (s:Int) 1 != 0)=true:=by simpa using e
  rw[e2]at h1;have:=of_decide_eq_true h1.symm;exact ⟨fun h=>absurd h e,fun h=>by omega⟩
theorem D1 {s:Nat}(hs:s<512):bits .and .i64 (s:Int) 1=0↔s%2=0:=by
 have:=List.all_eq_true.1 XM s (List.mem_range.2 hs);simp only[Bool.and_eq_true,beq_iff_eq]at this;have h1:=this.2;by_cases e:bits .and .i64 (s:Int) 1=0
 ·simp only[e,beq_self_eq_true]at h1;exact ⟨fun _=>of_decide_eq_true h1.symm,fun _=>e⟩
 ·have e2:(bits .and .i64 (s:Int) 1==0)=false:=by simpa using e
  rw[e2]at h1;exact ⟨fun h=>absurd h e,fun h=>absurd h (of_decide_eq_false h1.symm)⟩
end
end Go.Un
end
section
namespace Go.Proofs.YtonbocmibeikmaaGreat
open Go.Ab Go.Un
noncomputable def sJ (u:Un)(c:Clo)(mx j:Nat):List (List (List Nat)):=(List.range j).map (kG u c mx (bR u c mx))
def eO (L:List (List (List Nat))):List AV:=L.map fun T=>.vec T.length (l9 T)
variable {L:List (List (List Nat))}
theorem mP:(eO L).length=L.length:=by simp[eO]
variable {u:Un}{c:Clo}{mx j:Nat}
theorem jG:(sJ u c mx j).length=j:=by simp[sJ]
theorem M4:sJ u c mx 0=[]:=rfl
theorem MG:sJ u c mx (j+1)=sJ u c mx j++[kG u c mx (bR u c mx) j]:=by simp[sJ,List.range_succ]
variable {T:List (List Nat)}
theorem yJ:eO (L++[T])=eO L++[.vec T.length (l9 T)]:=by simp[eO]
theorem UN (L:List (List (List Nat))):aA (eO L):=aA.map fun _=>.vec
variable {i:Nat}
theorem read_TT (h:i<L.length):List.take 1 (List.drop i (eO L))=[.vec (L.getD i []).length (l9 (L.getD i []))]:=by unfold eO;rw[←List.map_drop,←List.map_take,List.drop_eq_getElem_cons h,List.take_succ_cons,List.take_zero];simp[List.getD,h]
theorem UO (h:i<j):(sJ u c mx j).getD i []=kG u c mx (bR u c mx) i:=by simp[sJ,List.getD,h]
theorem oM:(kG u c mx (bR u c mx) i).length=r8 u c i:=(iP _ _).1
theorem D2 (h:i<j):List.take 1 (List.drop i (eO (sJ u c mx j)))=[.vec (r8 u c i) (l9 (kG u c mx (bR u c mx) i))]:=by rw[read_TT (by rw[jG];exact h),UO h,oM]
theorem D3 {l:List Nat}(h:i<l.length):List.take i (l.map j9)++AV.int .i64 1::List.drop (i+1) (l.map j9)=(l.set i 1).map j9:=vT h
theorem aU:(gU u c mx).length=c.insts.length:=oJ.1
theorem fF:(wX u c mx).length=c.insts.length:=by simp[wX]
theorem bL:(dL u c mx).length=c.insts.length:=by simp[dL]
theorem eD (h:i<c.insts.length):(dL u c mx).getD i []=gC u c mx i:=by simp[dL,List.getD,h]
theorem D4 (h:i<c.insts.length):List.take 1 (List.drop i (l9 (dL u c mx)))=[.vec (r8 u c i) ((gC u c mx i).map j9)]:=by rw[C5 (by rw[bL];exact h),eD h,bZ,w4]
variable {h l:c7}{b0 b1 b2 b3 b4:Blk}{g n:Nat}
theorem app_tt5 {m:Nat}(hn:L.length=n)(hx:T.length=m)(hl:n<100000):j6 cfg 32 (h++(b0::b1::b2::b3::b4::p9 32 1 g (eO L)::⟨0,false,32,1,[.vec m (l9 T)],0⟩::l)) (.own (h.length+5) g 0 n) (.own (h.length+6) 0 0 1)=some (.own (h.length+5) (g+1) 0 (n+1),h++(b0::b1::b2::b3::b4::p9 32 1 (g+1) (eO (L++[T]))::⟨0,false,32,1,[.vec m (l9 T)],0⟩::l)):=by subst hn hx;rw[u7 (C:=cfg) (K:=1) (m:=1) (new:=[.vec T.length (l9 T)]) (zs:=eO L) t25 rfl (by omega) (by simp[eO]) rfl (by omega) t116 rfl (by decide) (by omega),←yJ,n4];rfl
theorem app_tt3 {m:Nat}(hn:L.length=n)(hx:T.length=m)(hl:n<100000):j6 cfg 32 (h++(b0::b1::b2::p9 32 1 g (eO L)::⟨0,false,32,1,[.vec m (l9 T)],0⟩::l)) (.own (h.length+3) g 0 n) (.own (h.length+4) 0 0 1)=some (.own (h.length+3) (g+1) 0 (n+1),h++(b0::b1::b2::p9 32 1 (g+1) (eO (L++[T]))::⟨0,false,32,1,[.vec m (l9 T)],0⟩::l)):=by subst hn hx;rw[u7 (C:=cfg) (K:=1) (m:=1) (new:=[.vec T.length (l9 T)]) (zs:=eO L) t25 rfl (by omega) (by simp[eO]) rfl (by omega) t116 rfl (by decide) (by omega),←yJ,n4];rfl
theorem MH {b5:Blk}{R:List Int}(hn:R.length=n):FA cfg 3 (h++(b0::b1::b2::b3::b4::b5::⟨0,false,3,1,(List.replicate n (0:Nat)).map j9,0⟩::l)) (.own (h.length+6) 0 0 n) (.vec n (g6 R))=some (.int .i64 ((n:Nat):Int),h++(b0::b1::b2::b3::b4::b5::⟨0,false,3,1,g6 R,0⟩::l)):=by subst hn;have e1:cfg.sz 3=1:=rfl;simp[FA,rd,lenOf,e1,l8,lV,q9,n4,over]
theorem MI {b5 b7:Blk}{W:List Nat}{q:Nat}(hn:n≤W.length)(hl:n<1000000000):j6 cfg 3 (h++(b0::b1::b2::b3::b4::b5::⟨g,false,3,1,W.map j9,0⟩::b7::⟨0,false,3,1,[.int .i64 ((q:Nat):Int)],0⟩::l)) (.own (h.length+6) g 0 n) (.own (h.length+8) 0 0 1)=some (.own (h.length+6) (xG W g n) 0 (n+1),h++(b0::b1::b2::b3::b4::b5::⟨xG W g n,false,3,1,(sG W n q).map j9,0⟩::b7::⟨0,false,3,1,[.int .i64 ((q:Nat):Int)],0⟩::l)):=by
  have e1:cfg.sz 3=1:=rfl;have e2:(cfg.ti 3).bytes=8:=rfl;have h1:n+1≤maxLen:=by
    have:(1000000001:Nat)≤maxLen:=by decide
    omega
  have h2:(n+1)*8≤140737488355328:=by omega
  by_cases hc:n+1≤W.length
  · have e3:List.take n (W.map j9)++AV.int .i64 ((q:Nat):Int)::List.drop (n+1) (W.map j9)=(W.set n q).map j9:=vT (by omega)
    simp[j6,rd,lenOf,e1,e2,h1,h2,hc,hn,over,q9,n4,sG,xG];rw[e3];simp
  · have h3:List.take n (W.map j9)=W.map j9:=List.take_of_length_le t55
    have h4:List.take n W=W:=List.take_of_length_le (by omega);simp[j6,rd,lenOf,e1,e2,h1,h2,hc,hn,q9,n4,sG,xG,h4,j9];exact h3
theorem Ed {β len:Nat}{H:c7}{a:List Nat}(hb:H[β]?=some ⟨g,false,3,1,a.map j9,0⟩)(hn:n≤β)(hl:a.length=len):iL n H 6 (.own β g 0 len)=some (.vec len (a.map j9)):=by subst hl;rw[eF,if_neg (by omega),gH,hb];simp only[hn,and_self,if_true,Bool.false_eq_true,if_false,Nat.zero_add,Nat.mul_one,List.length_map,Nat.le_refl,List.drop_zero];rw[List.take_of_length_le (by rw[List.length_map];exact Nat.le_refl _),(O8 a).frz]
theorem D5 {f:AV→Bool}{l:List Nat}:(l.map j9).all f=l.all fun n=>f (.int .i64 ((n:Nat):Int)):=by rw[List.all_map];rfl
theorem V4 {l:List Nat}:(l.all fun _=>true)=true:=by simp
theorem mayB {s:Nat}(hs:s<512):(bits .andNot .i64 (s:Int) 1 != 0)=decide (1<s):=by have:=V3 hs;rw[Bool.eq_iff_iff];simp only[bne_iff_ne,ne_eq,decide_eq_true_eq];rw[this];omega
def qK (T:List Nat)(j:Nat):List Nat:=T.take j++List.replicate (T.length-j) 0
theorem yK {T:List Nat}:qK T 0=List.replicate T.length 0:=by simp[qK]
theorem M5 {T:List Nat}:qK T T.length=T:=by simp[qK]
theorem mQ {T:List Nat}(h:j≤T.length):(qK T j).length=T.length:=by simp[qK];omega
theorem yL {T:List Nat}(h:j<T.length):(qK T j).set j (T.getD j 0)=qK T (j+1):=by unfold qK;rw[List.set_append_right _ _ t55,List.length_take,Nat.min_eq_left (by omega),Nat.sub_self,show T.length-j=(T.length-(j+1))+1 from by omega,List.replicate_succ,List.set_cons_zero,mN h,List.append_assoc];rfl
theorem wR {x:AV}{R:List AV}(h:i≤T.length):List.take 1 (List.drop i (l9 (T.take i)++x::R))=[x]:=by
  have e:(l9 (T.take i)).length=i:=by rw[u5,List.length_take,Nat.min_eq_left h]
  rw[List.drop_append_of_le_length (by omega),List.drop_of_length_le (by omega),List.nil_append,List.take_succ_cons,List.take_zero]
attribute [local go_sem] rd bZ w6 aN u4 p8 l8 dK u5 Int.natCast_nonneg Int.natCast_inj dE jC iD jD lO oK C5 wN iQ wO V0 lH pZ rV oL List.length_set List.length_replicate Int.toNat_natCast_add_one kV wrap64 L7 List.length_map kH jF qG tQ tR C9 iQ mP jG D2 D3 MH wR mQ aU bL fF D4 u5 D5 V4 orN vT
section
attribute [local go_sem] app_tt5 MI
theorem c_solve (hu:WU u)(wc:WC u c)(hmx:mx<u.mutexes.length):CB 60 [.agg [.vec u.globals.length (g6 u.globals),.vec u.mutexes.length (c9 u.mutexes),.vec u.procs.length (g7 u.procs),.int .i64 u.main],.agg [.vec c.insts.length (g9 c.insts),.vec c.calls.length (j8 c.calls),.vec c.roots.length (g6 c.roots)],.int .i64 ((mx:Nat):Int)] h (.agg [.vec c.insts.length (l9 (bR u c mx)),.vec c.insts.length (eO (sJ u c mx c.insts.length)),.vec c.insts.length ((gU u c mx).map j9)]):=by
  refine .bz Tryz.f60 143 ?_;have hwl:=wc.len;have hk8:kM u mx≤8:=eV;have hk9:nS (u.mutexes.getD mx w5)≤8:=hk8;have hml:=hu.ml;have hrl:=wc.rl;have hrc:c.roots.length≤c.insts.length:=by have:=bB wc.rs wc.rr;omega
  have hel:(gU u c mx).length=c.insts.length:=aU;have hsl:(bR u c mx).length=c.insts.length:=s4.1;have hcl:=wc.cl;refine .z ?_;refine .sg u9 (mkH 11 [0,0,0,7,0,16,48,112,255,0,1023] [7,9,10] [(7,0),(9,1)] [0,128,512,640,1664] [0,1,2,3,4,5,6,7,8]) 2 ?_;refine .rm [true] ?_;refine c146z ?_;refine .cl rfl rfl (fun _=>c_of hu wc hmx) ?_;refine c33z ?_;refine .p 1 ?_;refine .em [true] [128,0] [_] ?_;refine .p 1 ?_;refine .en [true,true] [640,512,128,0] [_,_] ?_;refine .en [true,false,false,false] [1664,640,512,128,0] [_] ?_;refine c95z ?_;refine .po [false,true,true,true,true] ?_;refine c212z ?_;refine .seq ?_;refine .c5 [2,3,4,6,7] ?_;refine c14z ?_;refine c8.mE (β:=h.length+4) (k:=1) t25 rfl ?_;simp only[List.append_assoc,List.cons_append,List.nil_append,q9,n4,List.set_cons_succ,List.set_cons_zero,List.length_append,List.length_cons,List.length_nil,Nat.reduceAdd,Nat.zero_add];refine .u0 (fun m st=>∃(i:Nat),(m=c.insts.length-i∧(i≤c.insts.length))∧st=⟨mkS 143 [(2,AV.int .i64 ((mx:Nat):Int)),(3,AV.ptr h.length 0 0),(4,AV.ptr (h.length+1) 0 0),(6,AV.ptr (h.length+2) 0 0),(7,AV.ptr (h.length+4) 1 0),(28,AV.int .i64 ((c.insts.length:Nat):Int)),(29,AV.int .i64 ((i:Nat):Int))],h++[⟨0,false,30,4,[.vec u.globals.length (g6 u.globals),.vec u.mutexes.length (c9 u.mutexes),.vec u.procs.length (g7 u.procs),.int .i64 u.main],0⟩,⟨0,false,34,3,[.vec c.insts.length (g9 c.insts),.vec c.calls.length (j8 c.calls),.vec c.roots.length (g6 c.roots)],0⟩,⟨0,false,104,3,[.nils,.nils,.nils],0⟩,⟨1,false,3,1,(List.replicate c.insts.length 0).map j9,0⟩,⟨1,false,104,3,[.vec c.insts.length (l9 (bR u c mx)),.own (h.length+5) i 0 i,.own (h.length+3) 1 0 c.insts.length],0⟩,p9 32 1 i (eO (sJ u c mx i))]⟩) (.v ⟨0,⟨rfl,by omega⟩,rfl⟩) ?_ (he:=by (first | rfl | (rw[M4];rfl)));rintro m sl h' ⟨i,⟨hm,hi0⟩,hst⟩;obtain ⟨rfl,rfl⟩:=St.mk.inj hst;clear hst;have hinl:(sJ u c mx i).length=i:=jG;refine c19z ?_;refine u2z ?_ ?_
  ·intro e1 qe1;refine c72z ?_;have hi:i<c.insts.length:=by omega
   have hTi0:(kG u c mx (bR u c mx) i).length=r8 u c i:=oM;refine .og u9 (mkH 13 [0,1,0,0,0,0,32,0,252,508,1023,2047,4095] [9,10,12] [] [0,512,1536,5632] [0,1]) 0 ?_;refine c33z ?_;refine .rn [true] ?_;refine .rn [true] ?_;refine c167z ?_;refine .cl rfl rfl (fun _=>M0 hu wc hmx s4 hi (fun l0=>EK hu wc hmx s4 hi _)) ?_;refine .en [true] [512,0] [_] ?_;refine .en [true,false] [1536,512,0] [_] ?_;refine .p 1 ?_;refine .en [true,false,false] [5632,1536,512,0] [_] ?_;refine c137z ?_;refine .c5 [2,3,4,6,7,28,29] ?_;refine .rz ?_;exact ⟨_,by omega,.v ⟨(i+1),⟨rfl,by omega⟩,rfl⟩ (he:=t171) (hk:=by exact (v5.refl _).app rfl ⟨.inl rfl,.inl rfl,.inl rfl,.inl rfl,.inr (gK.get ⟨.vec _ _,.own _ _ _ _ (by simp),.own _ _ _ _ (by simp),trivial⟩),.inr (by rw[o3];exact (UN _).refs _),trivial⟩)⟩
  intro e1 qe1;refine .exit ?_;obtain rfl:i=c.insts.length:=by omega
  refine c8.nM (γ:=h.length+5) (β:=h.length+4) (k:=1) (len:=c.insts.length) t25 (by rw[mP,jG,Nat.mul_one]) (by omega) (UN _) t25 (by omega) rfl ?_;simp only[List.append_assoc,List.cons_append,List.nil_append,q9,n4,List.set_cons_succ,List.set_cons_zero,List.length_append,List.length_cons,List.length_nil,Nat.reduceAdd,Nat.zero_add];generalize fM _ _ _ _ _=Ib;refine c216z ?_;refine .c5 [3,4,6,7,9] ?_;refine c17z ?_;refine .u0 (fun m st=>∃(j:Nat) (E:List Nat),(m=c.roots.length-j∧(sH u c mx E j∧j≤c.roots.length))∧st=⟨mkS 143 [(3,AV.ptr h.length 0 0),(4,AV.ptr (h.length+1) 0 0),(6,AV.ptr (h.length+2) 0 0),(7,AV.ptr (h.length+4) 1 0),(9,AV.own (h.length+6) 0 0 c.roots.length),(54,AV.vec c.roots.length (g6 c.roots)),(55,AV.int .i64 ((c.roots.length:Nat):Int)),(56,AV.int .i64 ((j:Nat):Int))],h++[⟨0,false,30,4,[.vec u.globals.length (g6 u.globals),.vec u.mutexes.length (c9 u.mutexes),.vec u.procs.length (g7 u.procs),.int .i64 u.main],0⟩,⟨0,false,34,3,[.vec c.insts.length (g9 c.insts),.vec c.calls.length (j8 c.calls),.vec c.roots.length (g6 c.roots)],0⟩,⟨0,false,104,3,[.nils,.nils,.nils],0⟩,⟨1,false,3,1,E.map j9,0⟩,⟨1,false,104,3,[.vec c.insts.length (l9 (bR u c mx)),.vec c.insts.length (eO (sJ u c mx c.insts.length)),.own (h.length+3) 1 0 c.insts.length],0⟩,Ib,⟨0,false,3,1,(qI c).map j9,0⟩]⟩) (.v ⟨0,(List.replicate c.insts.length 0),⟨rfl,⟨sH.start,by omega⟩⟩,rfl⟩) ?_ (he:=by (rw[V1 wc]));rintro m sl h' ⟨j,E,⟨hm,⟨hR,hj⟩⟩,hst⟩;obtain ⟨rfl,rfl⟩:=St.mk.inj hst;clear hst;have hEl:=hR.es.1;refine c19z ?_;refine u2z ?_ ?_
  ·intro e2 qe2;refine c2z ?_;have hr:=wc.rr _ (j7 (d:=0) (show j<c.roots.length by omega));refine .z ?_;refine c1z ?_;refine .c5 [3,4,6,7,9,54,55,56] ?_;refine .rz ?_;exact ⟨_,by omega,.v ⟨(j+1),(E.set (c.roots.getD j 0).toNat 1),⟨rfl,⟨hR.next hu wc (by omega),by omega⟩⟩,rfl⟩ (he:=t11) (hk:=by exact (v5.refl _).app rfl ⟨.inl rfl,.inl rfl,.inl rfl,.inr ((O8 _).refs _),.inl rfl,.inl rfl,.inl rfl,trivial⟩)⟩
  intro e2 qe2;refine .exit ?_;obtain rfl:j=c.roots.length:=by omega
  change c8 ..;refine .sb ?_;refine .u0 (fun m st=>∃(E:List Nat) (W:List Nat) (l:Nat) (g:Nat),(m=wE c E l∧(NU u c mx E (W.take l)∧l≤W.length∧wE c E l≤70000))∧st=⟨mkS 143 [(3,AV.ptr h.length 0 0),(4,AV.ptr (h.length+1) 0 0),(6,AV.ptr (h.length+2) 0 0),(7,AV.ptr (h.length+4) 1 0),(9,AV.own (h.length+6) g 0 l)],h++[⟨0,false,30,4,[.vec u.globals.length (g6 u.globals),.vec u.mutexes.length (c9 u.mutexes),.vec u.procs.length (g7 u.procs),.int .i64 u.main],0⟩,⟨0,false,34,3,[.vec c.insts.length (g9 c.insts),.vec c.calls.length (j8 c.calls),.vec c.roots.length (g6 c.roots)],0⟩,⟨0,false,104,3,[.nils,.nils,.nils],0⟩,⟨1,false,3,1,E.map j9,0⟩,⟨1,false,104,3,[.vec c.insts.length (l9 (bR u c mx)),.vec c.insts.length (eO (sJ u c mx c.insts.length)),.own (h.length+3) 1 0 c.insts.length],0⟩,Ib,⟨g,false,3,1,W.map j9,0⟩]⟩) (.v ⟨E,(qI c),c.roots.length,0,⟨rfl,⟨by rw[List.take_of_length_le (Nat.le_of_eq yI)];exact NU.start wc hR,Nat.le_of_eq yI.symm,by unfold wE;omega⟩⟩,rfl⟩) ?_;rintro m sl h' ⟨E,W,l,g,⟨hm,⟨hI,hl,hlb⟩⟩,hst⟩;obtain ⟨rfl,rfl⟩:=St.mk.inj hst;clear hst;have hlm:l≤wE c E l:=by unfold wE;omega
  have hEl:=hI.g.es.1;refine c0z ?_;refine u2z ?_ ?_
  ·intro e3 qe3;refine c132z ?_;obtain ⟨k1,rfl⟩:∃k1,l=k1+1:=⟨l-1,by omega⟩;refine .z ?_;refine .c5 [3,4,6,7,9,12] ?_;refine .z ?_;rw[mN (by omega)]at hI;generalize W.getD k1 0=i at hI ⊢;obtain ⟨hi,hJ0⟩:=hI.pop;have w:=bK wc hi;have w1:=w.lo;have w2:=w.hi;have hsz:(c6 u (itI c i)).length≤1664:=n6 hu w;have hcll:(c.calls.getD i []).length=(c6 u (itI c i)).length:=wc.cll i hi;have hlI:r8 u c i=(c6 u (itI c i)).length:=rfl;have hTl:(kG u c mx (bR u c mx) i).length=r8 u c i:=oM;have hcall:∀j,j<r8 u c i→(dW u c i j).op=2→0≤(c.calls.getD i []).getD j 0∧(c.calls.getD i []).getD j 0<c.insts.length:=fun j hp ho=>by have:=(wc.call i hi j hp).1 (.inl ho);exact ⟨this.1,this.2.1⟩
   refine .ss u9 (mkP 13 [0,1,0,4,0,28,60,124,255,511,1023,2047,0] []) ?_;refine c50z ?_;refine .block ?_;refine .u0 (fun m st=>∃(E1:List Nat) (W1:List Nat) (l1:Nat) (g1:Nat) (j:Nat),(m=r8 u c i-j∧(NV u c mx i (wE c E (W.take k1).length) E1 (W1.take l1) j∧l1≤W1.length∧j≤r8 u c i))∧st=⟨mkS 143 [(3,AV.ptr h.length 0 0),(4,AV.ptr (h.length+1) 0 0),(6,AV.ptr (h.length+2) 0 0),(7,AV.ptr (h.length+4) 1 0),(9,AV.own (h.length+6) g1 0 l1),(12,AV.int .i64 ((i:Nat):Int)),(89,AV.vec (c6 u (itI c i)).length (p5 (c6 u (itI c i)))),(90,AV.int .i64 (((c6 u (itI c i)).length:Nat):Int)),(91,AV.int .i64 ((j:Nat):Int))],h++[⟨0,false,30,4,[.vec u.globals.length (g6 u.globals),.vec u.mutexes.length (c9 u.mutexes),.vec u.procs.length (g7 u.procs),.int .i64 u.main],0⟩,⟨0,false,34,3,[.vec c.insts.length (g9 c.insts),.vec c.calls.length (j8 c.calls),.vec c.roots.length (g6 c.roots)],0⟩,⟨0,false,104,3,[.nils,.nils,.nils],0⟩,⟨1,false,3,1,E1.map j9,0⟩,⟨1,false,104,3,[.vec c.insts.length (l9 (bR u c mx)),.vec c.insts.length (eO (sJ u c mx c.insts.length)),.own (h.length+3) 1 0 c.insts.length],0⟩,Ib,⟨g1,false,3,1,W1.map j9,0⟩]⟩) (.v ⟨E,W,k1,g,0,⟨rfl,⟨hJ0,by omega,by omega⟩⟩,rfl⟩) ?_;rintro m sl h' ⟨E1,W1,l1,g1,j,⟨hm,⟨hJ,hl1,hj⟩⟩,hst⟩;obtain ⟨rfl,rfl⟩:=St.mk.inj hst;clear hst;have hE1:E1.length=c.insts.length:=hJ.g.es.1;have hlm1:l1≤70000:=by have:=hJ.wt;rw[List.length_take,List.length_take,Nat.min_eq_left hl1,Nat.min_eq_left (show k1≤W.length from by omega)]at this;unfold wE at this hlb;omega
   refine c19z ?_;refine u2z ?_ ?_
   ·intro e4 qe4;refine c2z ?_;have hjp:j<r8 u c i:=by omega
    have hop0:(dW u c i j).op=((c6 u (itI c i)).getD j g0).op:=rfl;refine c89z ?_;refine u2z ?_ ?_
    ·intro e5 qe5;refine c8z ?_;refine .c5 [3,4,6,7,9,12,89,90,91] ?_;refine .rz ?_;exact ⟨_,by omega,.v ⟨E1,W1,l1,g1,(j+1),⟨rfl,⟨hJ.skip (fun ho=>absurd ho t202),hl1,by omega⟩⟩,rfl⟩ (he:=t11) (hk:=t68)⟩
    intro e5 qe5;refine .sk ?_;refine .c5 [3,4,6,7,9,12,13,89,90,91] ?_;have hop:(dW u c i j).op=2:=by rw[hop0];omega
    obtain ⟨hc1,hc2⟩:=hcall j hjp hop;obtain ⟨q,hqe⟩:∃q:Nat,(c.calls.getD i []).getD j 0=(q:Int):=⟨_,(Int.toNat_of_nonneg hc1).symm⟩;have hqc:eN c i j=q:=by unfold eN;rw[hqe];rfl
    rw[hqe]at hc1 hc2;have hTi:=(iP (u:=u) (c:=c) (m:=mx) (bR u c mx) i).get hjp;have hq3:q<c.insts.length:=by omega
    refine .ss u9 (mkP 24 [0,1,0,7,15,0,63,127,0,256,0,1792,3840,0,16128,32512,0,65536,0,458752,983040,2096896,4194303,8388607] []) ?_;refine .k 8 [] ?_;refine .k 8 [] ?_;refine .k 5 [] ?_;refine .ca rfl rfl (nJ _ _ (hTi.lt hk8) (hJ.g.es.lt _ (j7 (by have:=hJ.g.es.1;omega))) t205) ?_;refine .n [] ?_;refine .c5 [3,4,6,7,9,12,15,16,89,90,91,104] ?_;rw[hqe];have hfl:applyN ((kG u c mx (bR u c mx) i).getD j []) (E1.getD i 0)<512:=Nat.lt_of_lt_of_le (jE hTi _) (fE hk8).2;have hEq:E1.getD q 0<512:=hJ.g.es.lt _ (j7 (by omega));have hne:bits .andNot .i64 ((applyN ((kG u c mx (bR u c mx) i).getD j []) (E1.getD i 0):Nat):Int) ((E1.getD q 0:Nat):Int)=0↔∀b,(qH u c mx E1 i j).testBit b=true→bt E1 (eN c i j) b=true:=by rw[hqc];exact vZ hfl hEq
    refine .z ?_;refine u2z ?_ ?_
    ·intro e6 qe6;refine .c5 [3,4,6,7,9,12,15,16,89,90,91,104] ?_;refine c129z ?_;refine .c5 [3,4,6,7,9,12,15,89,90,91,104] ?_;refine c47z ?_;exact ⟨_,by omega,.v ⟨(E1.set q (E1.getD q 0|||qH u c mx E1 i j)),(sG W1 l1 q),(l1+1),(xG W1 g1 l1),(j+1),⟨rfl,⟨by rw[yG hl1,←hqc];exact hJ.grow hu wc hi hjp hop (fun hs=>absurd (hne.2 hs) (by assumption)),L9 hl1,by omega⟩⟩,rfl⟩ (he:=t11) (hk:=t68)⟩
    intro e6 qe6;refine c4z ?_;refine .c5 [3,4,6,7,9,12,89,90,91,104] ?_;refine .rz ?_;exact ⟨_,by omega,.v ⟨E1,W1,l1,g1,(j+1),⟨rfl,⟨hJ.skip (fun _=>hne.1 (by assumption)),hl1,by omega⟩⟩,rfl⟩ (he:=t11) (hk:=t68)⟩
   intro e4 qe4;refine .exit ?_;obtain rfl:j=r8 u c i:=by omega
   have hwt:=hJ.wt;rw[List.length_take,List.length_take,Nat.min_eq_left hl1,Nat.min_eq_left (show k1≤W.length from by omega)]at hwt;have hwk:wE c E k1<wE c E (k1+1):=by unfold wE;omega
   exact ⟨_,by omega,.v ⟨E1,W1,l1,g1,⟨rfl,⟨hJ.fin,hl1,by omega⟩⟩,rfl⟩ (he:=t11) (hk:=t68)⟩
  intro e3 qe3;refine .exit ?_;obtain rfl:l=0:=by omega
  have hE:E=(gU u c mx):=NU.done hu wc (by simpa using hI);rw[hE];refine c8.nM (γ:=h.length+3) (β:=h.length+4) (k:=2) (len:=c.insts.length) (by rw[q9];exact congrArg some (cP t155).symm) (by rw[List.length_map,hel,Nat.mul_one]) (by omega) (O8 _) t25 (by omega) rfl ?_;simp only[List.append_assoc,List.cons_append,List.nil_append,q9,n4,List.set_cons_succ,List.set_cons_zero,List.length_append,List.length_cons,List.length_nil,Nat.reduceAdd,Nat.zero_add];generalize fM _ _ _ _ _=Eb;refine c216z ?_;exact .ret (.ex (hq:=by rfl))
end
theorem c_ent (hu:WU u)(wc:WC u c)(hmx:mx<u.mutexes.length):CB 28 [.agg [.vec u.globals.length (g6 u.globals),.vec u.mutexes.length (c9 u.mutexes),.vec u.procs.length (g7 u.procs),.int .i64 u.main],.agg [.vec c.insts.length (g9 c.insts),.vec c.calls.length (j8 c.calls),.vec c.roots.length (g6 c.roots)],.int .i64 ((mx:Nat):Int)] h (.vec c.insts.length ((gU u c mx).map j9)):=by
  refine .bz Tryz.f28 12 ?_;have hwl:=wc.len;have hk8:kM u mx≤8:=eV;have hk9:nS (u.mutexes.getD mx w5)≤8:=hk8;have hml:=hu.ml;have hrl:=wc.rl;have hrc:c.roots.length≤c.insts.length:=by have:=bB wc.rs wc.rr;omega
  have hel:(gU u c mx).length=c.insts.length:=aU;have hsl:(bR u c mx).length=c.insts.length:=s4.1;have hcl:=wc.cl;refine c261z ?_;refine .n ?_;exact .ret (.ex (hq:=by rfl))
theorem c_exi (hu:WU u)(wc:WC u c)(hmx:mx<u.mutexes.length):CB 34 [.agg [.vec u.globals.length (g6 u.globals),.vec u.mutexes.length (c9 u.mutexes),.vec u.procs.length (g7 u.procs),.int .i64 u.main],.agg [.vec c.insts.length (g9 c.insts),.vec c.calls.length (j8 c.calls),.vec c.roots.length (g6 c.roots)],.int .i64 ((mx:Nat):Int)] h (.vec c.insts.length ((wX u c mx).map j9)):=by
  refine .bz Tryz.f34 39 ?_;have hwl:=wc.len;have hk8:kM u mx≤8:=eV;have hk9:nS (u.mutexes.getD mx w5)≤8:=hk8;have hml:=hu.ml;have hrl:=wc.rl;have hrc:c.roots.length≤c.insts.length:=by have:=bB wc.rs wc.rr;omega
  have hel:(gU u c mx).length=c.insts.length:=aU;have hsl:(bR u c mx).length=c.insts.length:=s4.1;have hcl:=wc.cl;have hxl:(wX u c mx).length=c.insts.length:=fF;refine c261z ?_;refine .n ?_;refine .c5 [7] ?_;refine c17z ?_;refine .u0 (fun m st=>∃(i:Nat),(m=c.insts.length-i∧(i≤c.insts.length))∧st=⟨mkS 39 [(7,AV.ptr (h.length+2) 0 0),(8,AV.own (h.length+3) 0 0 c.insts.length),(20,AV.vec c.insts.length (l9 (bR u c mx))),(21,AV.int .i64 ((c.insts.length:Nat):Int)),(22,AV.int .i64 ((i:Nat):Int))],h++[⟨0,false,30,4,[.vec u.globals.length (g6 u.globals),.vec u.mutexes.length (c9 u.mutexes),.vec u.procs.length (g7 u.procs),.int .i64 u.main],0⟩,⟨0,false,34,3,[.vec c.insts.length (g9 c.insts),.vec c.calls.length (j8 c.calls),.vec c.roots.length (g6 c.roots)],0⟩,⟨0,false,104,3,[.vec c.insts.length (l9 (bR u c mx)),.vec c.insts.length (eO (sJ u c mx c.insts.length)),.vec c.insts.length ((gU u c mx).map j9)],0⟩,⟨0,false,3,1,(qK (wX u c mx) i).map j9,0⟩]⟩) (.v ⟨0,⟨rfl,by omega⟩,rfl⟩) ?_ (he:=by (rw[yK,hxl]));rintro m sl h' ⟨i,⟨hm,hi0⟩,hst⟩;obtain ⟨rfl,rfl⟩:=St.mk.inj hst;clear hst;have hfl:(qK (wX u c mx) i).length=c.insts.length:=by rw[mQ (by rw[hxl];omega),hxl]
  refine c19z ?_;refine u2z ?_ ?_
  ·intro e1 qe1;refine c72z ?_;have hSi:=(s4 (u:=u) (c:=c) (m:=mx)).get (i:=i) (by omega);refine c70z ?_;refine .ca rfl rfl (nJ _ _ (hSi.lt hk8) (oJ.lt _ (j7 (by omega))) (by have:=hSi.1;omega)) ?_;refine c25z ?_;refine .c5 [7,8,20,21,22] ?_;refine .rz ?_;exact ⟨_,by omega,.v ⟨(i+1),⟨rfl,by omega⟩,rfl⟩ (he:=by (rw[←yL (by rw[hxl];omega),V2 (by omega)];exact (List.append_nil _).symm)) (hk:=by exact (v5.refl _).app rfl ⟨.inl rfl,.inl rfl,.inl rfl,.inr ((O8 _).refs _),trivial⟩)⟩
  intro e1 qe1;refine .exit ?_;obtain rfl:i=c.insts.length:=by omega
  refine c191z ?_;exact ⟨_,_,rfl,Ed t25 (by omega) (by rw[hfl]),by (have e:=M5 (T:=wX u c mx);rw[hxl]at e;rw[e])⟩
attribute [local go_sem] overN C7
theorem MJ (hu:WU u)(wc:WC u c)(hmx:mx<u.mutexes.length):CB 22 [.agg [.vec u.globals.length (g6 u.globals),.vec u.mutexes.length (c9 u.mutexes),.vec u.procs.length (g7 u.procs),.int .i64 u.main],.agg [.vec c.insts.length (g9 c.insts),.vec c.calls.length (j8 c.calls),.vec c.roots.length (g6 c.roots)],.int .i64 ((mx:Nat):Int)] h (.vec c.insts.length (l9 (dL u c mx))):=by
  refine .bz Tryz.f22 58 ?_;have hwl:=wc.len;have hk8:kM u mx≤8:=eV;have hk9:nS (u.mutexes.getD mx w5)≤8:=hk8;have hml:=hu.ml;have hrl:=wc.rl;have hrc:c.roots.length≤c.insts.length:=by have:=bB wc.rs wc.rr;omega
  have hel:(gU u c mx).length=c.insts.length:=aU;have hsl:(bR u c mx).length=c.insts.length:=s4.1;have hcl:=wc.cl;have hbl:(dL u c mx).length=c.insts.length:=bL;refine c261z ?_;refine .n ?_;refine .c5 [7] ?_;refine c17z ?_;refine .u0 (fun m st=>∃(i:Nat),(m=c.insts.length-i∧(i≤c.insts.length))∧st=⟨mkS 58 [(7,AV.ptr (h.length+2) 0 0),(8,AV.own (h.length+3) 0 0 c.insts.length),(22,AV.vec c.insts.length (eO (sJ u c mx c.insts.length))),(23,AV.int .i64 ((c.insts.length:Nat):Int)),(24,AV.int .i64 ((i:Nat):Int))],h++[⟨0,false,30,4,[.vec u.globals.length (g6 u.globals),.vec u.mutexes.length (c9 u.mutexes),.vec u.procs.length (g7 u.procs),.int .i64 u.main],0⟩,⟨0,false,34,3,[.vec c.insts.length (g9 c.insts),.vec c.calls.length (j8 c.calls),.vec c.roots.length (g6 c.roots)],0⟩,⟨0,false,104,3,[.vec c.insts.length (l9 (bR u c mx)),.vec c.insts.length (eO (sJ u c mx c.insts.length)),.vec c.insts.length ((gU u c mx).map j9)],0⟩,⟨0,false,22,1,BJ c.insts.length i (dL u c mx),0⟩]⟩) (.v ⟨0,⟨rfl,by omega⟩,rfl⟩) ?_ (he:=by (rw[LZ]));rintro m sl h' ⟨i,⟨hm,hi0⟩,hst⟩;obtain ⟨rfl,rfl⟩:=St.mk.inj hst;clear hst;have hrl0:(BJ c.insts.length i (dL u c mx)).length=c.insts.length:=C7 hbl (by omega);have htk:(List.take i (dL u c mx)).length=i:=by rw[List.length_take];omega
  refine c19z ?_;refine u2z ?_ ?_
  ·intro e1 qe1;refine c2z ?_;have hi:i<c.insts.length:=by omega
   have hsz:r8 u c i≤1664:=n6 hu (bK wc hi);have hTl:(kG u c mx (bR u c mx) i).length=r8 u c i:=oM;refine c65z ?_;refine .c5 [7,8,9,10,22,23,24] ?_;refine c14z ?_;refine .u0 (fun m st=>∃(j:Nat),(m=r8 u c i-j∧(j≤r8 u c i))∧st=⟨mkS 58 [(7,AV.ptr (h.length+2) 0 0),(8,AV.own (h.length+3) 0 0 c.insts.length),(9,AV.int .i64 ((i:Nat):Int)),(22,AV.vec c.insts.length (eO (sJ u c mx c.insts.length))),(23,AV.int .i64 ((c.insts.length:Nat):Int)),(24,AV.int .i64 ((i:Nat):Int)),(35,AV.vec (r8 u c i) (l9 (kG u c mx (bR u c mx) i))),(36,AV.int .i64 ((r8 u c i:Nat):Int)),(37,AV.int .i64 ((j:Nat):Int))],h++[⟨0,false,30,4,[.vec u.globals.length (g6 u.globals),.vec u.mutexes.length (c9 u.mutexes),.vec u.procs.length (g7 u.procs),.int .i64 u.main],0⟩,⟨0,false,34,3,[.vec c.insts.length (g9 c.insts),.vec c.calls.length (j8 c.calls),.vec c.roots.length (g6 c.roots)],0⟩,⟨0,false,104,3,[.vec c.insts.length (l9 (bR u c mx)),.vec c.insts.length (eO (sJ u c mx c.insts.length)),.vec c.insts.length ((gU u c mx).map j9)],0⟩,⟨0,false,22,1,l9 ((dL u c mx).take i)++.own (h.length+4) 0 0 (r8 u c i)::List.replicate (c.insts.length-(i+1)) AV.nils,0⟩,⟨0,false,3,1,(qK (gC u c mx i) j).map j9,0⟩]⟩) (.v ⟨0,⟨rfl,by omega⟩,rfl⟩) ?_ (he:=by (rw[yK,w4]));rintro m sl h' ⟨j,⟨hm,hj0⟩,hst⟩;obtain ⟨rfl,rfl⟩:=St.mk.inj hst;clear hst;have hfl:(qK (gC u c mx i) j).length=r8 u c i:=by rw[mQ (by rw[w4];omega),w4]
   refine c19z ?_;refine u2z ?_ ?_
   ·intro e2 qe2;refine c72z ?_;have hTi:=(iP (u:=u) (c:=c) (m:=mx) (bR u c mx) i).get (i:=j) (by omega);refine .so u9 (mkP 14 [0,0,3,7,0,0,0,64,0,448,960,2016,4095,8191] [13]) ?_;refine .k 8 [] ?_;refine .k 3 [] ?_;refine .ca rfl rfl (nJ _ _ (hTi.lt hk8) (oJ.lt _ (j7 (by omega))) t205) ?_;refine .n [] ?_;change c8 ..;refine .c5 [7,8,9,22,23,24,35,36,37] ?_;refine .rz ?_;exact ⟨_,by omega,.v ⟨(j+1),⟨rfl,by omega⟩,rfl⟩ (he:=by (rw[←yL (by rw[w4];omega),tP (by omega)];exact (List.append_nil _).symm)) (hk:=by exact (v5.refl _).app rfl ⟨.inl rfl,.inl rfl,.inl rfl,.inl rfl,.inr ((O8 _).refs _),trivial⟩)⟩
   intro e2 qe2;refine .exit ?_;obtain rfl:j=r8 u c i:=by omega
   have efl:qK (gC u c mx i) (r8 u c i)=(gC u c mx i):=by have:=M5 (T:=(gC u c mx i));rwa[w4]at this
   rw[efl];refine c8.EJ (β:=h.length+3) (γ:=h.length+4) (A:=l9 ((dL u c mx).take i)) (R:=List.replicate (c.insts.length-(i+1)) AV.nils) (zs:=(gC u c mx i)) (len:=r8 u c i) t25 t25 w4 (by omega) ?_;refine c12z ?_;refine .rz ?_;exact ⟨_,by omega,.v ⟨(i+1),⟨rfl,by omega⟩,rfl⟩ (he:=by (rw[←MB hbl (by omega) (eD (by omega)),w4];simp only[List.append_assoc,List.cons_append,List.nil_append];rfl)) (hk:=by exact (v5.refl _).app rfl ⟨.inl rfl,.inl rfl,.inl rfl,.inr (MA _),trivial⟩)⟩
  intro e1 qe1;refine .exit ?_;obtain rfl:i=c.insts.length:=by omega
  simp only[UC hbl];refine c191z ?_;exact ⟨_,_,rfl,U7 t25 (by omega) hbl,by rfl⟩
section
attribute [local go_sem] eD w4
theorem c_may (hu:WU u)(wc:WC u c)(hmx:mx<u.mutexes.length)(hi:i<c.insts.length){pc:Nat}(hp:pc<r8 u c i):CB 19 [.agg [.vec u.globals.length (g6 u.globals),.vec u.mutexes.length (c9 u.mutexes),.vec u.procs.length (g7 u.procs),.int .i64 u.main],.agg [.vec c.insts.length (g9 c.insts),.vec c.calls.length (j8 c.calls),.vec c.roots.length (g6 c.roots)],.int .i64 ((mx:Nat):Int),.int .i64 ((i:Nat):Int),.int .i64 ((pc:Nat):Int)] h (.bool (decide (1<((gC u c mx i).getD pc 0)))):=by
  refine .bz Tryz.f19 23 ?_;have hwl:=wc.len;have hk8:kM u mx≤8:=eV;have hk9:nS (u.mutexes.getD mx w5)≤8:=hk8;have hml:=hu.ml;have hrl:=wc.rl;have hrc:c.roots.length≤c.insts.length:=by have:=bB wc.rs wc.rr;omega
  have hel:(gU u c mx).length=c.insts.length:=aU;have hsl:(bR u c mx).length=c.insts.length:=s4.1;have hcl:=wc.cl;have hbl:(dL u c mx).length=c.insts.length:=bL;have hbi:(gC u c mx i).length=r8 u c i:=w4;have hs5:(gC u c mx i).getD pc 0<512:=Nat.lt_of_lt_of_le (gD hp) (fE hk8).2;have hq1:=V3 hs5;have hq2:=D1 hs5;refine c87z ?_;refine .ca rfl rfl (MJ hu wc hmx) ?_;refine c217z ?_;exact .ret (.ex (hq:=by (exact congrArg AV.bool (mayB hs5))))
end
section
attribute [local go_sem] eD w4
theorem c_must (hu:WU u)(wc:WC u c)(hmx:mx<u.mutexes.length)(hi:i<c.insts.length){pc:Nat}(hp:pc<r8 u c i):CB 20 [.agg [.vec u.globals.length (g6 u.globals),.vec u.mutexes.length (c9 u.mutexes),.vec u.procs.length (g7 u.procs),.int .i64 u.main],.agg [.vec c.insts.length (g9 c.insts),.vec c.calls.length (j8 c.calls),.vec c.roots.length (g6 c.roots)],.int .i64 ((mx:Nat):Int),.int .i64 ((i:Nat):Int),.int .i64 ((pc:Nat):Int)] h (.bool (decide (0<((gC u c mx i).getD pc 0)∧((gC u c mx i).getD pc 0)%2=0))):=by
  refine .bz Tryz.f20 29 ?_;have hwl:=wc.len;have hk8:kM u mx≤8:=eV;have hk9:nS (u.mutexes.getD mx w5)≤8:=hk8;have hml:=hu.ml;have hrl:=wc.rl;have hrc:c.roots.length≤c.insts.length:=by have:=bB wc.rs wc.rr;omega
  have hel:(gU u c mx).length=c.insts.length:=aU;have hsl:(bR u c mx).length=c.insts.length:=s4.1;have hcl:=wc.cl;have hbl:(dL u c mx).length=c.insts.length:=bL;have hbi:(gC u c mx i).length=r8 u c i:=w4;have hs5:(gC u c mx i).getD pc 0<512:=Nat.lt_of_lt_of_le (gD hp) (fE hk8).2;have hq1:=V3 hs5;have hq2:=D1 hs5;refine c87z ?_;refine .ca rfl rfl (MJ hu wc hmx) ?_;refine .n ?_;refine .c5 [11] ?_;refine c16z ?_;refine .spl 24 rfl rfl (fun e1=>?_) (fun e1=>?_)
  ·try simp only[e1]
   have qe1:=fact e1;refine .m [(2,24)] ?_;exact .ret (.ex (hq:=t125))
  try simp only[e1]
  have qe1:=fact e1;refine .m [(2,24)] ?_;exact .ret (.ex (hq:=t125))
end
end Go.Proofs.YtonbocmibeikmaaGreat
end
section
namespace Go.Proofs.YtonbocmibeikmaaGreat
open Go.Ab Go.Un
variable {h l:c7}{b0 b1:Blk}{g n:Nat}
theorem UP {b3:Blk}{T:List (List Nat)}{r:List Nat}{k:Nat}(hn:T.length=n)(hk:r.length=k)(hl:n<100000):j6 cfg 22 (h++(b0::b1::p9 22 1 g (l9 T)::b3::⟨0,false,22,1,[.vec k (r.map j9)],0⟩::l)) (.own (h.length+2) g 0 n) (.own (h.length+4) 0 0 1)=some (.own (h.length+2) (g+1) 0 (n+1),h++(b0::b1::p9 22 1 (g+1) (l9 (T++[r]))::b3::⟨0,false,22,1,[.vec k (r.map j9)],0⟩::l)):=by subst hn hk;rw[u7 (C:=cfg) (K:=1) (m:=1) (new:=[.vec r.length (r.map j9)]) (zs:=l9 T) t25 rfl (by omega) (by simp[l9]) rfl (by omega) t116 rfl (by decide) (by omega),n4,show l9 T++[AV.vec r.length (r.map j9)]=l9 (T++[r]) from by simp[l9,bZ]];rfl
theorem UQ {b2:Blk}{T:List Nat}{v:Nat}(hn:T.length=n)(hl:n<100000):j6 cfg 3 (h++(b0::b1::b2::p9 3 1 g (T.map j9)::⟨0,false,3,1,[.int .i64 ((v:Nat):Int)],0⟩::l)) (.own (h.length+3) g 0 n) (.own (h.length+4) 0 0 1)=some (.own (h.length+3) (g+1) 0 (n+1),h++(b0::b1::b2::p9 3 1 (g+1) ((T++[v]).map j9)::⟨0,false,3,1,[.int .i64 ((v:Nat):Int)],0⟩::l)):=by subst hn;rw[u7 (C:=cfg) (K:=1) (m:=1) (new:=[.int .i64 ((v:Nat):Int)]) (zs:=T.map j9) t25 rfl (by omega) (by simp) rfl (by omega) t116 rfl (by decide) (by omega),n4,show T.map j9++[AV.int .i64 ((v:Nat):Int)]=(T++[v]).map j9 from by simp[j9]];rfl
theorem UR {T:List Nat}{v:Nat}(hn:T.length=n)(hl:n<100000):j6 cfg 3 (h++(b0::b1::p9 3 1 g (T.map j9)::⟨0,false,3,1,[.int .i64 ((v:Nat):Int)],0⟩::l)) (.own (h.length+2) g 0 n) (.own (h.length+3) 0 0 1)=some (.own (h.length+2) (g+1) 0 (n+1),h++(b0::b1::p9 3 1 (g+1) ((T++[v]).map j9)::⟨0,false,3,1,[.int .i64 ((v:Nat):Int)],0⟩::l)):=by subst hn;rw[u7 (C:=cfg) (K:=1) (m:=1) (new:=[.int .i64 ((v:Nat):Int)]) (zs:=T.map j9) t25 rfl (by omega) (by simp) rfl (by omega) t116 rfl (by decide) (by omega),n4,show T.map j9++[AV.int .i64 ((v:Nat):Int)]=(T++[v]).map j9 from by simp[j9]];rfl
theorem EO {T:List (List Nat)}{k:Nat}(h:k<T.length):T.take (k+1)=T.take k++[T.getD k []]:=by rw[List.take_add_one,List.getElem?_eq_getElem h];simp[List.getD,h]
theorem frz_OI {β len:Nat}{H:c7}{a:List Nat}(hb:H[β]?=some (p9 3 1 g (a.map j9)))(hn:n≤β)(hl:a.length=len)(hp:0<len):iL n H 6 (.own β g 0 len)=some (.vec len (a.map j9)):=by rw[cP t155]at hb;exact Ed hb hn hl
attribute [local go_sem] rd bZ w6 aN u4 p8 l8 dK u5 Int.natCast_nonneg Int.natCast_inj dE jC iD jD lO oK C5 wN iQ wO V0 lH pZ rV oL List.length_set List.length_replicate Int.toNat_natCast_add_one kV wrap64 L7 List.length_map kH jF qG tQ tR C9 iQ mP jG D2 D3 MH wR mQ aU bL fF D4 u5 D5 V4 orN vT
section
attribute [local go_sem] app_tt3
variable {u:Un}{c:Clo}{mx:Nat}
theorem c_entR (hu:WU u)(wc:WC u c)(hmx:mx<u.mutexes.length):CB 32 [.agg [.vec u.globals.length (g6 u.globals),.vec u.mutexes.length (c9 u.mutexes),.vec u.procs.length (g7 u.procs),.int .i64 u.main],.agg [.vec c.insts.length (g9 c.insts),.vec c.calls.length (j8 c.calls),.vec c.roots.length (g6 c.roots)],.int .i64 ((mx:Nat):Int)] h (.vec c.insts.length ((gU u c mx).map j9)):=by
  refine .bz Tryz.f32 123 ?_;have hwl:=wc.len;have hk8:kM u mx≤8:=eV;have hk9:nS (u.mutexes.getD mx w5)≤8:=hk8;have hml:=hu.ml;have hrl:=wc.rl;have hrc:c.roots.length≤c.insts.length:=by have:=bB wc.rs wc.rr;omega
  have hel:(gU u c mx).length=c.insts.length:=aU;have hsl:(bR u c mx).length=c.insts.length:=s4.1;have hcl:=wc.cl;refine c87z ?_;refine .ca rfl rfl (Dv hu wc hmx) ?_;refine .n ?_;refine c19z ?_;refine .c5 [2,3,4,7,8] ?_;refine c14z ?_;refine .u0 (fun m st=>∃(j:Nat) (E:List Nat),(m=c.roots.length-j∧(sH u c mx E j∧j≤c.roots.length))∧st=⟨mkS 123 [(2,AV.int .i64 ((mx:Nat):Int)),(3,AV.ptr h.length 0 0),(4,AV.ptr (h.length+1) 0 0),(7,AV.vec c.insts.length (l9 (bR u c mx))),(8,AV.own (h.length+2) 0 0 c.insts.length),(9,AV.int .i64 ((j:Nat):Int))],h++[⟨0,false,30,4,[.vec u.globals.length (g6 u.globals),.vec u.mutexes.length (c9 u.mutexes),.vec u.procs.length (g7 u.procs),.int .i64 u.main],0⟩,⟨0,false,34,3,[.vec c.insts.length (g9 c.insts),.vec c.calls.length (j8 c.calls),.vec c.roots.length (g6 c.roots)],0⟩,⟨0,false,3,1,E.map j9,0⟩]⟩) (.v ⟨0,(List.replicate c.insts.length 0),⟨rfl,⟨sH.start,by omega⟩⟩,rfl⟩) ?_;rintro m sl h' ⟨j,E,⟨hm,⟨hR,hj⟩⟩,hst⟩;obtain ⟨rfl,rfl⟩:=St.mk.inj hst;clear hst;have hEl:=hR.es.1;refine c0z ?_;refine u2z ?_ ?_
  ·intro e1 qe1;refine c2z ?_;have hr:=wc.rr _ (j7 (d:=0) (show j<c.roots.length by omega));refine c1z ?_;refine .c5 [2,3,4,7,8,9] ?_;refine .rz ?_;exact ⟨_,by omega,.v ⟨(j+1),(E.set (c.roots.getD j 0).toNat 1),⟨rfl,⟨hR.next hu wc (by omega),by omega⟩⟩,rfl⟩ (he:=t11) (hk:=by exact (v5.refl _).app rfl ⟨.inl rfl,.inl rfl,.inr ((O8 _).refs _),trivial⟩)⟩
  intro e1 qe1;refine .exit ?_;obtain rfl:j=c.roots.length:=by omega
  have hG:=hR.all wc;change c8 ..;refine c17z ?_;refine c8.sB 10 rfl ?_;refine .u0 (fun m st=>∃(i:Nat),(m=c.insts.length-i∧(i≤c.insts.length))∧st=⟨mkS 123 [(2,AV.int .i64 ((mx:Nat):Int)),(3,AV.ptr h.length 0 0),(4,AV.ptr (h.length+1) 0 0),(7,AV.vec c.insts.length (l9 (bR u c mx))),(8,AV.own (h.length+2) 0 0 c.insts.length),(10,AV.own (h.length+3) i 0 i),(11,AV.int .i64 ((i:Nat):Int))],h++[⟨0,false,30,4,[.vec u.globals.length (g6 u.globals),.vec u.mutexes.length (c9 u.mutexes),.vec u.procs.length (g7 u.procs),.int .i64 u.main],0⟩,⟨0,false,34,3,[.vec c.insts.length (g9 c.insts),.vec c.calls.length (j8 c.calls),.vec c.roots.length (g6 c.roots)],0⟩,⟨0,false,3,1,E.map j9,0⟩,p9 32 1 i (eO (sJ u c mx i))]⟩) (.v ⟨0,⟨rfl,by omega⟩,rfl⟩ (hs:=t14)) ?_ (he:=by (first | rfl | (rw[M4];simp only[List.append_assoc,List.cons_append,List.nil_append];rfl)));rintro m sl h' ⟨i,⟨hm,hi0⟩,hst⟩;obtain ⟨rfl,rfl⟩:=St.mk.inj hst;clear hst;have hinl:(sJ u c mx i).length=i:=jG;refine c0z ?_;refine u2z ?_ ?_
  ·intro e2 qe2;refine c2z ?_;have hi:i<c.insts.length:=by omega
   have hTi0:(kG u c mx (bR u c mx) i).length=r8 u c i:=oM;refine .r ?_;refine .e 6 ?_;refine .ca rfl rfl (wQ hu wc hmx s4 hi) ?_;refine c25z ?_;refine .c5 [2,3,4,7,8,10,11] ?_;refine .rz ?_;exact ⟨_,by omega,.v ⟨(i+1),⟨rfl,by omega⟩,rfl⟩ (he:=t171) (hk:=by exact (v5.refl _).app rfl ⟨.inl rfl,.inl rfl,.inl rfl,.inr (by rw[o3];exact (UN _).refs _),trivial⟩) (hs:=t14)⟩
  intro e2 qe2;refine .exit ?_;obtain rfl:i=c.insts.length:=by omega
  refine c8.uR (t:=10) (γ:=h.length+3) (len:=c.insts.length) t25 (by rw[mP,jG,Nat.mul_one]) (by omega) (UN _) (kO (by decide) rfl) ?_;rw[bT];simp only[n4,List.set_cons_succ,List.set_cons_zero];generalize fM _ _ _ _ _=Ib;change c8 ..;refine .seq ?_;refine .c5 [3,4,8,10] ?_;refine c14z ?_;refine .u0 (fun m st=>∃(E1:List Nat) (ag:Bool),(m=mEnt c E1 ag∧(EN u c mx E1∧(ag=false→E1=(gU u c mx))))∧st=⟨mkS 123 [(3,AV.ptr h.length 0 0),(4,AV.ptr (h.length+1) 0 0),(8,AV.own (h.length+2) 0 0 c.insts.length),(10,AV.vec c.insts.length (eO (sJ u c mx c.insts.length))),(12,AV.bool ag)],h++[⟨0,false,30,4,[.vec u.globals.length (g6 u.globals),.vec u.mutexes.length (c9 u.mutexes),.vec u.procs.length (g7 u.procs),.int .i64 u.main],0⟩,⟨0,false,34,3,[.vec c.insts.length (g9 c.insts),.vec c.calls.length (j8 c.calls),.vec c.roots.length (g6 c.roots)],0⟩,⟨0,false,3,1,E1.map j9,0⟩,Ib]⟩) (.v ⟨E,true,⟨rfl,⟨hG,fun hf=>by cases hf⟩⟩,rfl⟩) ?_;rintro m sl h' ⟨E1,ag,⟨hm,⟨hG1,hdone⟩⟩,hst⟩;obtain ⟨rfl,rfl⟩:=St.mk.inj hst;clear hst;refine c0z ?_;refine u2z ?_ ?_
  ·intro e3 qe3;refine c132z ?_;have hag:ag=true:=by assumption
   subst hag;refine .z ?_;refine c14z ?_;refine .u0 (fun m st=>∃(E2:List Nat) (a2:Bool) (i:Nat),(m=c.insts.length-i∧(M3 u c mx E1 E2 a2 i 0∧i≤c.insts.length))∧st=⟨mkS 123 [(3,AV.ptr h.length 0 0),(4,AV.ptr (h.length+1) 0 0),(8,AV.own (h.length+2) 0 0 c.insts.length),(10,AV.vec c.insts.length (eO (sJ u c mx c.insts.length))),(12,AV.bool a2),(13,AV.int .i64 ((i:Nat):Int))],h++[⟨0,false,30,4,[.vec u.globals.length (g6 u.globals),.vec u.mutexes.length (c9 u.mutexes),.vec u.procs.length (g7 u.procs),.int .i64 u.main],0⟩,⟨0,false,34,3,[.vec c.insts.length (g9 c.insts),.vec c.calls.length (j8 c.calls),.vec c.roots.length (g6 c.roots)],0⟩,⟨0,false,3,1,E2.map j9,0⟩,Ib]⟩) (.v ⟨E1,false,0,⟨rfl,⟨M3.start hG1,by omega⟩⟩,rfl⟩) ?_;rintro m sl h' ⟨E2,a2,i,⟨hm,⟨hJ,hi0⟩⟩,hst⟩;obtain ⟨rfl,rfl⟩:=St.mk.inj hst;clear hst;refine c0z ?_;refine u2z ?_ ?_
   ·intro e4 qe4;refine c2z ?_;have hi:i<c.insts.length:=by omega
    have w:=bK wc hi;have w1:=w.lo;have w2:=w.hi;have hsz:(c6 u (itI c i)).length≤1664:=n6 hu w;have hcll:(c.calls.getD i []).length=(c6 u (itI c i)).length:=wc.cll i hi;have hlI:r8 u c i=(c6 u (itI c i)).length:=rfl;have hTl:(kG u c mx (bR u c mx) i).length=r8 u c i:=oM;have hcall:∀j,j<r8 u c i→(dW u c i j).op=2→0≤(c.calls.getD i []).getD j 0∧(c.calls.getD i []).getD j 0<c.insts.length:=fun j hp ho=>by have:=(wc.call i hi j hp).1 (.inl ho);exact ⟨this.1,this.2.1⟩
    refine c14z ?_;refine .u0 (fun m st=>∃(E3:List Nat) (a3:Bool) (j:Nat),(m=r8 u c i-j∧(M3 u c mx E1 E3 a3 i j∧j≤r8 u c i))∧st=⟨mkS 123 [(3,AV.ptr h.length 0 0),(4,AV.ptr (h.length+1) 0 0),(8,AV.own (h.length+2) 0 0 c.insts.length),(10,AV.vec c.insts.length (eO (sJ u c mx c.insts.length))),(12,AV.bool a3),(13,AV.int .i64 ((i:Nat):Int)),(14,AV.int .i64 ((j:Nat):Int))],h++[⟨0,false,30,4,[.vec u.globals.length (g6 u.globals),.vec u.mutexes.length (c9 u.mutexes),.vec u.procs.length (g7 u.procs),.int .i64 u.main],0⟩,⟨0,false,34,3,[.vec c.insts.length (g9 c.insts),.vec c.calls.length (j8 c.calls),.vec c.roots.length (g6 c.roots)],0⟩,⟨0,false,3,1,E3.map j9,0⟩,Ib]⟩) (.v ⟨E2,a2,0,⟨rfl,⟨hJ,by omega⟩⟩,rfl⟩) ?_;rintro m sl h' ⟨E3,a3,j,⟨hm,⟨hJ1,hj0⟩⟩,hst⟩;obtain ⟨rfl,rfl⟩:=St.mk.inj hst;clear hst;have hE3:E3.length=c.insts.length:=hJ1.g.es.1;refine c0z ?_;refine u2z ?_ ?_
    ·intro e5 qe5;refine c2z ?_;refine .seq ?_;have hjp:j<r8 u c i:=by omega
     have hop0:(dW u c i j).op=((c6 u (itI c i)).getD j g0).op:=rfl;refine c250z ?_;refine u2z ?_ ?_
     ·intro e6 qe6;refine c8z ?_;refine c262z ?_;exact ⟨_,by omega,.v ⟨E3,a3,(j+1),⟨rfl,⟨hJ1.skip (fun ho=>absurd ho t202),by omega⟩⟩,rfl⟩ (he:=t11) (hk:=t72)⟩
     intro e6 qe6;refine .sk ?_;refine .c5 [3,4,8,10,12,13,14] ?_;have hop:(dW u c i j).op=2:=by rw[hop0];omega
     obtain ⟨hc1,hc2⟩:=hcall j hjp hop;obtain ⟨q,hqe⟩:∃q:Nat,(c.calls.getD i []).getD j 0=(q:Int):=⟨_,(Int.toNat_of_nonneg hc1).symm⟩;have hqc:eN c i j=q:=by unfold eN;rw[hqe];rfl
     have hTi:=(iP (u:=u) (c:=c) (m:=mx) (bR u c mx) i).get hjp;have hc3:=hc1;have hc4:=hc2;rw[hqe]at hc3 hc4;have hq3:q<c.insts.length:=by omega
     refine c129z ?_;refine .c5 [3,4,8,10,12,13,14,15] ?_;rw[hqe];have hfl:applyN ((kG u c mx (bR u c mx) i).getD j []) (E3.getD i 0)<512:=Nat.lt_of_lt_of_le (jE hTi _) (fE hk8).2;have hEq:E3.getD q 0<512:=hJ1.g.es.lt _ (j7 (by omega));have hne:(E3.getD q 0|||applyN ((kG u c mx (bR u c mx) i).getD j []) (E3.getD i 0))=E3.getD q 0↔∀b,(qH u c mx E3 i j).testBit b=true→bt E3 (eN c i j) b=true:=by rw[hqc];exact or_same
     refine .ss u9 (mkP 18 [0,0,3,7,0,0,48,112,0,496,1008,0,0,6144,14336,32752,65535,131071] []) ?_;refine .k 8 [] ?_;refine .k 7 [] ?_;refine .ca rfl rfl (BI _ _ (hTi.lt hk8) (hJ1.g.es.lt _ (j7 (by omega))) t205) ?_;refine .n [] ?_;refine .c5 [3,4,8,10,12,13,14,15,16] ?_;refine .z ?_;refine u2z ?_ ?_
     ·intro e7 qe7;refine c1z ?_;refine c262z ?_;exact ⟨_,by omega,.v ⟨(E3.set q (E3.getD q 0|||qH u c mx E3 i j)),true,(j+1),⟨rfl,⟨by rw[←hqc];exact hJ1.grow hu wc hi hjp hop (fun hs=>absurd (hne.2 hs) (by omega)),by omega⟩⟩,rfl⟩ (he:=t11) (hk:=t72)⟩
     intro e7 qe7;refine c4z ?_;refine c262z ?_;exact ⟨_,by omega,.v ⟨E3,a3,(j+1),⟨rfl,⟨hJ1.skip (fun _=>hne.1 (by omega)),by omega⟩⟩,rfl⟩ (he:=t11) (hk:=t72)⟩
    intro e5 qe5;refine .exit ?_;obtain rfl:j=r8 u c i:=by omega
    change c8 ..;refine .c5 [3,4,8,10,12,13] ?_;refine .rz ?_;exact ⟨_,by omega,.v ⟨E3,a3,(i+1),⟨rfl,⟨hJ1.fin,by omega⟩⟩,rfl⟩ (he:=t11) (hk:=t72)⟩
   intro e4 qe4;refine .exit ?_;obtain rfl:i=c.insts.length:=by omega
   have hlt:=mEnt_lt hJ;exact ⟨_,by omega,.v ⟨E2,a2,⟨rfl,⟨hJ.g,fun hf=>by subst hf;exact hJ.done hu wc⟩⟩,rfl⟩ (he:=t11) (hk:=t72)⟩
  intro e3 qe3;refine c94z ?_;exact ⟨_,_,rfl,Ed t25 (by omega) hG1.es.1,by (rw[hdone (by assumption)])⟩
end
section
attribute [local go_sem] UR
variable {u:Un}{c:Clo}{mx:Nat}
theorem c_exiR (hu:WU u)(wc:WC u c)(hmx:mx<u.mutexes.length):CB 35 [.agg [.vec u.globals.length (g6 u.globals),.vec u.mutexes.length (c9 u.mutexes),.vec u.procs.length (g7 u.procs),.int .i64 u.main],.agg [.vec c.insts.length (g9 c.insts),.vec c.calls.length (j8 c.calls),.vec c.roots.length (g6 c.roots)],.int .i64 ((mx:Nat):Int)] h (.vec c.insts.length ((wX u c mx).map j9)):=by
  refine .bz Tryz.f35 38 ?_;have hwl:=wc.len;have hk8:kM u mx≤8:=eV;have hk9:nS (u.mutexes.getD mx w5)≤8:=hk8;have hml:=hu.ml;have hrl:=wc.rl;have hrc:c.roots.length≤c.insts.length:=by have:=bB wc.rs wc.rr;omega
  have hel:(gU u c mx).length=c.insts.length:=aU;have hsl:(bR u c mx).length=c.insts.length:=s4.1;have hcl:=wc.cl;have hxl:(wX u c mx).length=c.insts.length:=fF;refine .z ?_;refine c76z ?_;refine .ca rfl rfl (Dv hu wc hmx) ?_;refine c252z ?_;refine .n [] ?_;refine .c5 [7,8] ?_;refine c17z ?_;refine c8.sB 9 rfl ?_;refine .u0 (fun m st=>∃(i:Nat),(m=c.insts.length-i∧(i≤c.insts.length))∧st=⟨mkS 38 [(7,AV.vec c.insts.length (l9 (bR u c mx))),(8,AV.vec c.insts.length ((gU u c mx).map j9)),(9,AV.own (h.length+2) i 0 i),(10,AV.int .i64 ((i:Nat):Int))],h++[⟨0,false,30,4,[.vec u.globals.length (g6 u.globals),.vec u.mutexes.length (c9 u.mutexes),.vec u.procs.length (g7 u.procs),.int .i64 u.main],0⟩,⟨0,false,34,3,[.vec c.insts.length (g9 c.insts),.vec c.calls.length (j8 c.calls),.vec c.roots.length (g6 c.roots)],0⟩,p9 3 1 i (((wX u c mx).take i).map j9)]⟩) (.v ⟨0,⟨rfl,by omega⟩,rfl⟩ (hs:=t14)) ?_;rintro m sl h' ⟨i,⟨hm,hi0⟩,hst⟩;obtain ⟨rfl,rfl⟩:=St.mk.inj hst;clear hst;have htk:((wX u c mx).take i).length=i:=by rw[List.length_take];omega
  refine c0z ?_;refine u2z ?_ ?_
  ·intro e1 qe1;refine c2z ?_;have hSi:=(s4 (u:=u) (c:=c) (m:=mx)).get (i:=i) (by omega);refine c8.jK u9 (mkP 13 [0,0,0,6,14,0,0,96,224,510,1022,2047,4095] [10,11]) [0] (by kernel_rfl) (by kernel_rfl) ?_;refine eE.p (pd:=[]) 9 ?_;refine eE.call rfl rfl rfl rfl rfl hb58 (BI _ _ (hSi.lt hk8) (oJ.lt _ (j7 (by omega))) (by have:=hSi.1;omega)) ?_;refine eE.p 3 ?_;refine c134z ?_;refine .c5 [7,8,9,10] ?_;refine .rz ?_;exact ⟨_,by omega,.v ⟨(i+1),⟨rfl,by omega⟩,rfl⟩ (he:=by (rw[mN (by omega),V2 (by omega)];simp only[List.append_assoc,List.cons_append,List.nil_append];rfl)) (hk:=by exact (v5.refl _).app rfl ⟨.inl rfl,.inl rfl,.inr (by rw[o3];exact (O8 _).refs _),trivial⟩) (hs:=t14)⟩
  intro e1 qe1;refine .exit ?_;obtain rfl:i=c.insts.length:=by omega
  refine c191z ?_;exact ⟨_,_,rfl,frz_OI t25 (by omega) htk (by omega),by (rw[List.take_of_length_le (by omega)])⟩
end
section
attribute [local go_sem] UP UQ
variable {u:Un}{c:Clo}{mx:Nat}
theorem XN (hu:WU u)(wc:WC u c)(hmx:mx<u.mutexes.length):CB 18 [.agg [.vec u.globals.length (g6 u.globals),.vec u.mutexes.length (c9 u.mutexes),.vec u.procs.length (g7 u.procs),.int .i64 u.main],.agg [.vec c.insts.length (g9 c.insts),.vec c.calls.length (j8 c.calls),.vec c.roots.length (g6 c.roots)],.int .i64 ((mx:Nat):Int)] h (.vec c.insts.length (l9 (dL u c mx))):=by
  refine .bz Tryz.f18 58 ?_;have hwl:=wc.len;have hk8:kM u mx≤8:=eV;have hk9:nS (u.mutexes.getD mx w5)≤8:=hk8;have hml:=hu.ml;have hrl:=wc.rl;have hrc:c.roots.length≤c.insts.length:=by have:=bB wc.rs wc.rr;omega
  have hel:(gU u c mx).length=c.insts.length:=aU;have hsl:(bR u c mx).length=c.insts.length:=s4.1;have hcl:=wc.cl;have hbl:(dL u c mx).length=c.insts.length:=bL;refine .z ?_;refine c76z ?_;refine .ca rfl rfl (Dv hu wc hmx) ?_;refine c252z ?_;refine .n [] ?_;refine .c5 [2,3,4,7,8] ?_;refine c17z ?_;refine c8.sB 9 rfl ?_;refine .u0 (fun m st=>∃(i:Nat),(m=c.insts.length-i∧(i≤c.insts.length))∧st=⟨mkS 58 [(2,AV.int .i64 ((mx:Nat):Int)),(3,AV.ptr h.length 0 0),(4,AV.ptr (h.length+1) 0 0),(7,AV.vec c.insts.length (l9 (bR u c mx))),(8,AV.vec c.insts.length ((gU u c mx).map j9)),(9,AV.own (h.length+2) i 0 i),(10,AV.int .i64 ((i:Nat):Int))],h++[⟨0,false,30,4,[.vec u.globals.length (g6 u.globals),.vec u.mutexes.length (c9 u.mutexes),.vec u.procs.length (g7 u.procs),.int .i64 u.main],0⟩,⟨0,false,34,3,[.vec c.insts.length (g9 c.insts),.vec c.calls.length (j8 c.calls),.vec c.roots.length (g6 c.roots)],0⟩,p9 22 1 i (l9 ((dL u c mx).take i))]⟩) (.v ⟨0,⟨rfl,by omega⟩,rfl⟩ (hs:=t14)) ?_;rintro m sl h' ⟨i,⟨hm,hi0⟩,hst⟩;obtain ⟨rfl,rfl⟩:=St.mk.inj hst;clear hst;have htk:((dL u c mx).take i).length=i:=by rw[List.length_take];omega
  refine c0z ?_;refine u2z ?_ ?_
  ·intro e1 qe1;refine c2z ?_;have hi:i<c.insts.length:=by omega
   have hsz:r8 u c i≤1664:=n6 hu (bK wc hi);have hTl:(kG u c mx (bR u c mx) i).length=r8 u c i:=oM;have hbi:(gC u c mx i).length=r8 u c i:=w4;have hlp:0<r8 u c i:=(dC hu (bK wc hi)).1;refine c22z ?_;refine .ca rfl rfl (wQ hu wc hmx s4 hi) ?_;refine .n ?_;refine .c5 [2,3,4,7,8,9,10,11] ?_;refine c17z ?_;refine c8.sB 12 rfl ?_;refine .u0 (fun m st=>∃(j:Nat),(m=r8 u c i-j∧(j≤r8 u c i))∧st=⟨mkS 58 [(2,AV.int .i64 ((mx:Nat):Int)),(3,AV.ptr h.length 0 0),(4,AV.ptr (h.length+1) 0 0),(7,AV.vec c.insts.length (l9 (bR u c mx))),(8,AV.vec c.insts.length ((gU u c mx).map j9)),(9,AV.own (h.length+2) i 0 i),(10,AV.int .i64 ((i:Nat):Int)),(11,AV.vec (r8 u c i) (l9 (kG u c mx (bR u c mx) i))),(12,AV.own (h.length+3) j 0 j),(13,AV.int .i64 ((j:Nat):Int))],h++[⟨0,false,30,4,[.vec u.globals.length (g6 u.globals),.vec u.mutexes.length (c9 u.mutexes),.vec u.procs.length (g7 u.procs),.int .i64 u.main],0⟩,⟨0,false,34,3,[.vec c.insts.length (g9 c.insts),.vec c.calls.length (j8 c.calls),.vec c.roots.length (g6 c.roots)],0⟩,p9 22 1 i (l9 ((dL u c mx).take i)),p9 3 1 j (((gC u c mx i).take j).map j9)]⟩) (.v ⟨0,⟨rfl,by omega⟩,rfl⟩ (hs:=t14)) ?_;rintro m sl h' ⟨j,⟨hm,hj0⟩,hst⟩;obtain ⟨rfl,rfl⟩:=St.mk.inj hst;clear hst;have htr:((gC u c mx i).take j).length=j:=by rw[List.length_take,w4];omega
   refine c0z ?_;refine u2z ?_ ?_
   ·intro e2 qe2;refine c2z ?_;have hTi:=(iP (u:=u) (c:=c) (m:=mx) (bR u c mx) i).get (i:=j) (by omega);refine c8.jK u9 (mkP 13 [0,0,0,6,14,0,0,96,224,510,1022,2047,4095] [10,11]) [0] (by kernel_rfl) (by kernel_rfl) ?_;refine eE.p (pd:=[]) 9 ?_;refine eE.call rfl rfl rfl rfl rfl hb58 (BI _ _ (hTi.lt hk8) (oJ.lt _ (j7 (by omega))) t205) ?_;refine eE.p 3 ?_;refine c134z ?_;refine .c5 [2,3,4,7,8,9,10,11,12,13] ?_;refine .rz ?_;exact ⟨_,by omega,.v ⟨(j+1),⟨rfl,by omega⟩,rfl⟩ (he:=by (rw[mN (by rw[w4];omega),tP (by omega)];simp only[List.append_assoc,List.cons_append,List.nil_append];rfl)) (hk:=by exact (v5.refl _).app rfl ⟨.inl rfl,.inl rfl,.inl rfl,.inr (by rw[o3];exact (O8 _).refs _),trivial⟩) (hs:=t14)⟩
   intro e2 qe2;refine .exit ?_;obtain rfl:j=r8 u c i:=by omega
   rw[List.take_of_length_le (Nat.le_of_eq hbi)];refine c8.uR (t:=12) (γ:=h.length+3) (len:=r8 u c i) t25 (by rw[List.length_map,hbi,Nat.mul_one]) (by omega) (O8 _) (kO (by decide) rfl) ?_;rw[bT];simp only[n4,List.set_cons_succ,List.set_cons_zero];generalize fM _ _ _ _ _=Ib;change c8 ..;refine c1z ?_;refine .c5 [2,3,4,7,8,9,10] ?_;refine .rz ?_;exact ⟨_,by omega,.v ⟨(i+1),⟨rfl,by omega⟩,rfl⟩ (he:=by (rw[EO (by omega),eD (by omega)];simp only[List.append_assoc,List.cons_append,List.nil_append];rfl)) (hk:=t95) (hs:=t14)⟩
  intro e1 qe1;refine .exit ?_;obtain rfl:i=c.insts.length:=by omega
  change c8 ..;refine .c5 [9] ?_;refine c24z ?_;exact ⟨_,_,rfl,Dt t25 (by omega) htk (by omega),by (rw[List.take_of_length_le (by omega)])⟩
end
end Go.Proofs.YtonbocmibeikmaaGreat
end
section
namespace Go.Proofs.YtonbocmibeikmaaGreat
open Go.Ab Go.Un
attribute [local go_sem] l8 aF p8 aM o2 Int.natCast_nonneg Int.natCast_inj List.length_map cH hB_1 hB_2 hB_5 Ai Aj Ak Al fA A9 fP S4
variable {c:Core}{e:Frame}{left I:Int}
theorem XO {l:c7}(hc:OkC c)(hI:OkI c.L I)(hL:c.L.length<4611686018427387904)(vars:List BA)(hN:vars.length<1000)(f:Fu)(hp:f.params.length≤2):CH 127 [.ptr 5 0 0,.agg (eA f),.vec vars.length (aB vars)] (hB c e I left++l) (.agg (Z1 (s9 c f.params vars I).1)) (hB c e (s9 c f.params vars I).2 left++l):=c_ref (e:=⟨e.b0,e.b1,e.b2,e.z,e.m,e.g,e.rest++l⟩) hc hI hL vars hN f hp
variable {n:Nat}
theorem BN {c:Core}{e:Frame}{I left:Int}{fb rb:Blk}{g:Nat}{zs:List AV}{x1 x2 x3 x4 x5 x6 x7:AV}(hz:zs.length=n*7)(hn:n<1000) :
    j6 cfg 214 (hB c e I left++[fb,rb,p9 214 7 g zs,⟨0,false,214,7,[x1,x2,x3,x4,x5,x6,x7],0⟩]) (.own (e.n+2) g 0 n) (.own (e.n+3) 0 0 1)=some (.own (e.n+2) (g+1) 0 (n+1),hB c e I left++[fb,rb,p9 214 7 (g+1) (zs++[x1,x2,x3,x4,x5,x6,x7]),⟨0,false,214,7,[x1,x2,x3,x4,x5,x6,x7],0⟩]):=by
  have hb:(hB c e I left++[fb,rb,p9 214 7 g zs,⟨0,false,214,7,[x1,x2,x3,x4,x5,x6,x7],0⟩])[e.n+2]?=some (p9 214 7 g zs):=fA;rw[u7 (C:=cfg) (K:=7) (m:=1) (new:=[x1,x2,x3,x4,x5,x6,x7]) hb rfl (by omega) hz rfl (by omega) t134 rfl (by decide) (by omega),fP];rfl
theorem MK {c:Core}{e:Frame}{I left:Int}{fb rb:Blk}{g:Nat}{zs:List AV}{x1 x2 x3:AV}{x:Ex}(hz:zs.length=n*7)(hn:n<1000) :
    j6 cfg 214 (hB c e I left++[fb,rb,p9 214 7 g zs,⟨0,false,214,7,x1::x2::x3::s8 x,0⟩]) (.own (e.n+2) g 0 n) (.own (e.n+3) 0 0 1)=some (.own (e.n+2) (g+1) 0 (n+1),hB c e I left++[fb,rb,p9 214 7 (g+1) (zs++x1::x2::x3::s8 x),⟨0,false,214,7,x1::x2::x3::s8 x,0⟩]):=by
  rw[bN];exact BN hz hn
variable {ps l:List Pm}{vars:List BA}{j:Nat}{J:Int}
theorem args_t (h:j<l.length)(hm:(l.getD j iA).mu=true):z5 c ps vars (l.drop j) J=(⟨true,(s9 c ps vars J).1,l4⟩::(z5 c ps vars (l.drop (j+1)) (s9 c ps vars J).2).1,(z5 c ps vars (l.drop (j+1)) (s9 c ps vars J).2).2):=by rw[List.drop_eq_getElem_cons h,z5,if_pos (by simpa [List.getD,h] using hm)]
theorem args_f (h:j<l.length)(hm:(l.getD j iA).mu=false):z5 c ps vars (l.drop j) J=(⟨false,n5,(g8 c vars J).1⟩::(z5 c ps vars (l.drop (j+1)) (g8 c vars J).2).1,(z5 c ps vars (l.drop (j+1)) (g8 c vars J).2).2):=by rw[List.drop_eq_getElem_cons h,z5,if_neg (by rw[show l[j].mu=(l.getD j iA).mu from by simp[List.getD,h],hm];decide)]
theorem yM {l:List Ar}{a:Ar}:bE (l++[a])=bE l++EV a:=by simp[bE]
theorem refs_A {l:List Ar}:∀x∈bE l,Refs n x:=by
  intro x hx;obtain ⟨a,_,hx⟩:=List.mem_flatMap.1 hx;simp only[EV,bN,List.mem_cons,List.not_mem_nil,or_false]at hx;rcases hx with rfl | rfl | rfl | rfl | rfl | rfl | rfl
  · exact .bool _
  · exact .str _
  · exact .vec _ _
  · exact .int _ _
  · exact .int _ _
  · exact .str _
  · exact .vec _ _
theorem M6 {J':Int}{xs:List Ar}{a:Ar}(h:z5 c ps vars l I=(xs++(z5 c ps vars (l.drop j) J).1,(z5 c ps vars (l.drop j) J).2))(hs:z5 c ps vars (l.drop j) J=(a::(z5 c ps vars (l.drop (j+1)) J').1,(z5 c ps vars (l.drop (j+1)) J').2)):z5 c ps vars l I=((xs++[a])++(z5 c ps vars (l.drop (j+1)) J').1,(z5 c ps vars (l.drop (j+1)) J').2):=by rw[h,hs];simp only[List.append_assoc,List.cons_append,List.nil_append]
section
attribute [local go_sem] fY wrap64 eA Z1 BN MK lC J4 zZ
theorem c_args (hc:OkC c)(hI:OkI c.L I)(hL:c.L.length<4611686018427387904)(vars:List BA)(hN:vars.length<1000)(f g:Fu)(hp:f.params.length≤2)(hq:g.params.length≤2):CH 129 [.ptr 5 0 0,.agg (eA f),.agg (eA g),.vec vars.length (aB vars)] (hB c e I left) (.vec (z5 c f.params vars g.params I).1.length (bE (z5 c f.params vars g.params I).1)) (hB c e (z5 c f.params vars g.params I).2 left):=by
  refine .wz Tryz.f129 40 ?_;refine c60z ?_;refine c8.sB 9 rfl ?_;refine .u0 (fun m st=>∃(j:Nat) (J:Int) (xs:List Ar),(m=g.params.length-j∧(j≤g.params.length∧OkI c.L J∧xs.length=j∧z5 c f.params vars g.params I=(xs++(z5 c f.params vars (g.params.drop j) J).1,(z5 c f.params vars (g.params.drop j) J).2)))∧st=⟨mkS 40 [(0,AV.ptr 5 0 0),(3,AV.vec vars.length (aB vars)),(5,AV.ptr e.n 0 0),(6,AV.ptr (e.n+1) 0 0),(9,AV.own (e.n+2) j 0 j),(10,AV.int .i64 ((j:Nat):Int))],hB c e J left++[⟨0,false,136,3,[.str f.name,.vec f.params.length (v9 f.params),.vec f.body.len (o9 f.body)],0⟩,⟨0,false,136,3,[.str g.name,.vec g.params.length (v9 g.params),.vec g.body.len (o9 g.body)],0⟩,p9 214 7 j (bE xs)]⟩) (.v ⟨0,I,[],⟨rfl,⟨by omega,hI,rfl,rfl⟩⟩,rfl⟩ (hs:=t37) (hr:=t1)) ?_;rintro m sl h' ⟨j,J,xs,⟨hm,⟨hj,hJ,hal,hA⟩⟩,hst⟩;obtain ⟨rfl,rfl⟩:=St.mk.inj hst;clear hst;have hz7:(bE xs).length=j*7:=by rw[cM,hal];omega
  refine c0z ?_;refine u2z ?_ ?_
  ·intro e1 qe1;refine c72z ?_;refine u2z ?_ ?_
   ·intro e2 qe2;refine .c5 [0,3,5,6,9,10] ?_;refine c166z ?_;refine .ch rfl rfl (XO hc hJ hL vars hN f hp) ?_;refine c25z ?_;refine .c5 [0,3,5,6,9,10] ?_;refine c8.nilsO (β:=e.n+2) (bE (xs++[(⟨true,(s9 c f.params vars J).1,l4⟩:Ar)])) t65 (by rw[yM];exact (oO.refl _).app RQ) ?_;simp only[fP,List.set_cons_succ,List.set_cons_zero];refine .rz ?_;exact ⟨_,by omega,.v ⟨(j+1),(s9 c f.params vars J).2,(xs++[(⟨true,(s9 c f.params vars J).1,l4⟩:Ar)]),⟨rfl,⟨by omega,(pN hc hJ).2,by simp[hal],M6 hA (args_t (by omega) (by assumption))⟩⟩,rfl⟩ (he:=t145) (hl:=t28) (hk:=t168) (hs:=t37) (hr:=t1)⟩
   intro e2 qe2;refine .c5 [0,3,5,6,9,10] ?_;refine .r ?_;refine .e 3 ?_;refine .ch rfl rfl (AN hc hJ hL vars hN) ?_;refine c25z ?_;refine c8.nilsO (β:=e.n+2) (bE (xs++[(⟨false,n5,(g8 c vars J).1⟩:Ar)])) t65 (by rw[yM];exact (oO.refl _).app JC) ?_;simp only[fP,List.set_cons_succ,List.set_cons_zero];refine .rz ?_;exact ⟨_,by omega,.v ⟨(j+1),(g8 c vars J).2,(xs++[(⟨false,n5,(g8 c vars J).1⟩:Ar)]),⟨rfl,⟨by omega,(iY hJ).2,by simp[hal],M6 hA (args_f (by omega) (by assumption))⟩⟩,rfl⟩ (he:=t145) (hl:=t28) (hk:=t168) (hs:=t37) (hr:=t1)⟩
  intro e1 qe1;refine c8z ?_;refine .c5 [9] ?_;refine c24z ?_;exact ⟨hB _ _ _ _,_,.vec xs.length (bE xs),rfl,t70,gT,by (show iL _ (hB c e J left++_) 6 (.own (e.n+2) j 0 j)=_;rw[cH,eF,if_neg (by omega),hal];exact jY fA (by omega) (by rw[cM,hal];omega) (by omega) frz_A),by refine ⟨?_,?_⟩<;>(rw[hA,List.drop_of_length_le (by omega)];simp only[z5,List.append_nil])⟩
end
end Go.Proofs.YtonbocmibeikmaaGreat
end
section
namespace Go.Proofs.YtonbocmibeikmaaGreat
open Go.Ab Go.Un
theorem c_argsA {c:Core}{e:Frame}{left I:Int}{l:c7}(hc:OkC c)(hI:OkI c.L I)(hL:c.L.length<4611686018427387904)(vars:List BA)(hN:vars.length<1000)(f g:Fu)(hp:f.params.length≤2)(hq:g.params.length≤2):CH 129 [.ptr 5 0 0,.agg (eA f),.agg (eA g),.vec vars.length (aB vars)] (hB c e I left++l) (.vec (z5 c f.params vars g.params I).1.length (bE (z5 c f.params vars g.params I).1)) (hB c e (z5 c f.params vars g.params I).2 left++l):=c_args (e:=⟨e.b0,e.b1,e.b2,e.z,e.m,e.g,e.rest++l⟩) hc hI hL vars hN f g hp hq
theorem sealC_n {l:List BA}:r6 oY (aB l)=some (aB l):=by
 induction l with
 | nil=>rfl
 | cons x l ih=>
  have e:oY (.str x)=some (.str x):=rfl;simp only[aB,List.map_cons,r6,e]at ih ⊢;rw[ih]
variable {β:Nat}
theorem US {H:c7}{b:Blk}(h:H[β]?=some b):H.set β b=H:=by obtain ⟨h1,h2⟩:=List.getElem?_eq_some_iff.1 h;rw[←h2];exact List.set_getElem_self h1
variable {g:Nat}
theorem Q0 {f:FuncId}{args args':List AV}{H:c7}{Q:AV→c7→Prop}{vs:List BA}(hb:H[β]?=some ⟨g,false,9,1,aB vs,vs.length⟩)(ha:CQ β g 0 vs.length (aB vs) args' args)(r:CallA Tryz.prog cfg f args' H Q):CallA Tryz.prog cfg f args H Q:=by
 have e:H.set β (dH ⟨g,false,9,1,aB vs,vs.length⟩ (0+vs.length*1))=H:=by rw[show dH ⟨g,false,9,1,aB vs,vs.length⟩ (0+vs.length*1)=⟨g,false,9,1,aB vs,vs.length⟩ from by simp[dH]];exact US hb
 refine CallA.GN (β:=β) (off:=0) (len:=vs.length) (cs:=aB vs) hb rfl (by simp[aF]) ?_ ha (by rw[e];exact r);simp only[List.drop_zero,Nat.mul_one];rw[List.take_of_length_le t160];exact sealC_n
theorem raise {c:Code}{sl:List AV}{h:c7}{Q:Exit→St→Prop}{k:Nat}{b:Blk}(hb:h[β]?=some b)(hk:b.frz≤k)(r:c8 Tryz.prog cfg c ⟨sl,h.set β ⟨b.gen,b.virt,b.elem,b.esz,b.cells,k⟩⟩ Q):c8 Tryz.prog cfg c ⟨sl,h⟩ Q:=by
 refine c8.step _ (fun B φ w i=>?_) r;have:=pB k i hb;have e:dH b k=⟨b.gen,b.virt,b.elem,b.esz,b.cells,k⟩:=by simp only[dH,Nat.max_eq_right hk]
 rw[e]at this;exact this
section
variable {c:Core}{e:Frame}{I left:Int}{l:c7}{fb:Blk}{gv:Nat}{vs:List BA}
theorem hB_v:(hB c e I left++(fb::⟨gv,false,9,1,aB vs,vs.length⟩::l))[e.n+1]?=some ⟨gv,false,9,1,aB vs,vs.length⟩:=fA
theorem nK (hc:OkC c)(hI:OkI c.L I)(hL:c.L.length<4611686018427387904)(hN:vs.length<1000):CH 128 [.ptr 5 0 0,.own (e.n+1) gv 0 vs.length] (hB c e I left++(fb::⟨gv,false,9,1,aB vs,vs.length⟩::l)) (.agg (s8 (g8 c vs I).1)) (hB c e (g8 c vs I).2 left++(fb::⟨gv,false,9,1,aB vs,vs.length⟩::l)):=
 Q0 (args':=[.ptr 5 0 0,.vec vs.length (aB vs)]) hB_v ⟨.inl rfl,.inr ⟨rfl,rfl⟩,trivial⟩ (AN hc hI hL vs hN)
theorem BO (hc:OkC c)(hI:OkI c.L I)(hL:c.L.length<4611686018427387904)(hN:vs.length<1000)(f:Fu)(hp:f.params.length≤2):CH 127 [.ptr 5 0 0,.agg (eA f),.own (e.n+1) gv 0 vs.length] (hB c e I left++(fb::⟨gv,false,9,1,aB vs,vs.length⟩::l)) (.agg (Z1 (s9 c f.params vs I).1)) (hB c e (s9 c f.params vs I).2 left++(fb::⟨gv,false,9,1,aB vs,vs.length⟩::l)):=
 Q0 (args':=[.ptr 5 0 0,.agg (eA f),.vec vs.length (aB vs)]) hB_v ⟨.inl rfl,.inl rfl,.inr ⟨rfl,rfl⟩,trivial⟩ (XO hc hI hL vs hN f hp)
theorem ML (hc:OkC c)(hI:OkI c.L I)(hL:c.L.length<4611686018427387904)(hN:vs.length<1000)(f g:Fu)(hp:f.params.length≤2)(hq:g.params.length≤2):CH 129 [.ptr 5 0 0,.agg (eA f),.agg (eA g),.own (e.n+1) gv 0 vs.length] (hB c e I left++(fb::⟨gv,false,9,1,aB vs,vs.length⟩::l)) (.vec (z5 c f.params vs g.params I).1.length (bE (z5 c f.params vs g.params I).1)) (hB c e (z5 c f.params vs g.params I).2 left++(fb::⟨gv,false,9,1,aB vs,vs.length⟩::l)):=
 Q0 (args':=[.ptr 5 0 0,.agg (eA f),.agg (eA g),.vec vs.length (aB vs)]) hB_v ⟨.inl rfl,.inl rfl,.inl rfl,.inr ⟨rfl,rfl⟩,trivial⟩ (c_argsA hc hI hL vs hN f g hp hq)
def M7 (c:Core)(f:Fu)(fu:Nat)(left:Int):Prop:=∀{e:Frame} (I l':Int) (vs all:List BA) (d m:Int),OkI c.L I→0≤l'→l'<left→0≤d→d≤100→0≤m→m≤100→(∀x∈vs,x∈all)→Fr l'.toNat all→vs.length+l'.toNat≤500→
 CallA Tryz.prog cfg 86 [.ptr 5 0 0,.agg (eA f),.vec vs.length (aB vs),.int .i64 d,.int .i64 m] (hB c e I l') (fun y' h'=>y'=.vec (g5 c f.params fu vs d m I l').1.len (o9 (g5 c f.params fu vs d m I l').1)∧h'=hB c e (g5 c f.params fu vs d m I l').2.1 (g5 c f.params fu vs d m I l').2.2)
theorem M7.V {f:Fu}{fu:Nat}{left0:Int}(h:M7 c f fu left0)(l':Int)(all:List BA)(d m:Int)(hI:OkI c.L I)(h1:0≤l')(h2:l'<left0)(h3:0≤d)(h4:d≤100)(h5:0≤m)(h6:m≤100)(h7:∀x∈vs,x∈all)(h8:Fr l'.toNat all)(h9:vs.length+l'.toNat≤500) :
  CallA Tryz.prog cfg 86 [.ptr 5 0 0,.agg (eA f),.own (e.n+1) gv 0 vs.length,.int .i64 d,.int .i64 m] (hB c e I l'++(fb::⟨gv,false,9,1,aB vs,vs.length⟩::l)) (fun y' h'=>y'=.vec (g5 c f.params fu vs d m I l').1.len (o9 (g5 c f.params fu vs d m I l').1)∧h'=hB c e (g5 c f.params fu vs d m I l').2.1 (g5 c f.params fu vs d m I l').2.2++(fb::⟨gv,false,9,1,aB vs,vs.length⟩::l)):=
 Q0 (args':=[.ptr 5 0 0,.agg (eA f),.vec vs.length (aB vs),.int .i64 d,.int .i64 m]) hB_v ⟨.inl rfl,.inl rfl,.inr ⟨rfl,rfl⟩,.inl rfl,.inl rfl,trivial⟩ (h (e:=⟨e.b0,e.b1,e.b2,e.z,e.m,e.g,e.rest++(fb::⟨gv,false,9,1,aB vs,vs.length⟩::l)⟩) I l' vs all d m hI h1 h2 h3 h4 h5 h6 h7 h8 h9)
def gO (g n:Nat):Nat:=if n=0 then g else g+1
theorem UT (hn:vs.length<1000):j6 cfg 9 (hB c e I left++[fb,⟨0,false,9,1,[],0⟩]) (.own (e.n+1) 0 0 0) (.vec vs.length (aB vs))=some (.own (e.n+1) (gO 0 vs.length) 0 vs.length,hB c e I left++[fb,⟨gO 0 vs.length,false,9,1,aB vs,0⟩]):=by
 have e1:cfg.sz 9=1:=rfl;have e2:(cfg.ti 9).bytes=16:=rfl;have hm:vs.length≤maxLen:=by
  have:(1000:Nat)≤maxLen:=by decide
  omega
 have hb:vs.length*16≤140737488355328:=by omega
 cases vs with
 | nil=>simp[j6,rd,lenOf,e1,e2,fA,gO,aB]
 | cons x vs=>
  have h0:(aB (x::vs)).length=vs.length+1:=by simp[aB]
  simp only[List.length_cons]at hm hb;simp[j6,rd,lenOf,e1,e2,fA,gO,h0,hm,hb,fP]
variable {t:Blk}
theorem app_vs {O p:Blk}{x:BA}(hn:vs.length<1000):j6 cfg 9 (hB c e I left++[fb,⟨gv,false,9,1,aB vs,vs.length⟩,O,t,p,⟨0,false,9,1,[.str x],0⟩]) (.own (e.n+1) gv 0 vs.length) (.own (e.n+5) 0 0 1)=some (.own (e.n+1) (gv+1) 0 (vs.length+1),hB c e I left++[fb,⟨gv+1,false,9,1,aB (vs++[x]),vs.length⟩,O,t,p,⟨0,false,9,1,[.str x],0⟩]):=by
 have e1:cfg.sz 9=1:=rfl;have e2:(cfg.ti 9).bytes=16:=rfl;have hm:vs.length+1≤maxLen:=by
  have:(1001:Nat)≤maxLen:=by decide
  omega
 have hb:(vs.length+1)*16≤140737488355328:=by omega
 have ht:List.take vs.length (aB vs)=aB vs:=List.take_of_length_le t160;have hnl:¬vs.length+1≤vs.length:=by omega
 simp[j6,rd,lenOf,e1,e2,fA,aF,hm,hb,fP,ht,hnl,jZ]
variable {n:Nat}{zs:List AV}
theorem UU {vb t:Blk}{g:Nat}{x1 x2 x3 x4 x5 x6 x7 x8 x9 x10 x11:AV}(hz:zs.length=n*11)(hn:n<1000) :
  j6 cfg 190 (hB c e I left++[fb,vb,p9 190 11 g zs,t,⟨0,false,190,11,[x1,x2,x3,x4,x5,x6,x7,x8,x9,x10,x11],0⟩]) (.own (e.n+2) g 0 n) (.own (e.n+4) 0 0 1)=some (.own (e.n+2) (g+1) 0 (n+1),hB c e I left++[fb,vb,p9 190 11 (g+1) (zs++[x1,x2,x3,x4,x5,x6,x7,x8,x9,x10,x11]),t,⟨0,false,190,11,[x1,x2,x3,x4,x5,x6,x7,x8,x9,x10,x11],0⟩]):=by
 have hb:(hB c e I left++[fb,vb,p9 190 11 g zs,t,⟨0,false,190,11,[x1,x2,x3,x4,x5,x6,x7,x8,x9,x10,x11],0⟩])[e.n+2]?=some (p9 190 11 g zs):=fA;rw[u7 (C:=cfg) (K:=11) (m:=1) (new:=[x1,x2,x3,x4,x5,x6,x7,x8,x9,x10,x11]) hb rfl (by omega) hz rfl (by omega) t134 rfl (by decide) (by omega),fP];rfl
theorem UW {vb t u:Blk}{g:Nat}{x1 x2 x3 x4 x5 x6 x7 x8 x9 x10 x11:AV}(hz:zs.length=n*11)(hn:n<1000) :
  j6 cfg 190 (hB c e I left++[fb,vb,p9 190 11 g zs,t,u,⟨0,false,190,11,[x1,x2,x3,x4,x5,x6,x7,x8,x9,x10,x11],0⟩]) (.own (e.n+2) g 0 n) (.own (e.n+5) 0 0 1)=some (.own (e.n+2) (g+1) 0 (n+1),hB c e I left++[fb,vb,p9 190 11 (g+1) (zs++[x1,x2,x3,x4,x5,x6,x7,x8,x9,x10,x11]),t,u,⟨0,false,190,11,[x1,x2,x3,x4,x5,x6,x7,x8,x9,x10,x11],0⟩]):=by
 have hb:(hB c e I left++[fb,vb,p9 190 11 g zs,t,u,⟨0,false,190,11,[x1,x2,x3,x4,x5,x6,x7,x8,x9,x10,x11],0⟩])[e.n+2]?=some (p9 190 11 g zs):=fA;rw[u7 (C:=cfg) (K:=11) (m:=1) (new:=[x1,x2,x3,x4,x5,x6,x7,x8,x9,x10,x11]) hb rfl (by omega) hz rfl (by omega) t134 rfl (by decide) (by omega),fP];rfl
theorem BP {vb t u v:Blk}{g:Nat}{x1 x2 x3 x4 x5 x6 x7 x8 x9 x10 x11:AV}(hz:zs.length=n*11)(hn:n<1000) :
  j6 cfg 190 (hB c e I left++[fb,vb,p9 190 11 g zs,t,u,v,⟨0,false,190,11,[x1,x2,x3,x4,x5,x6,x7,x8,x9,x10,x11],0⟩]) (.own (e.n+2) g 0 n) (.own (e.n+6) 0 0 1)=some (.own (e.n+2) (g+1) 0 (n+1),hB c e I left++[fb,vb,p9 190 11 (g+1) (zs++[x1,x2,x3,x4,x5,x6,x7,x8,x9,x10,x11]),t,u,v,⟨0,false,190,11,[x1,x2,x3,x4,x5,x6,x7,x8,x9,x10,x11],0⟩]):=by
 have hb:(hB c e I left++[fb,vb,p9 190 11 g zs,t,u,v,⟨0,false,190,11,[x1,x2,x3,x4,x5,x6,x7,x8,x9,x10,x11],0⟩])[e.n+2]?=some (p9 190 11 g zs):=fA;rw[u7 (C:=cfg) (K:=11) (m:=1) (new:=[x1,x2,x3,x4,x5,x6,x7,x8,x9,x10,x11]) hb rfl (by omega) hz rfl (by omega) t134 rfl (by decide) (by omega),fP];rfl
variable {m:Nat}{cs:List AV}
theorem MM {vb t u s:Blk}{g:Nat}(hz:zs.length=n*11)(hcs:cs.length=m*11)(hn:n<1000)(hm:m<1000) :
  j6 cfg 190 (hB c e I left++[fb,vb,p9 190 11 g zs,t,u,s]) (.own (e.n+2) g 0 n) (.vec m cs)=some (.own (e.n+2) (gO g m) 0 (n+m),hB c e I left++[fb,vb,p9 190 11 (gO g m) (zs++cs),t,u,s]):=by
 have hb:(hB c e I left++[fb,vb,p9 190 11 g zs,t,u,s])[e.n+2]?=some (p9 190 11 g zs):=fA;by_cases h0:m=0
 ·subst h0;obtain rfl:cs=[]:=List.length_eq_zero_iff.1 (by simpa using hcs);have e1:cfg.sz 190=11:=rfl;have e2:(cfg.ti 190).bytes=192:=rfl;have hmx:n≤maxLen:=by
   have:(1000:Nat)≤maxLen:=by decide
   omega
  have hbd:n*192≤140737488355328:=by omega
  simp[j6,rd,lenOf,e1,e2,hb,Y1,gO,hmx,hbd]
 ·rw[u7 (C:=cfg) (K:=11) (m:=m) (new:=cs) hb rfl (by omega) hz hcs (by omega) rfl rfl (by decide) (by omega),fP];simp only[gO,h0,if_false];rfl
theorem UX {vb t u s:Blk}{g:Nat}{y1 y2 y3 y4 y5 y6 y7 y8 y9 y10 y11:AV}(hz:zs.length=n*11)(hcs:cs.length=m*11)(hn:n<900)(hm:m<1000) :
  j6 cfg 190 (hB c e I left++[fb,vb,p9 190 11 g (zs++[y1,y2,y3,y4,y5,y6,y7,y8,y9,y10,y11]),t,u,s]) (.own (e.n+2) g 0 (n+1)) (.vec m cs)=some (.own (e.n+2) (gO g m) 0 (n+1+m),hB c e I left++[fb,vb,p9 190 11 (gO g m) ((zs++[y1,y2,y3,y4,y5,y6,y7,y8,y9,y10,y11])++cs),t,u,s]):=
 MM (by rw[List.length_append,hz];simp;omega) hcs (by omega) hm
theorem UY {vb t u v:Blk}{g:Nat}{y1 y2 y3 y4 y5 y6 y7 y8 y9 y10 y11 x1 x2 x3 x4 x5 x6 x7 x8 x9 x10 x11:AV}(hz:zs.length=n*11)(hcs:cs.length=m*11)(hn:n<400)(hm:m<400) :
  j6 cfg 190 (hB c e I left++[fb,vb,p9 190 11 g (zs++y1::y2::y3::y4::y5::y6::y7::y8::y9::y10::y11::cs),t,u,v,⟨0,false,190,11,[x1,x2,x3,x4,x5,x6,x7,x8,x9,x10,x11],0⟩]) (.own (e.n+2) g 0 (n+1+m)) (.own (e.n+6) 0 0 1)=some (.own (e.n+2) (g+1) 0 (n+1+m+1),hB c e I left++[fb,vb,p9 190 11 (g+1) ((zs++y1::y2::y3::y4::y5::y6::y7::y8::y9::y10::y11::cs)++[x1,x2,x3,x4,x5,x6,x7,x8,x9,x10,x11]),t,u,v,⟨0,false,190,11,[x1,x2,x3,x4,x5,x6,x7,x8,x9,x10,x11],0⟩]):=
 BP (by rw[List.length_append,hz];simp only[List.length_cons,hcs];omega) (by omega)
end
theorem XP {n:Nat}:∀(s:Sl),∀x∈o9 s,Refs n x
 | .nil,x,hx=>by simp[o9]at hx
 | .cons k nm e r as' th el rest,x,hx=>by
  simp only[o9,bN,List.cons_append,List.nil_append,List.mem_cons]at hx;rcases hx with rfl | rfl | rfl | rfl | rfl | rfl | rfl | rfl | rfl | rfl | rfl | hx
  ·exact .int _ _
  ·exact .str _
  ·exact .int _ _
  ·exact .int _ _
  ·exact .str _
  ·exact .vec _ _
  ·exact .str _
  ·exact .vec _ _
  ·exact .vec _ _
  ·exact .vec _ _
  ·exact .vec _ _
  ·exact XP rest x hx
theorem frz_S {n d:Nat}{H:c7}:∀(s:Sl),r6 (lK n H (d+1)) (o9 s)=some (o9 s)
 | .nil=>rfl
 | .cons k nm e r as' th el rest=>by have ih:=frz_S (n:=n) (d:=d) (H:=H) rest;simp only[o9,bN,List.cons_append,List.nil_append,r6,sT,pI,mW,ih]
theorem aV {k:Int}{nm:BA}{x:Ex}{r:Rf}{xs:List Ar}{th el:Sl}{a b c d f:AV}(ha:a=.vec x.args.length (n7 x.args)∨(a=.nils∧x.args=[]))(hb:b=.vec r.idx.length (n7 r.idx)∨(b=.nils∧r.idx=[]))(hc:c=.vec xs.length (bE xs)∨(c=.nils∧xs=[]))
  (hd:d=.vec th.len (o9 th)∨(d=.nils∧th=.nil)) (hf:f=.vec el.len (o9 el)∨(f=.nils∧el=.nil)) :
  oO (o9 (row k nm x r xs th el)) [.int .i64 k,.str nm,.int .i64 x.op,.int .i64 x.num,.str x.name,a,.str r.name,b,c,d,f]:=by
 simp only[row,o9,bN,List.cons_append,List.nil_append];refine ⟨.inl rfl,.inl rfl,.inl rfl,.inl rfl,.inl rfl,?_,.inl rfl,?_,?_,?_,?_,trivial⟩
 ·rcases ha with rfl | ⟨rfl,h⟩
  ·exact .inl rfl
  ·rw[h];exact .inr ⟨rfl,rfl⟩
 ·rcases hb with rfl | ⟨rfl,h⟩
  ·exact .inl rfl
  ·rw[h];exact .inr ⟨rfl,rfl⟩
 ·rcases hc with rfl | ⟨rfl,h⟩
  ·exact .inl rfl
  ·rw[h];exact .inr ⟨rfl,rfl⟩
 ·rcases hd with rfl | ⟨rfl,h⟩
  ·exact .inl rfl
  ·rw[h];exact .inr ⟨rfl,rfl⟩
 ·rcases hf with rfl | ⟨rfl,h⟩
  ·exact .inl rfl
  ·rw[h];exact .inr ⟨rfl,rfl⟩
theorem kI {k:Int}{nm:BA}{x:Ex}{r:Rf}{xs:List Ar}{th el:Sl}:o9 (row k nm x r xs th el)=[.int .i64 k,.str nm,.int .i64 x.op,.int .i64 x.num,.str x.name,.vec x.args.length (n7 x.args),.str r.name,.vec r.idx.length (n7 r.idx),.vec xs.length (bE xs),.vec th.len (o9 th),.vec el.len (o9 el)]:=by simp only[row,o9,bN,List.cons_append,List.nil_append]
theorem wrap8 {n:Int}(h1:0≤n)(h2:n<256):IntKind.wrap .u8 n=n:=by unfold IntKind.wrap;have e1:(2:Int)^IntKind.bits .u8=256:=rfl;have e3:IntKind.signed .u8=false:=rfl;simp only[e1,e3,Bool.false_and,Bool.false_eq_true,if_false];omega
theorem vnm_eq {l:Int}(h0:0≤l)(h1:l<24):(⟨#[118]⟩:BA)++(⟨#[UInt8.ofNat (97+l.tmod 26).toNat,UInt8.ofNat (97+(l.tdiv 26).tmod 26).toNat]⟩:BA)=vnm l.toNat:=by
 obtain ⟨n,rfl⟩:=Int.eq_ofNat_of_zero_le h0;have key:∀n:Fin 24,(⟨#[118]⟩:BA)++(⟨#[UInt8.ofNat (97+((n.1:Nat):Int).tmod 26).toNat,UInt8.ofNat (97+(((n.1:Nat):Int).tdiv 26).tmod 26).toNat]⟩:BA)=vnm n.1:=by decide +kernel
 exact key ⟨n,by omega⟩
theorem tm26 {l:Int}(h0:0≤l):0≤l.tmod 26∧l.tmod 26<26:=⟨Int.tmod_nonneg _ h0,Int.tmod_lt_of_pos _ (by omega)⟩
theorem td26 {l:Int}(h0:0≤l)(h1:l<24):l.tdiv 26=0:=by
 obtain ⟨n,rfl⟩:=Int.eq_ofNat_of_zero_le h0;have key:∀n:Fin 24,(((n.1:Nat):Int).tdiv 26)=0:=by decide
 exact key ⟨n,by omega⟩
end Go.Proofs.YtonbocmibeikmaaGreat
end
