/- My own texts, put together by a program of mine. -/
import Derived.Test.YtonbocmibeikmaaGreatIP6
set_option linter.unusedSimpArgs false
set_option linter.unusedVariables false
set_option maxRecDepth 100000
set_option maxHeartbeats 4000000
section
namespace Go.Un
open Go.Ab
section
variable {k n:Nat}{nx:Nat→List Int}{st:Nat→List Nat}
structure Gro (k n:Nat)(nx:Nat→List Int)(st:Nat→List Nat)(T:List (List Nat)):Prop where
 tb:Tb k n T
 id:Sub (dhN k 0) (T.getD 0 [])
 le:nX T (eC k n nx st)
variable {a b:List Nat}
theorem lK (ha:Rl k a)(hb:Rl k b):Sub a (dD a b):=fun d e h=>(tV ha hb).2 (.inl h)
theorem wL (ha:Rl k a)(hb:Rl k b):Sub b (dD a b):=fun d e h=>(tV ha hb).2 (.inr h)
theorem sL {c:List Nat}(ha:Rl k a)(hb:Rl k b)(h1:Sub a c)(h2:Sub b c):Sub (dD a b) c:=fun d e h=>((tV ha hb).1 h).elim (h1 d e) (h2 d e)
theorem eR (ha:Rl k a)(hb:Rl k b):dD a b=a↔Sub b a:=
 ⟨fun h=>by have:=wL ha hb;rw[h]at this;exact this,fun h=>Sub.Cv (qK ha hb) ha (sL ha hb (Sub.refl _) h) (lK ha hb)⟩
theorem Gro.start (p:Pro k n nx st):Gro k n nx st ((List.replicate n (List.replicate (k+1) 0)).set 0 (dhN k 0)):=by
 have hl:0<(List.replicate n (List.replicate (k+1) 0)).length:=by rw[List.length_replicate];exact p.pos
 have tb:Tb k n (List.replicate n (List.replicate (k+1) 0)):=⟨by simp,fun r hr=>by rw[List.eq_of_mem_replicate hr];exact S6 _⟩;refine ⟨tb.set (Cw _ _),by rw[eI hl,if_pos rfl];exact Sub.refl _,fun i=>?_⟩;rw[eI hl];split
 ·rename_i e;subst e;exact (AP p).id
 ·intro d e h;rw[List.getD_eq_getElem?_getD,List.getElem?_replicate]at h;split at h
  ·rw[show ((some (List.replicate (k+1) 0):Option (List Nat)).getD [])=List.replicate (k+1) 0 from rfl,wB]at h;cases h
  ·simp[bt]at h
variable {T:List (List Nat)}{pc:Nat}
theorem Gro.aft (p:Pro k n nx st)(g:Gro k n nx st T)(hp:pc<n):Rl k (p7 (T.getD pc []) (st pc))∧∀q∈nx pc,Sub (p7 (T.getD pc []) (st pc)) ((eC k n nx st).getD q.toNat []):=by refine ⟨nL (g.tb.get hp) (p.st pc hp),fun q hq d e h=>?_⟩;obtain ⟨f,h1,h2⟩:=(iM (g.tb.get hp) (p.st pc hp)).1 h;exact (AP p).at' pc hp q hq d e ((iM ((qN k n nx st).get hp) (p.st pc hp)).2 ⟨f,g.le pc d f h1,h2⟩)
variable {q:Nat}
theorem Gro.set (g:Gro k n nx st T)(hq:q<n)(ha:Rl k a)(hs:Sub a ((eC k n nx st).getD q [])):Gro k n nx st (T.set q (dD (T.getD q []) a))∧nX T (T.set q (dD (T.getD q []) a)):=by
 have hl:q<T.length:=by rw[g.tb.1];exact hq
 have hs':nX T (T.set q (dD (T.getD q []) a)):=fun i=>by
  rw[eI hl];split
  ·rename_i e;subst e;exact lK (g.tb.get hq) ha
  ·exact Sub.refl _
 refine ⟨⟨g.tb.set (qK (g.tb.get hq) ha),g.id.trans (hs' 0),fun i=>?_⟩,hs'⟩;rw[eI hl];split
 ·rename_i e;subst e;exact sL (g.tb.get hq) ha (g.le i) hs
 ·exact g.le i
theorem SR.mono {T':List (List Nat)}(c:SR nx st T pc)(he:T'.getD pc []=T.getD pc [])(hs:nX T T'):SR nx st T' pc:=fun q hq=>by rw[he];exact (c q hq).trans (hs _)
theorem Gro.done (p:Pro k n nx st)(g:Gro k n nx st T)(h:∀pc,pc<n→SR nx st T pc):T=eC k n nx st:=ClT.eq p ⟨g.tb,g.id,h⟩ g.le
structure NA (k n:Nat)(nx:Nat→List Int)(st:Nat→List Nat)(T:List (List Nat))(todo:List Nat):Prop where
 g:Gro k n nx st T
 td:∀x∈todo,x<n
 cl:∀pc,pc<n→pc∉todo→SR nx st T pc
theorem NA.start (p:Pro k n nx st):NA k n nx st ((List.replicate n (List.replicate (k+1) 0)).set 0 (dhN k 0)) [0]:=by
 refine ⟨Gro.start p,by simp;exact p.pos,fun pc hp hm q hq d e h=>?_⟩;have hl:0<(List.replicate n (List.replicate (k+1) 0)).length:=by rw[List.length_replicate];exact p.pos
 obtain ⟨f,h1,_⟩:=(iM ((Gro.start p).tb.get hp) (p.st pc hp)).1 h;rw[eI hl,if_neg (by simpa using hm),List.getD_eq_getElem?_getD,List.getElem?_replicate,if_pos hp]at h1;rw[show ((some (List.replicate (k+1) 0):Option (List Nat)).getD [])=List.replicate (k+1) 0 from rfl,wB]at h1;cases h1
structure KT (k n:Nat)(nx:Nat→List Int)(st:Nat→List Nat)(pc:Nat)(R0:List Nat)(t0 l0:Nat)(T:List (List Nat))(todo:List Nat)(j:Nat):Prop where
 g:Gro k n nx st T
 td:∀x∈todo,x<n
 cl:∀p,p<n→p∉todo→p≠pc→SR nx st T p
 own:pc∈todo∨T.getD pc []=R0
 dn:∀d,d<j→Sub (p7 R0 (st pc)) (T.getD ((nx pc).getD d 0).toNat [])
 me:todo.length+t0≤l0+tot T
 mo:t0≤tot T
variable {todo:List Nat}
theorem NA.pop (h:NA k n nx st T (todo++[pc])):pc<n∧KT k n nx st pc (T.getD pc []) (tot T) todo.length T todo 0:=by refine ⟨h.td pc (by simp),h.g,fun x hx=>h.td x (by simp[hx]),fun p hp hm hne=>h.cl p hp (by simp[hm,hne]),.inr rfl,fun d hd=>by omega,Nat.le_refl _,Nat.le_refl _⟩
variable {t0 l0 j:Nat}{R0:List Nat}
theorem KT.skip (h:KT k n nx st pc R0 t0 l0 T todo j)(hs:Sub (p7 R0 (st pc)) (T.getD ((nx pc).getD j 0).toNat [])):KT k n nx st pc R0 t0 l0 T todo (j+1):=
 ⟨h.g,h.td,h.cl,h.own,fun d hd=>if e:d=j then by rw[e];exact hs else h.dn d (by omega),h.me,h.mo⟩
theorem KT.grow (p:Pro k n nx st)(hp:pc<n)(h:KT k n nx st pc R0 t0 l0 T todo j)(hR:Rl k (p7 R0 (st pc)))(hle:∀q∈nx pc,Sub (p7 R0 (st pc)) ((eC k n nx st).getD q.toNat []))(hj:j<(nx pc).length)(hqe:((nx pc).getD j 0).toNat=q)(hs:¬Sub (p7 R0 (st pc)) (T.getD q [])):KT k n nx st pc R0 t0 l0 (T.set q (dD (T.getD q []) (p7 R0 (st pc)))) (todo++[q]) (j+1):=by
 have hqm:(nx pc).getD j 0∈nx pc:=g8 hj;have hq:q<n:=by have:=p.nx pc hp _ hqm;omega
 obtain ⟨g',hs'⟩:=h.g.set hq hR (by have:=hle _ hqm;rwa[hqe]at this);have hl:q<T.length:=by rw[h.g.tb.1];exact hq
 have h2:=C3 h.g.tb hq (qK (h.g.tb.get hq) hR) (lK (h.g.tb.get hq) hR) (fun he=>hs ((eR (h.g.tb.get hq) hR).1 he.symm));refine ⟨g',fun x hx=>?_,fun p' hp' hm hne=>?_,?_,fun d hd=>?_,?_,by have:=h.mo;omega⟩
 ·rcases List.mem_append.1 hx with hx | hx
  ·exact h.td x hx
  ·rw[List.mem_singleton]at hx;omega
 ·simp only[List.mem_append,List.mem_singleton,not_or]at hm;exact (h.cl p' hp' hm.1 hne).mono (by rw[eI hl,if_neg hm.2]) hs'
 ·rcases h.own with ho | ho
  ·exact .inl (by simp[ho])
  ·by_cases e:pc=q
   ·exact .inl (by simp[e])
   ·exact .inr (by rw[eI hl,if_neg e];exact ho)
 ·by_cases e:d=j
  ·rw[e,hqe,eI hl,if_pos rfl];exact wL (h.g.tb.get hq) hR
  ·exact (h.dn d (by omega)).trans (hs' _)
 ·have h1:=h.me;rw[List.length_append,List.length_singleton];omega
theorem KT.fin (hp:pc<n)(h:KT k n nx st pc R0 t0 l0 T todo (nx pc).length):NA k n nx st T todo:=by
 refine ⟨h.g,h.td,fun p hp' hm=>?_⟩;by_cases e:p=pc
 ·subst e;intro q hq;rcases h.own with ho | ho
  ·exact absurd ho hm
  ·obtain ⟨d,hd,rfl⟩:=List.getElem_of_mem hq;have:=h.dn d hd;rw[←ho]at this;simpa [List.getD,hd] using this
 ·exact h.cl p hp' hm e
theorem NA.done (p:Pro k n nx st)(h:NA k n nx st T []):T=eC k n nx st:=h.g.done p fun pc hp=>h.cl pc hp (by simp)
def WV (n:Nat)(T:List (List Nat))(l:Nat):Nat:=2*(4608*n-tot T)+l
variable {T0:List (List Nat)}
theorem mRun_lt (hk:k≤8)(h:KT k n nx st pc R0 (tot T0) l0 T todo j)(h0:Gro k n nx st T0):WV n T todo.length<WV n T0 (l0+1):=by have h1:=h.me;have h2:=K9 hk h.g.tb;have h3:=K9 hk h0.tb;have h4:=h.mo;unfold WV;omega
structure NB (k n:Nat)(nx:Nat→List Int)(st:Nat→List Nat)(T0 T:List (List Nat))(again:Bool)(pc:Nat):Prop where
 g:Gro k n nx st T
 le:tot T0≤tot T
 yes:again=true→tot T0<tot T
 no:again=false→T=T0∧∀p,p<pc→SR nx st T p
theorem NB.start (g:Gro k n nx st T):NB k n nx st T T false 0:=⟨g,Nat.le_refl _,fun h=>by (cases h),fun _=>⟨rfl,fun p hp=>by omega⟩⟩
structure KU (k n:Nat)(nx:Nat→List Int)(st:Nat→List Nat)(T0 T:List (List Nat))(again:Bool)(pc:Nat)(R0:List Nat)(j:Nat):Prop where
 g:Gro k n nx st T
 le:tot T0≤tot T
 yes:again=true→tot T0<tot T
 no:again=false→T=T0∧(∀p,p<pc→SR nx st T p)∧R0=T.getD pc []∧∀d,d<j→Sub (p7 R0 (st pc)) (T.getD ((nx pc).getD d 0).toNat [])
variable {again:Bool}
theorem NB.go (h:NB k n nx st T0 T again pc):KU k n nx st T0 T again pc (T.getD pc []) 0:=
 ⟨h.g,h.le,h.yes,fun e=>⟨(h.no e).1,(h.no e).2,rfl,fun d hd=>by omega⟩⟩
theorem KU.skip (h:KU k n nx st T0 T again pc R0 j)(hs:Sub (p7 R0 (st pc)) (T.getD ((nx pc).getD j 0).toNat [])):KU k n nx st T0 T again pc R0 (j+1):=
 ⟨h.g,h.le,h.yes,fun e=>⟨(h.no e).1,(h.no e).2.1,(h.no e).2.2.1,fun d hd=>if e2:d=j then by rw[e2];exact hs else (h.no e).2.2.2 d (by omega)⟩⟩
theorem KU.grow (p:Pro k n nx st)(hp:pc<n)(h:KU k n nx st T0 T again pc R0 j)(hR:Rl k (p7 R0 (st pc)))(hle:∀q∈nx pc,Sub (p7 R0 (st pc)) ((eC k n nx st).getD q.toNat []))(hj:j<(nx pc).length)(hqe:((nx pc).getD j 0).toNat=q)(hs:¬Sub (p7 R0 (st pc)) (T.getD q [])):KU k n nx st T0 (T.set q (dD (T.getD q []) (p7 R0 (st pc)))) true pc R0 (j+1):=by
 have hqm:(nx pc).getD j 0∈nx pc:=g8 hj;have hq:q<n:=by have:=p.nx pc hp _ hqm;omega
 obtain ⟨g',hs'⟩:=h.g.set hq hR (by have:=hle _ hqm;rwa[hqe]at this);have h2:=C3 h.g.tb hq (qK (h.g.tb.get hq) hR) (lK (h.g.tb.get hq) hR) (fun he=>hs ((eR (h.g.tb.get hq) hR).1 he.symm));have h3:=h.le;exact ⟨g',by omega,fun _=>by omega,fun e=>by cases e⟩
theorem KU.fin (h:KU k n nx st T0 T again pc R0 (nx pc).length):NB k n nx st T0 T again (pc+1):=by
 refine ⟨h.g,h.le,h.yes,fun e=>⟨(h.no e).1,fun p hp=>?_⟩⟩;obtain ⟨h1,h2,h3,h4⟩:=h.no e;by_cases e2:p=pc
 ·subst e2;intro q hq;obtain ⟨d,hd,rfl⟩:=List.getElem_of_mem hq;have:=h4 d hd;rw[h3]at this;simpa [List.getD,hd] using this
 ·exact h2 p (by omega)
theorem NB.done (p:Pro k n nx st)(h:NB k n nx st T0 T false n):T=eC k n nx st:=h.g.done p (h.no rfl).2
def WW (n:Nat)(T:List (List Nat))(again:Bool):Nat:=if again then 4608*n-tot T+1 else 0
theorem mPas_lt (hk:k≤8)(h:NB k n nx st T0 T again pc):WW n T again<WW n T0 true:=by
 have h1:=K9 hk h.g.tb;unfold WW;cases again
 ·simp
 ·have:=h.yes rfl;simp only[if_true];omega
end
section
variable {u:Un}{c:Clo}{m:Nat}
structure OfI (u:Un)(c:Clo)(m:Nat)(S0 S:List (List Nat))(again:Bool)(i:Nat):Prop where
 low:Low u c m S
 le:tot S0≤tot S
 yes:again=true→tot S0<tot S
 no:again=false→S=S0∧∀j,i≤j→j<c.insts.length→exT u c m S j=S.getD j []
variable {S:List (List Nat)}
theorem OfI.start (h:Low u c m S):OfI u c m S S false c.insts.length:=⟨h,Nat.le_refl _,fun h=>by (cases h),fun _=>⟨rfl,fun j h1 h2=>by omega⟩⟩
variable {S0:List (List Nat)}{again:Bool}{i:Nat}
theorem OfI.same (h:OfI u c m S0 S again (i+1))(he:exT u c m S i=S.getD i []):OfI u c m S0 S again i:=
 ⟨h.low,h.le,h.yes,fun e=>⟨(h.no e).1,fun j h1 h2=>if e2:j=i then by rw[e2];exact he else (h.no e).2 j (by omega) h2⟩⟩
theorem OfI.set (hu:WU u)(wc:WC u c)(hi:i<c.insts.length)(h:OfI u c m S0 S again (i+1))(he:exT u c m S i≠S.getD i []):OfI u c m S0 (S.set i (exT u c m S i)) true i:=by have h1:=h.low.set hu wc hi;have h2:=C3 h.low.tb hi (L2 (u:=u) (c:=c) (m:=m) S i) (h.low.up i hi) (Ne.symm he);have h3:=h.le;exact ⟨h1.1,by omega,fun _=>by omega,fun e=>by cases e⟩
theorem OfI.done (hu:WU u)(wc:WC u c)(h:OfI u c m S0 S false 0):S=w9 u c m:=
 WR hu wc h.low.tb h.low.le fun i hi=>(h.no rfl).2 i (Nat.zero_le _) hi
theorem mOf_lt (h:OfI u c m S0 S again i):WW c.insts.length S again<WW c.insts.length S0 true:=by
 have h1:=K9 dN h.low.tb;unfold WW;cases again
 ·simp
 ·have:=h.yes rfl;simp only[if_true];omega
theorem Low.grow (hu:WU u)(wc:WC u c)(h:Low u c m S)(hne:S≠yD u c m S):tot S<tot (yD u c m S)∧tot (yD u c m S)≤4608*c.insts.length:=
 ⟨(SS h.tb (jZ S) (h.round hu wc).2).2 hne,K9 dN (jZ S)⟩
end
section
variable (u:Un)(c:Clo)(m:Nat)
def Susp:Nat→Nat→List (Nat×Nat)→Prop
 | _,_,[]=>True
 | i,d,(i',q)::rest=>∃pc' d',q=pc'+1∧i'<c.insts.length∧pc'<u7 u c i'∧MZ u c m i' d'∧Inn u c m i' pc' d' d∧(eQ u c i' pc').op=2∧cW c i' pc'=i∧Susp i' d' rest
def TA (d:Nat):List (Nat×Nat)→Prop
 | []=>d≤kM u m
 | (i,pc)::rest=>∃d0,MZ u c m i d0∧Inn u c m i pc d0 d∧Susp u c m i d0 rest
end
section
variable {u:Un}{c:Clo}{m:Nat}
theorem TA.at' (hu:WU u)(wc:WC u c){d i pc:Nat}{rest:List (Nat×Nat)}(h:TA u c m d ((i,pc)::rest)):i<c.insts.length∧pc<u7 u c i∧d≤kM u m:=by obtain ⟨d0,h1,h2,_⟩:=h;have h3:=(h1.lt hu wc).1;have h4:=h2.lt hu wc h3;exact ⟨h3,h4.1,h4.2.2⟩
theorem TA.depth (hu:WU u)(wc:WC u c){d:Nat}{l:List (Nat×Nat)}(h:TA u c m d l):d≤kM u m:=by
 cases l with
 | nil=>exact h
 | cons p rest=>exact (h.at' hu wc).2.2
end
end Go.Un
end
section
namespace Go.Proofs.YtonbocmibeikmaaGreat
open Go.Ab Go.Un
variable {i:Nat}
theorem kA {l:List (List Int)}(h:i<l.length):List.take 1 (List.drop i (j8 l))=[.vec (l.getD i []).length (g5 (l.getD i []))]:=by unfold j8;rw[←List.map_drop,←List.map_take,List.drop_eq_getElem_cons h,List.take_succ_cons,List.take_zero];simp[List.getD,h]
variable {c:Clo}
theorem fJ (h:i<c.insts.length):List.take 2 (List.drop (i*2) (j0 c.insts))=[.int .i64 (itI c i).proc,.vec (itI c i).j9.length (g5 (itI c i).j9)]:=GJ h
variable {k:Nat}
theorem rU:(((k+1:Nat):Int)-1)=((k:Nat):Int):=by omega
theorem kB (n:Nat):(List.replicate n [AV.nils]).flatten=List.replicate n AV.nils:=by
  induction n with
  | zero=>rfl
  | succ n ih=>rw[List.replicate_succ,List.flatten_cons,ih];rfl
variable {r:List Nat}
theorem oE {T:List (List Nat)}(h:i<T.length):List.take i (s7 T)++AV.vec r.length (r.map j4)::List.drop (i+1) (s7 T)=s7 (T.set i r):=overT h
theorem dF:(1≤maxLen)=True:=eq_true (by decide)
theorem overT0 {T:List (List Nat)}(h:0<T.length):bL r::List.drop 1 (s7 T)=s7 (T.set 0 r):=overT (i:=0) h
variable {n:Nat}{Z:List Nat}
theorem oF (h:0<n):AV.vec r.length (r.map j4)::List.drop 1 (s7 (List.replicate n Z))=s7 ((List.replicate n Z).set 0 r):=overT0 (by rw[List.length_replicate];exact h)
variable {h:c5}{u:Un}{mx pc:Nat}
theorem KV (hu:WU u)(wc:WC u c)(hmx:mx<u.mutexes.length)(hi:i<c.insts.length)(hp:pc<u7 u c i):CB 24 [.agg [.vec u.globals.length (g5 u.globals),.vec u.mutexes.length (c9 u.mutexes),.vec u.procs.length (g7 u.procs),.int .i64 u.main],.agg [.int .i64 (itI c i).proc,.vec (itI c i).j9.length (g5 (itI c i).j9)],.int .i64 ((pc:Nat):Int),.int .i64 ((mx:Nat):Int)] h (bL (dhN (kM u mx) (chI (itI c i) (eQ u c i pc) mx))):=
  (c_rel hu (dE wc hi) hp hmx).mono fun y k hq=>⟨hq.1.trans (AW _ _),hq.2⟩
theorem c_idN (k:Nat)(hk:k≤8):CB 67 [.int .i64 ((k:Nat):Int)] h (bL (dhN k 0)):=
  (c_id k hk).mono fun y k hq=>⟨hq.1.trans (AW _ _),hq.2⟩
def C9 (n i:Nat)(Z:List Nat):List AV:=s7 (List.replicate i Z)++List.replicate (n-i) AV.nils
theorem gJ (h:i≤n):(C9 n i Z).length=n:=by simp[C9,s3];omega
theorem wM:C9 n 0 Z=List.replicate n AV.nils:=by simp[C9,s7]
theorem D0:C9 n n Z=s7 (List.replicate n Z):=by simp[C9]
theorem KW:List.take i (C9 n i Z)=s7 (List.replicate i Z):=by unfold C9;rw[List.take_append_of_le_length (by simp[s3]),List.take_of_length_le (by simp[s3])]
theorem KX:List.drop (i+1) (C9 n i Z)=List.replicate (n-(i+1)) AV.nils:=by unfold C9;rw[List.drop_append,List.drop_of_length_le (by simp[s3]),s3,List.length_replicate,List.nil_append,List.drop_replicate];congr 1;omega
theorem xC {x:AV}:List.take i (C9 n i Z)++x::List.drop (i+1) (C9 n i Z)=s7 (List.replicate i Z)++x::List.replicate (n-(i+1)) AV.nils:=by rw[KW,KX]
theorem KY:s7 (List.replicate i Z)++bL Z::List.replicate (n-(i+1)) AV.nils=C9 n (i+1) Z:=by unfold C9;rw[List.replicate_succ',s7,s7,List.map_append,List.append_assoc];rfl
theorem DW:s7 (List.replicate i (List.replicate (k+1) 0))++AV.vec (k+1) ((List.replicate (k+1) 0).map j4)::List.replicate (n-(i+1)) AV.nils=C9 n (i+1) (List.replicate (k+1) 0):=by rw[←KY];simp[bL]
theorem wN (N:Nat):∀x∈C9 n i Z,Refs N x:=fun x hx=>by
  rcases List.mem_append.1 hx with hx | hx
  · exact (Db _).refs _ x hx
  · rw[List.eq_of_mem_replicate hx];exact .nils
theorem c8.Df {c:Code}{sl:List AV}{H:c5}{Q:Exit→St→Prop}{β γ len e e':Nat}{A R:List AV}{zs:List Nat}(hβ:H[β]?=some ⟨0,false,e,1,A++.own γ 0 0 len::R,0⟩)(hγ:H[γ]?=some ⟨0,false,e',1,zs.map j4,0⟩)(hz:zs.length=len)(hne:β≠γ)
    (r:c8 Tryz.prog cfg c ⟨sl,(H.set γ ⟨0,false,e',1,zs.map j4,len⟩).set β ⟨0,false,e,1,A++.vec len (zs.map j4)::R,0⟩⟩ Q):c8 Tryz.prog cfg c ⟨sl,H⟩ Q:=by
  subst hz;refine c8.G9 (γ:=γ) (β:=β) (k:=A.length) (off:=0) (len:=zs.length) (cs:=zs.map j4) hγ rfl (by simp) ?_ hβ hne (by simp) ?_
  · show p6 pH (List.take (zs.length*1) (List.drop 0 (zs.map j4)))=_
    rw[List.drop_zero,Nat.mul_one,List.take_of_length_le (by simp)];exact (AX zs).UW
  · have e1:dJ ⟨0,false,e',1,zs.map j4,0⟩ (0+zs.length*1)=⟨0,false,e',1,zs.map j4,zs.length⟩:=by simp only[dJ,Nat.zero_add,Nat.mul_one,Nat.zero_max]
    have e2:(A++AV.own γ 0 0 zs.length::R).set A.length (.vec zs.length (zs.map j4))=A++.vec zs.length (zs.map j4)::R:=by simp
    show c8 Tryz.prog cfg c ⟨sl,(H.set γ (dJ ⟨0,false,e',1,zs.map j4,0⟩ (0+zs.length*1))).set β ⟨0,false,e,1,(A++AV.own γ 0 0 zs.length::R).set A.length (.vec zs.length (zs.map j4)),0⟩⟩ Q;rw[e1,e2];exact r
def sT (W:List Nat)(l q:Nat):List Nat:=if l+1≤W.length then W.set l q else W.take l++[q]
def xD (W:List Nat)(g l:Nat):Nat:=if l+1≤W.length then g else g+1
variable {W:List Nat}{q:Nat}
theorem yF {l:Nat}(h:l≤W.length):(sT W l q).take (l+1)=W.take l++[q]:=by
  unfold sT;split
  · rename_i h1
    rw[List.take_add_one,List.take_set,List.set_eq_of_length_le t60,List.getElem?_set_self (by omega)];rfl
  · rw[List.take_of_length_le t60]
theorem L6 {l:Nat}(h:l≤W.length):l+1≤(sT W l q).length:=by
  unfold sT;split
  · rw[List.length_set];assumption
  · rw[List.length_append,List.length_take,List.length_singleton];omega
theorem L7 (h:k+1≤W.length):W.take (k+1)=W.take k++[W.getD k 0]:=by rw[List.take_add_one,List.getElem?_eq_getElem (by omega)];simp[List.getD,show k<W.length from by omega]
variable {g:Nat}
theorem TB {l:c5}{b0 b1:Blk}(hn:n≤W.length)(hl:n<1000000000):j6 cfg 3 (h++(b0::b1::⟨g,false,3,1,W.map j4,0⟩::⟨0,false,3,1,[.int .i64 ((q:Nat):Int)],0⟩::l)) (.own (h.length+2) g 0 n) (.own (h.length+3) 0 0 1)=some (.own (h.length+2) (xD W g n) 0 (n+1),h++(b0::b1::⟨xD W g n,false,3,1,(sT W n q).map j4,0⟩::⟨0,false,3,1,[.int .i64 ((q:Nat):Int)],0⟩::l)):=by
  have e1:cfg.sz 3=1:=rfl;have e2:(cfg.ti 3).bytes=8:=rfl;have h1:n+1≤maxLen:=by
    have:(1000000001:Nat)≤maxLen:=by decide
    omega
  have h2:(n+1)*8≤140737488355328:=by omega
  by_cases hc:n+1≤W.length
  · have e3:List.take n (W.map j4)++AV.int .i64 ((q:Nat):Int)::List.drop (n+1) (W.map j4)=(W.set n q).map j4:=oB (by omega)
    simp[j6,rd,lenOf,e1,e2,h1,h2,hc,hn,over,p8,l7,sT,xD];rw[e3];simp
  · have h3:List.take n (W.map j4)=W.map j4:=List.take_of_length_le t60
    have h4:List.take n W=W:=List.take_of_length_le (by omega);simp[j6,rd,lenOf,e1,e2,h1,h2,hc,hn,p8,l7,sT,xD,h4,j4];exact h3
attribute [local go_sem] rd bL u0 w8 r8 n6 l6 bB s3 Int.natCast_nonneg Int.natCast_inj nF bK nG fF eH fG iW kA qO oE dF oF xC gJ mP mQ kB List.length_set List.length_replicate Int.toNat_natCast_add_one gY wrap64 rU List.length_map
variable {S:List (List Nat)}
theorem c_stepA (hu:WU u)(wc:WC u c)(hmx:mx<u.mutexes.length)(hS:Tb (kM u mx) c.insts.length S)(hi:i<c.insts.length)(hp:pc<u7 u c i)(l:c5):CB 110 [.int .i64 ((pc:Nat):Int),.ptr h.length 0 0,.ptr (h.length+5) 0 0,.ptr (h.length+3) 0 0,.ptr (h.length+1) 0 0,.ptr (h.length+4) 0 0,.ptr (h.length+2) 0 0] (h++(⟨0,false,30,4,[.vec u.globals.length (g5 u.globals),.vec u.mutexes.length (c9 u.mutexes),.vec u.procs.length (g7 u.procs),.int .i64 u.main],0⟩::⟨0,false,34,3,[.vec c.insts.length (j0 c.insts),.vec c.calls.length (j8 c.calls),.vec c.roots.length (g5 c.roots)],0⟩::⟨0,false,3,1,[.int .i64 ((mx:Nat):Int)],0⟩::⟨0,false,32,1,[.vec c.insts.length (s7 S)],0⟩::⟨0,false,3,1,[.int .i64 ((i:Nat):Int)],0⟩::⟨0,false,46,2,[.int .i64 (itI c i).proc,.vec (itI c i).j9.length (g5 (itI c i).j9)],0⟩::l)) (bL (stS u c mx S i pc)):=by
  refine .bz Tryz.f110 37 ?_;have w:=dE wc hi;have w1:=w.lo;have w2:=w.hi;have hsz:(c7 u (itI c i)).length≤1664:=n7 hu w;have hcl:=wc.cl;have hcll:(c.calls.getD i []).length=(c7 u (itI c i)).length:=wc.cll i hi;have hp2:pc<(c7 u (itI c i)).length:=hp;have hSl:=hS.1;have hwl:=wc.len;have hcall:(eQ u c i pc).op=2→0≤(c.calls.getD i []).getD pc 0∧(c.calls.getD i []).getD pc 0<c.insts.length:=fun ho=>by have:=(wc.call i hi pc hp).1 (.inl ho);exact ⟨this.1,this.2.1⟩
  have hop:eQ u c i pc=(c7 u (itI c i)).getD pc g6:=rfl;rw[hop]at hcall;refine c13z ?_;refine c124z ?_;refine u2z ?_ ?_
  ·intro e1 qe1;refine .c6 [0,3,4,5] ?_;obtain ⟨hc1,hc2⟩:=hcall (by omega);refine .ss v9 (mkP 12 [0,0,2,0,14,30,0,126,254,511,1023,2047] []) ?_;refine c44z ?_;exact .ret (.ex (hq:=t56))
  intro e1 qe1;refine .sk ?_;refine .c6 [0,1,2,6] ?_;refine c25z ?_;refine .ca rfl rfl (KV hu wc hmx hi hp) ?_;refine .n ?_;exact .ret (.ex (hq:=t56))
variable {A R:c5}
theorem KZ {X:c5}{B:Blk}:(A++(B::(R++X)))[A.length+1+R.length+k]?=X[k]?:=by rw[List.getElem?_append_right (by omega),show A.length+1+R.length+k-A.length=(R.length+k)+1 from by omega,List.getElem?_cons_succ,List.getElem?_append_right (by omega)];congr 1;omega
theorem TC {X:c5}{B:Blk}:(A++(B::(R++X)))[A.length+1+R.length]?=X[0]?:=KZ (k:=0)
section
attribute [local go_sem] KZ TC
theorem TD (hu:WU u)(wc:WC u c)(hmx:mx<u.mutexes.length)(hS:Tb (kM u mx) c.insts.length S)(hi:i<c.insts.length)(hp:pc<u7 u c i)(l:c5):CB 110 [.int .i64 ((pc:Nat):Int),.ptr (A.length+1+R.length) 0 0,.ptr (A.length+1+R.length+5) 0 0,.ptr (A.length+1+R.length+3) 0 0,.ptr (A.length+1+R.length+1) 0 0,.ptr (A.length+1+R.length+4) 0 0,.ptr (A.length+1+R.length+2) 0 0] (A++(⟨g,false,22,1,s7 S,0⟩::(R++(⟨0,false,30,4,[.vec u.globals.length (g5 u.globals),.vec u.mutexes.length (c9 u.mutexes),.vec u.procs.length (g7 u.procs),.int .i64 u.main],0⟩::⟨0,false,34,3,[.vec c.insts.length (j0 c.insts),.vec c.calls.length (j8 c.calls),.vec c.roots.length (g5 c.roots)],0⟩::⟨0,false,3,1,[.int .i64 ((mx:Nat):Int)],0⟩::⟨0,false,32,1,[.own A.length g 0 c.insts.length],0⟩::⟨0,false,3,1,[.int .i64 ((i:Nat):Int)],0⟩::⟨0,false,46,2,[.int .i64 (itI c i).proc,.vec (itI c i).j9.length (g5 (itI c i).j9)],0⟩::l)))) (bL (stS u c mx S i pc)):=by
  refine .bz Tryz.f110 37 ?_;have w:=dE wc hi;have w1:=w.lo;have w2:=w.hi;have hsz:(c7 u (itI c i)).length≤1664:=n7 hu w;have hcl:=wc.cl;have hcll:(c.calls.getD i []).length=(c7 u (itI c i)).length:=wc.cll i hi;have hp2:pc<(c7 u (itI c i)).length:=hp;have hSl:=hS.1;have hwl:=wc.len;have hcall:(eQ u c i pc).op=2→0≤(c.calls.getD i []).getD pc 0∧(c.calls.getD i []).getD pc 0<c.insts.length:=fun ho=>by have:=(wc.call i hi pc hp).1 (.inl ho);exact ⟨this.1,this.2.1⟩
  have hop:eQ u c i pc=(c7 u (itI c i)).getD pc g6:=rfl;rw[hop]at hcall;refine c13z ?_;refine c124z ?_;refine u2z ?_ ?_
  ·intro e1 qe1;refine .c6 [0,3,4,5] ?_;obtain ⟨hc1,hc2⟩:=hcall (by omega);refine .ss v9 (mkP 12 [0,0,2,0,14,30,0,126,254,511,1023,2047] []) ?_;refine c44z ?_;exact .ret (.ex (hq:=t56))
  intro e1 qe1;refine .sk ?_;refine .c6 [0,1,2,6] ?_;refine c25z ?_;refine .ca rfl rfl (KV hu wc hmx hi hp) ?_;refine .n ?_;exact .ret (.ex (hq:=t56))
end
def oG (u:Un)(c:Clo)(mx:Nat)(S:List (List Nat))(i:Nat)(sv:AV)(h:c5):Prop:=∀pc,pc<u7 u c i→∀l,CallA Tryz.prog cfg 110 [.int .i64 ((pc:Nat):Int),.ptr h.length 0 0,.ptr (h.length+5) 0 0,.ptr (h.length+3) 0 0,.ptr (h.length+1) 0 0,.ptr (h.length+4) 0 0,.ptr (h.length+2) 0 0] (h++(⟨0,false,30,4,[.vec u.globals.length (g5 u.globals),.vec u.mutexes.length (c9 u.mutexes),.vec u.procs.length (g7 u.procs),.int .i64 u.main],0⟩::⟨0,false,34,3,[.vec c.insts.length (j0 c.insts),.vec c.calls.length (j8 c.calls),.vec c.roots.length (g5 c.roots)],0⟩::⟨0,false,3,1,[.int .i64 ((mx:Nat):Int)],0⟩::⟨0,false,32,1,[sv],0⟩::⟨0,false,3,1,[.int .i64 ((i:Nat):Int)],0⟩::⟨0,false,46,2,[.int .i64 (itI c i).proc,.vec (itI c i).j9.length (g5 (itI c i).j9)],0⟩::l)) (fun y' h'=>y'=bL (stS u c mx S i pc)∧h'=h++(⟨0,false,30,4,[.vec u.globals.length (g5 u.globals),.vec u.mutexes.length (c9 u.mutexes),.vec u.procs.length (g7 u.procs),.int .i64 u.main],0⟩::⟨0,false,34,3,[.vec c.insts.length (j0 c.insts),.vec c.calls.length (j8 c.calls),.vec c.roots.length (g5 c.roots)],0⟩::⟨0,false,3,1,[.int .i64 ((mx:Nat):Int)],0⟩::⟨0,false,32,1,[sv],0⟩::⟨0,false,3,1,[.int .i64 ((i:Nat):Int)],0⟩::⟨0,false,46,2,[.int .i64 (itI c i).proc,.vec (itI c i).j9.length (g5 (itI c i).j9)],0⟩::l))
theorem yG (hu:WU u)(wc:WC u c)(hmx:mx<u.mutexes.length)(hS:Tb (kM u mx) c.insts.length S)(hi:i<c.insts.length)(h:c5):oG u c mx S i (.vec c.insts.length (s7 S)) h:=fun pc hp l=>c_stepA hu wc hmx hS hi hp l
variable {β:Nat}
theorem DX (hu:WU u)(wc:WC u c)(hmx:mx<u.mutexes.length)(hS:Tb (kM u mx) c.insts.length S)(hi:i<c.insts.length)(hb:h[β]?=some ⟨g,false,22,1,s7 S,0⟩):oG u c mx S i (.own β g 0 c.insts.length) h:=fun pc hp l=>by
  obtain ⟨hlt,hget⟩:=List.getElem?_eq_some_iff.1 hb;obtain ⟨A,R,rfl,rfl⟩:∃A R,h=A++⟨g,false,22,1,s7 S,0⟩::R∧A.length=β:=⟨h.take β,h.drop (β+1),by rw[←hget,←List.drop_eq_getElem_cons hlt,List.take_append_drop],by rw[List.length_take];omega⟩;have e:(A++⟨g,false,22,1,s7 S,0⟩::R).length=A.length+1+R.length:=by rw[List.length_append,List.length_cons];omega
  rw[e,List.append_assoc,List.cons_append];exact TD hu wc hmx hS hi hp l
theorem DY (hu:WU u)(wc:WC u c)(hmx:mx<u.mutexes.length)(hS:Tb (kM u mx) c.insts.length S)(hi:i<c.insts.length)(hb:h[β]?=some ⟨g,false,22,1,s7 S,0⟩)(l:c5):oG u c mx S i (.own β g 0 c.insts.length) (h++l):=
  DX hu wc hmx hS hi (by rw[List.getElem?_append_left (List.getElem?_eq_some_iff.1 hb).1];exact hb)
theorem oG.shift {sv:AV}(hs:∀l0,oG u c mx S i sv (h++l0))(hp:pc<u7 u c i){b:Blk}(l:c5):CB 110 [.int .i64 ((pc:Nat):Int),.ptr h.length 0 0,.ptr (h.length+5) 0 0,.ptr (h.length+3) 0 0,.ptr (h.length+1) 0 0,.ptr (h.length+4) 0 0,.ptr (h.length+2) 0 0] ((h++[⟨0,false,30,4,[.vec u.globals.length (g5 u.globals),.vec u.mutexes.length (c9 u.mutexes),.vec u.procs.length (g7 u.procs),.int .i64 u.main],0⟩,⟨0,false,34,3,[.vec c.insts.length (j0 c.insts),.vec c.calls.length (j8 c.calls),.vec c.roots.length (g5 c.roots)],0⟩,⟨0,false,3,1,[.int .i64 ((mx:Nat):Int)],0⟩,⟨0,false,32,1,[sv],0⟩,⟨0,false,3,1,[.int .i64 ((i:Nat):Int)],0⟩,⟨0,false,46,2,[.int .i64 (itI c i).proc,.vec (itI c i).j9.length (g5 (itI c i).j9)],0⟩,b])++l) (bL (stS u c mx S i pc)):=by have:=hs [] pc hp (b::l);simpa only[List.append_nil,List.append_assoc,List.cons_append,List.nil_append] using this
theorem T7 (hu:WU u){it:z8}(w:WIt u it)(hpc:pc<(c7 u it).length):CB 146 [.agg [.vec u.globals.length (g5 u.globals),.vec u.mutexes.length (c9 u.mutexes),.vec u.procs.length (g7 u.procs),.int .i64 u.main],.agg [.int .i64 it.proc,.vec it.j9.length (g5 it.j9)],.int .i64 ((pc:Nat):Int)] h (.vec (w6 ((c7 u it).getD pc g6) pc).length (g5 (w6 ((c7 u it).getD pc g6) pc))):=c_nextF hu w hpc
section
attribute [local go_sem] TB
theorem c_run (hu:WU u){it:z8}(w:WIt u it)(hmx:mx<u.mutexes.length)(hk:lY (u.mutexes.getD mx v8)=k){sp:Nat→List Nat}{caps:List AV}(p:Pro k (c7 u it).length (fun pc=>w6 ((c7 u it).getD pc g6) pc) sp)(hst:∀pc,pc<(c7 u it).length→∀l,CB 110 (.int .i64 ((pc:Nat):Int)::caps) (h++l) (bL (sp pc))):CB 111 [.agg [.vec u.globals.length (g5 u.globals),.vec u.mutexes.length (c9 u.mutexes),.vec u.procs.length (g7 u.procs),.int .i64 u.main,.int .i64 it.proc,.vec it.j9.length (g5 it.j9),.int .i64 ((mx:Nat):Int),.fn (.func 110) [] caps]] h (.vec (c7 u it).length (s7 (eC k (c7 u it).length (fun pc=>w6 ((c7 u it).getD pc g6) pc) sp))):=by
  refine .bz Tryz.f111 105 ?_;have w1:=w.lo;have w2:=w.hi;have hsz:(c7 u it).length≤1664:=n7 hu w;have hk8:k≤8:=by rw[←hk];exact C0
  have hps:=p.pos;have hml:=hu.ml;have hcd:=(eL hu w).1;refine c67z ?_;refine .e 7 ?_;refine .ca rfl rfl (Cg (u.mutexes.getD mx v8)) ?_;refine .n ?_;refine .c6 [1,3] ?_;refine c124z ?_;refine .c6 [1,3,4] ?_;refine c18z ?_;refine .u6 (fun m st=>∃(i:Nat),(m=(c7 u it).length-i∧(i≤(c7 u it).length))∧st=⟨mkS 105 [(1,AV.ptr h.length 0 0),(3,AV.int .i64 ((k:Nat):Int)),(5,AV.own (h.length+1) 0 0 (c7 u it).length),(33,AV.int .i64 (((c7 u it).length:Nat):Int)),(34,AV.int .i64 ((i:Nat):Int))],h++[⟨0,false,172,8,[.vec u.globals.length (g5 u.globals),.vec u.mutexes.length (c9 u.mutexes),.vec u.procs.length (g7 u.procs),.int .i64 u.main,.int .i64 it.proc,.vec it.j9.length (g5 it.j9),.int .i64 ((mx:Nat):Int),.fn (.func 110) [] caps],0⟩,⟨0,false,22,1,C9 (c7 u it).length i (List.replicate (k+1) 0),0⟩]⟩) (.v ⟨0,⟨rfl,by omega⟩,rfl⟩) ?_ (he:=by (rw[wM]));rintro m sl h' ⟨i,⟨hm,hi⟩,hst⟩;obtain ⟨rfl,rfl⟩:=St.mk.inj hst;clear hst;refine c13z ?_;refine u2z ?_ ?_
  ·intro e1 qe1;refine c58z ?_;refine c1z ?_;refine .c6 [1,3,5,33,34] ?_;refine c8.Df (β:=h.length+1) (γ:=h.length+2) (A:=s7 (List.replicate i (List.replicate (k+1) 0))) (R:=List.replicate ((c7 u it).length-(i+1)) AV.nils) (zs:=(List.replicate (k+1) 0)) (len:=k+1) t30 t30 (by simp) (by omega) ?_;refine c30z ?_;exact ⟨_,by omega,.v ⟨(i+1),⟨rfl,by omega⟩,rfl⟩ (he:=t115) (hk:=by exact (y0.refl _).app rfl ⟨.inl rfl,.inr (wN _),trivial⟩)⟩
  intro e1 qe1;refine .exit ?_;obtain rfl:i=(c7 u it).length:=by omega
  simp only[D0];change c8 ..;refine c15z ?_;refine .ca rfl rfl (c_idN _ hk8) ?_;refine .n ?_;refine .c6 [1,5] ?_;refine .z ?_;refine .sb ?_;refine .u6 (fun m st=>∃(T:List (List Nat)) (W:List Nat) (l:Nat) (g:Nat),(m=WV (c7 u it).length T l∧(NA k (c7 u it).length (fun pc=>w6 ((c7 u it).getD pc g6) pc) sp T (W.take l)∧l≤W.length∧WV (c7 u it).length T l≤20000000))∧st=⟨mkS 105 [(1,AV.ptr h.length 0 0),(5,AV.own (h.length+1) 0 0 (c7 u it).length),(7,AV.own (h.length+2) g 0 l)],h++[⟨0,false,172,8,[.vec u.globals.length (g5 u.globals),.vec u.mutexes.length (c9 u.mutexes),.vec u.procs.length (g7 u.procs),.int .i64 u.main,.int .i64 it.proc,.vec it.j9.length (g5 it.j9),.int .i64 ((mx:Nat):Int),.fn (.func 110) [] caps],0⟩,⟨0,false,22,1,s7 T,0⟩,⟨g,false,3,1,W.map j4,0⟩]⟩) (.v ⟨((List.replicate (c7 u it).length (List.replicate (k+1) 0)).set 0 (dhN k 0)),[0],1,0,⟨rfl,⟨NA.start p,by simp,by unfold WV;omega⟩⟩,rfl⟩) ?_;rintro m sl h' ⟨T,W,l,g,⟨hm,⟨hI,hl,hlb⟩⟩,hst⟩;obtain ⟨rfl,rfl⟩:=St.mk.inj hst;clear hst;have hTl:T.length=(c7 u it).length:=hI.g.tb.1;have hlm:l≤WV (c7 u it).length T l:=by unfold WV;omega
  refine c0z ?_;refine u2z ?_ ?_
  ·intro e2 qe2;refine c125z ?_;obtain ⟨k1,rfl⟩:∃k1,l=k1+1:=⟨l-1,by omega⟩;refine .z ?_;refine .c6 [1,5,7,8] ?_;refine .z ?_;rw[L7 (by omega)]at hI;generalize W.getD k1 0=pc at hI ⊢;obtain ⟨hpc,hJ0⟩:=hI.pop;have hst1:=p.st pc hpc;have hTp:=hI.g.tb.get hpc;obtain ⟨hR,hle⟩:=hI.g.aft p hpc;refine .ss v9 (mkP 10 [0,0,3,7,0,16,0,112,255,511] []) ?_;refine .k 7 [] ?_;refine iZ.cq rfl (rfl) hb110 (hst pc hpc _) ?_;refine .ca rfl rfl (KR _ _ (hst1.lt hk8) t182 (hTp.lt hk8) t169) ?_;refine .n [] ?_;refine .c6 [1,5,7,8,9] ?_;have hnl:=qI (x:=(c7 u it).getD pc g6) (pc:=pc);refine c24z ?_;refine .ca rfl rfl (T7 hu w hpc) ?_;refine c119z ?_;refine .u6 (fun m st=>∃(T1:List (List Nat)) (W1:List Nat) (l1:Nat) (g1:Nat) (j:Nat),(m=(w6 ((c7 u it).getD pc g6) pc).length-j∧(KT k (c7 u it).length (fun pc=>w6 ((c7 u it).getD pc g6) pc) sp pc (T.getD pc []) (tot T) (W.take k1).length T1 (W1.take l1) j∧l1≤W1.length∧j≤(w6 ((c7 u it).getD pc g6) pc).length∧l1≤k1+j))∧st=⟨mkS 105 [(1,AV.ptr h.length 0 0),(5,AV.own (h.length+1) 0 0 (c7 u it).length),(7,AV.own (h.length+2) g1 0 l1),(9,bL (p7 (T.getD pc []) (sp pc))),(77,AV.vec (w6 ((c7 u it).getD pc g6) pc).length (g5 (w6 ((c7 u it).getD pc g6) pc))),(78,AV.int .i64 (((w6 ((c7 u it).getD pc g6) pc).length:Nat):Int)),(79,AV.int .i64 ((j:Nat):Int))],h++[⟨0,false,172,8,[.vec u.globals.length (g5 u.globals),.vec u.mutexes.length (c9 u.mutexes),.vec u.procs.length (g7 u.procs),.int .i64 u.main,.int .i64 it.proc,.vec it.j9.length (g5 it.j9),.int .i64 ((mx:Nat):Int),.fn (.func 110) [] caps],0⟩,⟨0,false,22,1,s7 T1,0⟩,⟨g1,false,3,1,W1.map j4,0⟩]⟩) (.v ⟨T,W,k1,g,0,⟨rfl,⟨hJ0,by omega,by omega,by omega⟩⟩,rfl⟩) ?_;rintro m sl h' ⟨T1,W1,l1,g1,j,⟨hm,⟨hJ,hl1,hj,hlj⟩⟩,hst⟩;obtain ⟨rfl,rfl⟩:=St.mk.inj hst;clear hst;have hT1:T1.length=(c7 u it).length:=hJ.g.tb.1;refine c13z ?_;refine u2z ?_ ?_
   ·intro e3 qe3;refine c58z ?_;obtain ⟨hq1,hq2⟩:=p.nx pc hpc _ (g8 (d:=0) (show j<(w6 ((c7 u it).getD pc g6) pc).length from by omega));obtain ⟨q,hqe⟩:∃q:Nat,(w6 ((c7 u it).getD pc g6) pc).getD j 0=(q:Int):=⟨((w6 ((c7 u it).getD pc g6) pc).getD j 0).toNat,by omega⟩;rw[hqe]at hq1 hq2 ⊢;have hq3:q<(c7 u it).length:=by omega
    have hRq:=hJ.g.tb.get hq3;have hqt:((w6 ((c7 u it).getD pc g6) pc).getD j 0).toNat=q:=by rw[hqe];rfl
    refine c24z ?_;refine .ca rfl rfl (L5 _ _ (by have:=hR.1;omega) t165) ?_;refine .n ?_;refine u2z ?_ ?_
    ·intro e4 qe4;refine .c6 [1,5,7,9,11,77,78,79] ?_;refine .s ?_;refine .e 7 ?_;refine .ca rfl rfl (T6 _ _ (hR.lt hk8) (hRq.lt hk8) (by have:=hRq.1;omega) t165) ?_;refine .n ?_;refine .c6 [1,5,7,9,11,77,78,79] ?_;refine c48z ?_;exact ⟨_,by omega,.v ⟨(T1.set q (dD (T1.getD q []) (p7 (T.getD pc []) (sp pc)))),(sT W1 l1 q),(l1+1),(xD W1 g1 l1),(j+1),⟨rfl,⟨by rw[yF hl1];exact hJ.grow p hpc hR hle (by omega) hqt (fun hs=>absurd ((C1 hk8 hR hRq).2 hs) (by assumption)),L6 hl1,by omega,by omega⟩⟩,rfl⟩ (he:=t12) (hk:=t107)⟩
    intro e4 qe4;refine c4z ?_;refine .c6 [1,5,7,9,77,78,79] ?_;refine .rz ?_;exact ⟨_,by omega,.v ⟨T1,W1,l1,g1,(j+1),⟨rfl,⟨hJ.skip ((C1 hk8 hR (by rw[hqt];exact hRq)).1 (by rw[hqt];assumption)),hl1,by omega,by omega⟩⟩,rfl⟩ (he:=t12) (hk:=t107)⟩
   intro e3 qe3;refine .exit ?_;obtain rfl:j=(w6 ((c7 u it).getD pc g6) pc).length:=by omega
   have hmr:=mRun_lt hk8 hJ hI.g;rw[List.length_take,List.length_take,Nat.min_eq_left hl1,Nat.min_eq_left (show k1≤W.length from by omega)]at hmr;exact ⟨_,by omega,.v ⟨T1,W1,l1,g1,⟨rfl,⟨hJ.fin hpc,hl1,by omega⟩⟩,rfl⟩ (he:=t12) (hk:=t107)⟩
  intro e2 qe2;refine .exit ?_;obtain rfl:l=0:=by omega
  have hT:T=(eC k (c7 u it).length (fun pc=>w6 ((c7 u it).getD pc g6) pc) sp):=NA.done p (by simpa using hI);change c8 ..;refine c29z ?_;exact ⟨_,_,rfl,SY t30 (by omega) hTl,by (rw[hT])⟩
end
section
attribute [local go_sem] fJ
theorem L9 (hu:WU u)(wc:WC u c)(hmx:mx<u.mutexes.length)(hS:Tb (kM u mx) c.insts.length S)(hi:i<c.insts.length)(hsv:∀l0,oG u c mx S i (.vec c.insts.length (s7 S)) (h++l0)):CB 70 [.agg [.vec u.globals.length (g5 u.globals),.vec u.mutexes.length (c9 u.mutexes),.vec u.procs.length (g7 u.procs),.int .i64 u.main],.agg [.vec c.insts.length (j0 c.insts),.vec c.calls.length (j8 c.calls),.vec c.roots.length (g5 c.roots)],.int .i64 ((mx:Nat):Int),.vec c.insts.length (s7 S),.int .i64 ((i:Nat):Int)] h (.vec (u7 u c i) (s7 (fR u c mx S i))):=by refine .bz Tryz.f70 25 ?_;have w:=dE wc hi;have w1:=w.lo;have w2:=w.hi;have hwl:=wc.len;refine c210z ?_;refine .c6 [5,6,7,8,9,11] ?_;refine .z ?_;refine .c6 [12] ?_;refine c147z ?_;refine .ca rfl rfl (c_run hu (dE wc hi) hmx rfl (KH hu wc hS hi) (fun pc hp l=>oG.shift hsv hp l)) ?_;refine .n ?_;exact .ret (.ex (hq:=by rfl))
end
section
attribute [local go_sem] fJ
theorem LA (hu:WU u)(wc:WC u c)(hmx:mx<u.mutexes.length)(hS:Tb (kM u mx) c.insts.length S)(hi:i<c.insts.length)(hsv:∀l0,oG u c mx S i (.own β g 0 c.insts.length) (h++l0)):CB 70 [.agg [.vec u.globals.length (g5 u.globals),.vec u.mutexes.length (c9 u.mutexes),.vec u.procs.length (g7 u.procs),.int .i64 u.main],.agg [.vec c.insts.length (j0 c.insts),.vec c.calls.length (j8 c.calls),.vec c.roots.length (g5 c.roots)],.int .i64 ((mx:Nat):Int),.own β g 0 c.insts.length,.int .i64 ((i:Nat):Int)] h (.vec (u7 u c i) (s7 (fR u c mx S i))):=by refine .bz Tryz.f70 25 ?_;have w:=dE wc hi;have w1:=w.lo;have w2:=w.hi;have hwl:=wc.len;refine c210z ?_;refine .c6 [5,6,7,8,9,11] ?_;refine .z ?_;refine .c6 [12] ?_;refine c147z ?_;refine .ca rfl rfl (c_run hu (dE wc hi) hmx rfl (KH hu wc hS hi) (fun pc hp l=>oG.shift hsv hp l)) ?_;refine .n ?_;exact .ret (.ex (hq:=by rfl))
end
end Go.Proofs.YtonbocmibeikmaaGreat
end
section
namespace Go.Proofs.YtonbocmibeikmaaGreat
open Go.Ab Go.Un
variable {c:Clo}{i:Nat}
theorem fK (h:i<c.insts.length):List.take 1 (List.drop (i*2) (j0 c.insts))=[.int .i64 (itI c i).proc]:=nF h
variable {h:c5}
theorem M0 (u:Un)(mx:Nat):CB 30 [.agg [.str (u.mutexes.getD mx v8).name,.bool (u.mutexes.getD mx v8).re,.int .i64 (u.mutexes.getD mx v8).size]] h (.int .i64 ((kM u mx:Nat):Int)):=Cg _
variable {n:Nat}
theorem LB {β g len:Nat}{H:c5}(h:β<n):iQ n H 6 (.own β g 0 len)=some (.own β g 0 len):=by rw[dK,if_pos h]
theorem y0.new {l':c5}(hk:∀b∈l',aC b.cells):y0 h (h++l'):=fun β b hb=>by
  by_cases hβ:β<h.length
  · left;rwa[List.getElem?_append_left hβ]at hb
  · right;rw[List.getElem?_append_right (by omega)]at hb;exact fun x hx=>(hk b (List.mem_of_getElem? hb) x hx).rf _
theorem plnU (u:Un):aC [.vec u.globals.length (g5 u.globals),.vec u.mutexes.length (c9 u.mutexes),.vec u.procs.length (g7 u.procs),.int .i64 u.main]:=aC.cons .vec (aC.cons .vec (aC.cons .vec (aC.cons .int .nil)))
theorem plnC (c:Clo):aC [.vec c.insts.length (j0 c.insts),.vec c.calls.length (j8 c.calls),.vec c.roots.length (g5 c.roots)]:=aC.cons .vec (aC.cons .vec (aC.cons .vec .nil))
theorem c8.Dh {c:Code}{H:c5}{Q:Exit→St→Prop}{γ t len n e:Nat}{l:List (Nat×AV)}{zs:List Nat}(hγ:H[γ]?=some ⟨0,false,e,1,zs.map j4,0⟩)(hz:zs.length=len)(hp:0<len)(hx:(mkS n l)[t]?=some (.own γ 0 0 len))
    (r:c8 Tryz.prog cfg c ⟨(mkS n l).set t (.vec len (zs.map j4)),H.set γ ⟨0,false,e,1,zs.map j4,len⟩⟩ Q):c8 Tryz.prog cfg c ⟨mkS n l,H⟩ Q:=by
  subst hz;have hne:zs.map j4≠[]:=fun h0=>by have:=congrArg List.length h0;rw[List.length_map]at this;replace this:=s7z this;omega
  refine c8.pS (t:=t) (γ:=γ) (len:=zs.length) (e:=e) (K:=1) (g:=0) (zs:=zs.map j4) (by rw[hγ];exact congrArg some (dA hne).symm) (by simp) (by omega) (AX zs) hx ?_;obtain ⟨z,zs',hzz⟩:=List.exists_cons_of_ne_nil hne;have e1:dY e 1 0 (zs.map j4) (zs.length*1)=⟨0,false,e,1,zs.map j4,zs.length⟩:=by rw[hzz,Nat.mul_one];rfl
  rw[e1];exact r
attribute [local go_sem] rd bL u0 w8 r8 n6 l6 bB s3 Int.natCast_nonneg Int.natCast_inj bK nG fF eH fG iW kA qO oE dF oF xC gJ mP mQ kB List.length_set List.length_replicate Int.toNat_natCast_add_one gY wrap64 rU List.length_map fK fJ
theorem TE (a b:List Nat)(hl:a.length<1000000):CB 63 [bL a,bL b] h (.bool (decide (a=b))):=by
  refine .bz Tryz.f63 26 ?_;refine c69z ?_;refine u2z ?_ ?_
  ·intro e1 qe1;refine c154z ?_;exact ⟨[],_,(List.append_nil _).symm,t40,t85⟩
  intro e1 qe1;refine .sk ?_;refine c5z ?_;refine .bX (fun m st=>∃(i:Nat),(m=a.length-i∧((∀d,d<i→a.getD d 0=b.getD d 0)∧i≤a.length))∧st=⟨mkS 26 [(0,bL a),(1,bL b),(12,AV.int .i64 ((a.length:Nat):Int)),(13,AV.int .i64 ((i:Nat):Int))],h⟩) _ (.v ⟨0,⟨rfl,⟨t105,by omega⟩⟩,rfl⟩) ?_;rintro m sl h' ⟨i,⟨hm,⟨hI,hi⟩⟩,hst⟩;obtain ⟨rfl,rfl⟩:=St.mk.inj hst;refine c13z ?_;refine u2z ?_ ?_
  ·intro e2 qe2;refine c58z ?_;refine .ss v9 (mkP 9 [0,0,3,7,0,0,48,112,255] []) ?_;refine c44z ?_;refine u2z ?_ ?_
   ·intro e3 qe3;refine c154z ?_;exact ⟨[],_,(List.append_nil _).symm,t40,t85⟩
   intro e3 qe3;refine c4z ?_;refine .c6 [0,1,12,13] ?_;refine .rz ?_;exact ⟨_,by omega,.v ⟨(i+1),⟨rfl,⟨(fun d hd=>if e:d=i then by rw[e];omega else hI d (by omega)),by omega⟩⟩,rfl⟩⟩
  intro e2 qe2;refine c63z ?_;exact ⟨[],_,(List.append_nil _).symm,t40,t85⟩
variable {u:Un}{mx:Nat}
theorem c_exitO (hu:WU u)(wc:WC u c)(hmx:mx<u.mutexes.length){S:List (List Nat)}(hS:Tb (kM u mx) c.insts.length S)(hi:i<c.insts.length){β g:Nat}(hsv:∀l0,oG u c mx S i (.own β g 0 c.insts.length) (h++l0)):CB 62 [.agg [.vec u.globals.length (g5 u.globals),.vec u.mutexes.length (c9 u.mutexes),.vec u.procs.length (g7 u.procs),.int .i64 u.main],.agg [.vec c.insts.length (j0 c.insts),.vec c.calls.length (j8 c.calls),.vec c.roots.length (g5 c.roots)],.int .i64 ((mx:Nat):Int),.own β g 0 c.insts.length,.int .i64 ((i:Nat):Int)] h (bL (exT u c mx S i)):=by
  refine .bz Tryz.f62 55 ?_;have w:=dE wc hi;have w1:=w.lo;have w2:=w.hi;have hsz:(c7 u (itI c i)).length≤1664:=n7 hu w;have hwl:=wc.len;have hk8:kM u mx≤8:=dN;have hk9:lY (u.mutexes.getD mx v8)≤8:=hk8;have hml:=hu.ml;have hT:=cP (u:=u) (c:=c) (m:=mx) S i;have hTl:(fR u c mx S i).length=u7 u c i:=hT.1;have hli:u7 u c i≤1664:=hsz;have hlc:u7 u c i=(c7 u (itI c i)).length:=rfl;refine .z ?_;refine c24z ?_;refine .ca rfl rfl (M0 u mx) ?_;refine c35z ?_;refine .c6 [2,3,4,5,6,11] ?_;refine c8.Dh (t:=11) (γ:=(h.length+2)) (len:=(kM u mx+1)) t30 (by simp) (by omega) (iS (by decide) rfl) ?_;rw[aW];simp only[l7,List.set_cons_succ,List.set_cons_zero];generalize (⟨0,false,3,1,(List.replicate (kM u mx+1) 0).map j4,kM u mx+1⟩:Blk)=Vb;refine c24z ?_;refine .ca rfl rfl (LA hu wc hmx hS hi (fun l0=>by rw[List.append_assoc];exact hsv _)) ?_;refine c119z ?_;refine .bX (fun m st=>∃(j:Nat),(m=u7 u c i-j∧(j≤u7 u c i))∧st=⟨mkS 55 [(4,AV.int .i64 ((i:Nat):Int)),(5,AV.ptr h.length 0 0),(6,AV.ptr (h.length+1) 0 0),(11,bL (S8 u c mx i (fR u c mx S i) j)),(27,AV.vec (u7 u c i) (s7 (fR u c mx S i))),(28,AV.int .i64 ((u7 u c i:Nat):Int)),(29,AV.int .i64 ((j:Nat):Int))],h++[⟨0,false,30,4,[.vec u.globals.length (g5 u.globals),.vec u.mutexes.length (c9 u.mutexes),.vec u.procs.length (g7 u.procs),.int .i64 u.main],0⟩,⟨0,false,34,3,[.vec c.insts.length (j0 c.insts),.vec c.calls.length (j8 c.calls),.vec c.roots.length (g5 c.roots)],0⟩,Vb]⟩) _ (.v ⟨0,⟨rfl,by omega⟩,rfl⟩ (hs:=t35)) ?_;rintro m sl h' ⟨j,⟨hm,hj⟩,hst⟩;obtain ⟨rfl,rfl⟩:=St.mk.inj hst;have hop:(eQ u c i j).op=((c7 u (itI c i)).getD j g6).op:=rfl;refine c13z ?_;refine u2z ?_ ?_
  ·intro e1 qe1;refine c58z ?_;refine c66z ?_;refine u2z ?_ ?_
   ·intro e2 qe2;refine .c6 [4,5,6,11,13,27,28,29] ?_;have hTj:=hT.get (i:=j) (by omega);have hEj:=rT (u:=u) (c:=c) (m:=mx) i (fR u c mx S i) j;refine .r ?_;refine .e 2 ?_;refine .ca rfl rfl (T6 _ _ (hTj.lt hk8) (hEj.lt hk8) (by have:=hEj.1;omega) t195) ?_;refine c28z ?_;refine .rz ?_;exact ⟨_,by omega,.v ⟨(j+1),⟨rfl,by omega⟩,rfl⟩ (hs:=t35)⟩
   intro e2 qe2;refine c4z ?_;refine .c6 [4,5,6,11,27,28,29] ?_;refine .rz ?_;exact ⟨_,by omega,.v ⟨(j+1),⟨rfl,by omega⟩,rfl⟩ (hs:=t35)⟩
  intro e1 qe1;refine .exit ?_;obtain rfl:j=u7 u c i:=by omega
  refine c211z ?_;exact .ret (.ex (hq:=by rfl))
theorem TF (hu:WU u)(wc:WC u c)(hmx:mx<u.mutexes.length):CH 61 [.agg [.vec u.globals.length (g5 u.globals),.vec u.mutexes.length (c9 u.mutexes),.vec u.procs.length (g7 u.procs),.int .i64 u.main],.agg [.vec c.insts.length (j0 c.insts),.vec c.calls.length (j8 c.calls),.vec c.roots.length (g5 c.roots)],.int .i64 ((mx:Nat):Int)] h (.own (h.length+2) 0 0 c.insts.length) (h++[⟨0,false,30,4,[.vec u.globals.length (g5 u.globals),.vec u.mutexes.length (c9 u.mutexes),.vec u.procs.length (g7 u.procs),.int .i64 u.main],0⟩,⟨0,false,34,3,[.vec c.insts.length (j0 c.insts),.vec c.calls.length (j8 c.calls),.vec c.roots.length (g5 c.roots)],0⟩,⟨0,false,22,1,s7 (wH u c mx),0⟩]):=by
  refine .wz Tryz.f61 31 ?_;have hwl:=wc.len;have hk8:kM u mx≤8:=dN;have hk9:lY (u.mutexes.getD mx v8)≤8:=hk8;have hml:=hu.ml;refine c182z ?_;refine .c6 [2,3,7] ?_;refine c19z ?_;refine .u6 (fun m st=>∃(i:Nat),(m=c.insts.length-i∧(i≤c.insts.length))∧st=⟨mkS 31 [(2,AV.int .i64 ((mx:Nat):Int)),(3,AV.ptr h.length 0 0),(7,AV.own (h.length+2) 0 0 c.insts.length),(14,AV.int .i64 ((c.insts.length:Nat):Int)),(15,AV.int .i64 ((i:Nat):Int))],h++[⟨0,false,30,4,[.vec u.globals.length (g5 u.globals),.vec u.mutexes.length (c9 u.mutexes),.vec u.procs.length (g7 u.procs),.int .i64 u.main],0⟩,⟨0,false,34,3,[.vec c.insts.length (j0 c.insts),.vec c.calls.length (j8 c.calls),.vec c.roots.length (g5 c.roots)],0⟩,⟨0,false,22,1,C9 c.insts.length i (List.replicate (kM u mx+1) 0),0⟩]⟩) (.v ⟨0,⟨rfl,by omega⟩,rfl⟩) ?_ (he:=by (rw[wM]));rintro m sl h' ⟨i,⟨hm,hi⟩,hst⟩;obtain ⟨rfl,rfl⟩:=St.mk.inj hst;clear hst;refine c13z ?_;refine u2z ?_ ?_
  ·intro e1 qe1;refine c58z ?_;refine .r ?_;refine .e 7 ?_;refine .ca rfl rfl (M0 u mx) ?_;refine c28z ?_;refine .c6 [2,3,7,14,15] ?_;refine c8.Df (β:=h.length+2) (γ:=h.length+3) (A:=s7 (List.replicate i (List.replicate (kM u mx+1) 0))) (R:=List.replicate (c.insts.length-(i+1)) AV.nils) (zs:=(List.replicate (kM u mx+1) 0)) (len:=kM u mx+1) t30 t30 (by simp) (by omega) ?_;refine c30z ?_;exact ⟨_,by omega,.v ⟨(i+1),⟨rfl,by omega⟩,rfl⟩ (he:=t115) (hk:=by exact (y0.refl _).app rfl ⟨.inl rfl,.inl rfl,.inr (wN _),trivial⟩)⟩
  intro e1 qe1;refine .exit ?_;obtain rfl:i=c.insts.length:=by omega
  simp only[D0];change c8 ..;refine c29z ?_;exact ⟨_,[],_,(List.append_nil _).symm,by simp,y0.new (fun b hb=>by replace hb:=s8z hb;rcases hb with rfl | rfl | rfl;exact plnU u;exact plnC c;exact Db _),LB (by simp),by exact ⟨rfl,rfl⟩⟩
theorem c_of (hu:WU u)(wc:WC u c)(hmx:mx<u.mutexes.length):CB 23 [.agg [.vec u.globals.length (g5 u.globals),.vec u.mutexes.length (c9 u.mutexes),.vec u.procs.length (g7 u.procs),.int .i64 u.main],.agg [.vec c.insts.length (j0 c.insts),.vec c.calls.length (j8 c.calls),.vec c.roots.length (g5 c.roots)],.int .i64 ((mx:Nat):Int)] h (.vec c.insts.length (s7 (w9 u c mx))):=by
  refine .bz Tryz.f23 41 ?_;have hwl:=wc.len;have hk8:kM u mx≤8:=dN;have hk9:lY (u.mutexes.getD mx v8)≤8:=hk8;have hml:=hu.ml;refine c91z ?_;refine .ch rfl rfl (TF hu wc hmx) ?_;refine .n ?_;refine c5z ?_;refine .u6 (fun m st=>∃(Sx:List (List Nat)) (ag:Bool),(m=WW c.insts.length Sx ag∧(Low u c mx Sx∧(ag=false→Sx=w9 u c mx)))∧st=⟨mkS 41 [(2,AV.int .i64 ((mx:Nat):Int)),(3,AV.ptr h.length 0 0),(4,AV.ptr (h.length+1) 0 0),(7,AV.own (h.length+4) 0 0 c.insts.length),(8,AV.bool ag)],h++[⟨0,false,30,4,[.vec u.globals.length (g5 u.globals),.vec u.mutexes.length (c9 u.mutexes),.vec u.procs.length (g7 u.procs),.int .i64 u.main],0⟩,⟨0,false,34,3,[.vec c.insts.length (j0 c.insts),.vec c.calls.length (j8 c.calls),.vec c.roots.length (g5 c.roots)],0⟩,⟨0,false,30,4,[.vec u.globals.length (g5 u.globals),.vec u.mutexes.length (c9 u.mutexes),.vec u.procs.length (g7 u.procs),.int .i64 u.main],0⟩,⟨0,false,34,3,[.vec c.insts.length (j0 c.insts),.vec c.calls.length (j8 c.calls),.vec c.roots.length (g5 c.roots)],0⟩,⟨0,false,22,1,s7 Sx,0⟩]⟩) (.v ⟨(wH u c mx),true,⟨rfl,⟨Low.zero,fun h=>by cases h⟩⟩,rfl⟩) ?_ (he:=t178);rintro m sl h' ⟨Sx,ag,⟨hm,⟨hL,hdone⟩⟩,hst⟩;obtain ⟨rfl,rfl⟩:=St.mk.inj hst;clear hst;refine c0z ?_;refine u2z ?_ ?_
  ·intro e1 qe1;refine c125z ?_;have hag:ag=true:=by assumption
   subst hag;refine .z ?_;refine c19z ?_;refine .u6 (fun m st=>∃(S1:List (List Nat)) (a1:Bool) (i:Nat),(m=i∧(OfI u c mx Sx S1 a1 i∧i≤c.insts.length))∧st=⟨mkS 41 [(2,AV.int .i64 ((mx:Nat):Int)),(3,AV.ptr h.length 0 0),(4,AV.ptr (h.length+1) 0 0),(7,AV.own (h.length+4) 0 0 c.insts.length),(8,AV.bool a1),(9,AV.int .i64 (((i:Nat):Int)-1))],h++[⟨0,false,30,4,[.vec u.globals.length (g5 u.globals),.vec u.mutexes.length (c9 u.mutexes),.vec u.procs.length (g7 u.procs),.int .i64 u.main],0⟩,⟨0,false,34,3,[.vec c.insts.length (j0 c.insts),.vec c.calls.length (j8 c.calls),.vec c.roots.length (g5 c.roots)],0⟩,⟨0,false,30,4,[.vec u.globals.length (g5 u.globals),.vec u.mutexes.length (c9 u.mutexes),.vec u.procs.length (g7 u.procs),.int .i64 u.main],0⟩,⟨0,false,34,3,[.vec c.insts.length (j0 c.insts),.vec c.calls.length (j8 c.calls),.vec c.roots.length (g5 c.roots)],0⟩,⟨0,false,22,1,s7 S1,0⟩]⟩) (.v ⟨Sx,false,c.insts.length,⟨rfl,⟨OfI.start hL,Nat.le_refl _⟩⟩,rfl⟩) ?_;rintro m sl h' ⟨S1,a1,i,⟨hm,⟨hO,hi⟩⟩,hst⟩;obtain ⟨rfl,rfl⟩:=St.mk.inj hst;clear hst;have hS1:S1.length=c.insts.length:=hO.low.tb.1;refine c0z ?_;refine u2z ?_ ?_
   ·intro e2 qe2;refine c2z ?_;obtain ⟨i,rfl⟩:∃i',i=i'+1:=⟨i-1,by omega⟩;simp only[rU];refine c24z ?_;refine .ca rfl rfl (c_exitO hu wc hmx hO.low.tb (show i<c.insts.length by omega) (fun l0=>DY hu wc hmx hO.low.tb (show i<c.insts.length by omega) (β:=h.length+4) (g:=0) t30 l0)) ?_;refine .n ?_;refine .c6 [2,3,4,7,8,9,10] ?_;refine c24z ?_;refine .ca rfl rfl (TE _ _ (by have:=(L2 (u:=u) (c:=c) (m:=mx) S1 i).1;omega)) ?_;refine .n ?_;refine u2z ?_ ?_
    ·intro e3 qe3;refine .c6 [2,3,4,7,9,10] ?_;refine c48z ?_;exact ⟨_,by omega,.v ⟨(S1.set i (exT u c mx S1 i)),true,i,⟨rfl,⟨hO.set hu wc (by omega) (by assumption),by omega⟩⟩,rfl⟩ (hk:=t102)⟩
    intro e3 qe3;refine c4z ?_;refine .c6 [2,3,4,7,8,9] ?_;refine .rz ?_;exact ⟨_,by omega,.v ⟨S1,a1,i,⟨rfl,⟨hO.same (by assumption),by omega⟩⟩,rfl⟩ (hk:=t102)⟩
   intro e2 qe2;refine .exit ?_;obtain rfl:i=0:=by omega
   have hlt:=mOf_lt hO;exact ⟨_,by omega,.v ⟨S1,a1,⟨rfl,⟨hO.low,fun h=>by subst h;exact hO.done hu wc⟩⟩,rfl⟩ (hk:=t102)⟩
  intro e1 qe1;refine c63z ?_;exact ⟨_,_,rfl,SY t30 (by omega) hL.tb.1,by (rw[hdone (by assumption)])⟩
def Qt (n i:Nat)(T:List (List Nat)):List AV:=s7 (T.take i)++List.replicate (n-i) AV.nils
theorem overN {T:List (List Nat)}{x:AV}(h:T.length=n)(hi:i<n):List.take i (Qt n i T)++x::List.drop (i+1) (Qt n i T)=s7 (T.take i)++x::List.replicate (n-(i+1)) AV.nils:=by
  have hl:(s7 (T.take i)).length=i:=by rw[s3,List.length_take];omega
  rw[Qt,List.take_append_of_le_length (by omega),List.take_of_length_le (by omega),List.drop_append,List.drop_of_length_le (by omega),hl,List.nil_append,List.drop_replicate,show n-i-(i+1-i)=n-(i+1) from by omega]
theorem AZ {T:List (List Nat)}(h:T.length=n)(hi:i≤n):(Qt n i T).length=n:=by rw[Qt,List.length_append,s3,List.length_take,List.length_replicate];omega
attribute [local go_sem] overN AZ
end Go.Proofs.YtonbocmibeikmaaGreat
end
section
namespace Go.Proofs.YtonbocmibeikmaaGreat
open Go.Ab Go.Un
def midH (A:c5)(B:Blk)(R:c5):c5:=A++B::R
theorem jP {A R l:c5}{B:Blk}:(midH A B R++l)[A.length]?=some B:=by unfold midH;rw[List.append_assoc,List.getElem?_append_right (Nat.le_refl _),Nat.sub_self];rfl
variable {h:c5}
theorem T8 (u:Un)(mx:Nat):CB 43 [.agg [.str (u.mutexes.getD mx v8).name,.bool (u.mutexes.getD mx v8).re,.int .i64 (u.mutexes.getD mx v8).size]] h (.int .i64 ((kM u mx:Nat):Int)):=WH _
theorem TG (k:Nat)(hk:k≤8):CB 79 [.int .i64 ((k:Nat):Int),.int .i64 0] h (bL (dhN k 0)):=
  (JX k 0 hk (by omega) (by omega)).mono fun y k hq=>⟨hq.1.trans (AW _ _),hq.2⟩
variable {u:Un}{c:Clo}{mx i:Nat}
theorem c_relRN (hu:WU u)(wc:WC u c)(hmx:mx<u.mutexes.length)(hi:i<c.insts.length){pc:Nat}(hp:pc<u7 u c i):CB 80 [.agg [.vec u.globals.length (g5 u.globals),.vec u.mutexes.length (c9 u.mutexes),.vec u.procs.length (g7 u.procs),.int .i64 u.main],.agg [.int .i64 (itI c i).proc,.vec (itI c i).j9.length (g5 (itI c i).j9)],.int .i64 ((pc:Nat):Int),.int .i64 ((mx:Nat):Int)] h (bL (dhN (kM u mx) (chI (itI c i) (eQ u c i pc) mx))):=
  (c_relR hu (dE wc hi) hp hmx).mono fun y k hq=>⟨hq.1.trans (AW _ _),hq.2⟩
theorem BB (hu:WU u){it:z8}(w:WIt u it){pc:Nat}(hpc:pc<(c7 u it).length):CB 26 [.agg [.vec u.globals.length (g5 u.globals),.vec u.mutexes.length (c9 u.mutexes),.vec u.procs.length (g7 u.procs),.int .i64 u.main],.agg [.int .i64 it.proc,.vec it.j9.length (g5 it.j9)],.int .i64 ((pc:Nat):Int)] h (.vec (w6 ((c7 u it).getD pc g6) pc).length (g5 (w6 ((c7 u it).getD pc g6) pc))):=c_nextR hu w hpc
attribute [local go_sem] rd bL u0 w8 r8 n6 l6 bB s3 Int.natCast_nonneg Int.natCast_inj bK fF eH fG iW kA qO oE dF oF xC gJ mP mQ kB List.length_set List.length_replicate Int.toNat_natCast_add_one gY wrap64 rU List.length_map fK fJ jP
theorem M1 (hu:WU u)(wc:WC u c)(hmx:mx<u.mutexes.length){S:List (List Nat)}(hS:Tb (kM u mx) c.insts.length S)(hi:i<c.insts.length):CB 57 [.agg [.vec u.globals.length (g5 u.globals),.vec u.mutexes.length (c9 u.mutexes),.vec u.procs.length (g7 u.procs),.int .i64 u.main],.agg [.vec c.insts.length (j0 c.insts),.vec c.calls.length (j8 c.calls),.vec c.roots.length (g5 c.roots)],.int .i64 ((mx:Nat):Int),.vec c.insts.length (s7 S),.int .i64 ((i:Nat):Int)] h (.vec (u7 u c i) (s7 (fR u c mx S i))):=by
  refine .bz Tryz.f57 136 ?_;have w:=dE wc hi;have w1:=w.lo;have w2:=w.hi;have hsz:(c7 u (itI c i)).length≤1664:=n7 hu w;have hwl:=wc.len;have hk8:kM u mx≤8:=dN;have hk9:lY (u.mutexes.getD mx v8)≤8:=hk8;have hml:=hu.ml;have p:Pro (kM u mx) (c7 u (itI c i)).length (nxI u c i) (stS u c mx S i):=KH hu wc hS hi;have hps:=p.pos;have hcl:=wc.cl;have hcll:(c.calls.getD i []).length=(c7 u (itI c i)).length:=wc.cll i hi;have hSl:=hS.1;have hcall:∀pc,pc<(c7 u (itI c i)).length→(eQ u c i pc).op=2→0≤(c.calls.getD i []).getD pc 0∧(c.calls.getD i []).getD pc 0<c.insts.length:=fun pc hp ho=>by have:=(wc.call i hi pc hp).1 (.inl ho);exact ⟨this.1,this.2.1⟩
  refine c210z ?_;refine .c6 [2,3,4,5,6,11] ?_;refine c24z ?_;refine .ca rfl rfl (T8 u mx) ?_;refine .n ?_;refine c216z ?_;refine .c6 [2,3,4,5,6,11,12,13] ?_;refine c19z ?_;refine .u6 (fun m st=>∃(j:Nat),(m=(c7 u (itI c i)).length-j∧(j≤(c7 u (itI c i)).length))∧st=⟨mkS 136 [(2,AV.int .i64 ((mx:Nat):Int)),(3,AV.vec c.insts.length (s7 S)),(4,AV.int .i64 ((i:Nat):Int)),(5,AV.ptr h.length 0 0),(6,AV.ptr (h.length+1) 0 0),(11,AV.ptr (h.length+2) 0 0),(12,AV.int .i64 (((kM u mx):Nat):Int)),(13,AV.own (h.length+3) 0 0 (c7 u (itI c i)).length),(14,AV.int .i64 ((j:Nat):Int))],h++[⟨0,false,30,4,[.vec u.globals.length (g5 u.globals),.vec u.mutexes.length (c9 u.mutexes),.vec u.procs.length (g7 u.procs),.int .i64 u.main],0⟩,⟨0,false,34,3,[.vec c.insts.length (j0 c.insts),.vec c.calls.length (j8 c.calls),.vec c.roots.length (g5 c.roots)],0⟩,⟨0,false,46,2,[.int .i64 (itI c i).proc,.vec (itI c i).j9.length (g5 (itI c i).j9)],0⟩,⟨0,false,22,1,C9 (c7 u (itI c i)).length j (List.replicate (kM u mx+1) 0),0⟩]⟩) (.v ⟨0,⟨rfl,by omega⟩,rfl⟩) ?_ (he:=by (rw[wM]));rintro m sl h' ⟨j,⟨hm,hj⟩,hst⟩;obtain ⟨rfl,rfl⟩:=St.mk.inj hst;clear hst;refine c0z ?_;refine u2z ?_ ?_
  ·intro e1 qe1;refine c2z ?_;refine c1z ?_;refine .c6 [2,3,4,5,6,11,12,13,14] ?_;refine c8.Df (β:=h.length+3) (γ:=h.length+4) (A:=s7 (List.replicate j (List.replicate (kM u mx+1) 0))) (R:=List.replicate ((c7 u (itI c i)).length-(j+1)) AV.nils) (zs:=(List.replicate (kM u mx+1) 0)) (len:=kM u mx+1) t30 t30 (by simp) (by omega) ?_;refine c30z ?_;exact ⟨_,by omega,.v ⟨(j+1),⟨rfl,by omega⟩,rfl⟩ (he:=t115) (hk:=by exact (y0.refl _).app rfl ⟨.inl rfl,.inl rfl,.inl rfl,.inr (wN _),trivial⟩)⟩
  intro e1 qe1;refine .exit ?_;obtain rfl:j=(c7 u (itI c i)).length:=by omega
  simp only[D0];change c8 ..;refine c15z ?_;refine .ca rfl rfl (TG _ hk8) ?_;refine c35z ?_;refine .c6 [2,3,4,5,6,11,13] ?_;refine c19z ?_;refine .u6 (fun m st=>∃(T:List (List Nat)) (ag:Bool),(m=WW (c7 u (itI c i)).length T ag∧(Gro (kM u mx) (c7 u (itI c i)).length (nxI u c i) (stS u c mx S i) T∧(ag=false→T=eC (kM u mx) (c7 u (itI c i)).length (nxI u c i) (stS u c mx S i))))∧st=⟨mkS 136 [(2,AV.int .i64 ((mx:Nat):Int)),(3,AV.vec c.insts.length (s7 S)),(4,AV.int .i64 ((i:Nat):Int)),(5,AV.ptr h.length 0 0),(6,AV.ptr (h.length+1) 0 0),(11,AV.ptr (h.length+2) 0 0),(13,AV.own (h.length+3) 0 0 (c7 u (itI c i)).length),(15,AV.bool ag)],h++[⟨0,false,30,4,[.vec u.globals.length (g5 u.globals),.vec u.mutexes.length (c9 u.mutexes),.vec u.procs.length (g7 u.procs),.int .i64 u.main],0⟩,⟨0,false,34,3,[.vec c.insts.length (j0 c.insts),.vec c.calls.length (j8 c.calls),.vec c.roots.length (g5 c.roots)],0⟩,⟨0,false,46,2,[.int .i64 (itI c i).proc,.vec (itI c i).j9.length (g5 (itI c i).j9)],0⟩,⟨0,false,22,1,s7 T,0⟩]⟩) (.v ⟨((List.replicate (c7 u (itI c i)).length (List.replicate (kM u mx+1) 0)).set 0 (dhN (kM u mx) 0)),true,⟨rfl,⟨Gro.start p,fun hf=>by cases hf⟩⟩,rfl⟩) ?_;rintro m sl h' ⟨T,ag,⟨hm,⟨hG,hdone⟩⟩,hst⟩;obtain ⟨rfl,rfl⟩:=St.mk.inj hst;clear hst;refine c0z ?_;refine u2z ?_ ?_
  ·intro e2 qe2;refine c125z ?_;have hag:ag=true:=by assumption
   subst hag;refine .z ?_;refine c19z ?_;refine .u6 (fun m st=>∃(T1:List (List Nat)) (a1:Bool) (pc:Nat),(m=(c7 u (itI c i)).length-pc∧(NB (kM u mx) (c7 u (itI c i)).length (nxI u c i) (stS u c mx S i) T T1 a1 pc∧pc≤(c7 u (itI c i)).length))∧st=⟨mkS 136 [(2,AV.int .i64 ((mx:Nat):Int)),(3,AV.vec c.insts.length (s7 S)),(4,AV.int .i64 ((i:Nat):Int)),(5,AV.ptr h.length 0 0),(6,AV.ptr (h.length+1) 0 0),(11,AV.ptr (h.length+2) 0 0),(13,AV.own (h.length+3) 0 0 (c7 u (itI c i)).length),(15,AV.bool a1),(16,AV.int .i64 ((pc:Nat):Int))],h++[⟨0,false,30,4,[.vec u.globals.length (g5 u.globals),.vec u.mutexes.length (c9 u.mutexes),.vec u.procs.length (g7 u.procs),.int .i64 u.main],0⟩,⟨0,false,34,3,[.vec c.insts.length (j0 c.insts),.vec c.calls.length (j8 c.calls),.vec c.roots.length (g5 c.roots)],0⟩,⟨0,false,46,2,[.int .i64 (itI c i).proc,.vec (itI c i).j9.length (g5 (itI c i).j9)],0⟩,⟨0,false,22,1,s7 T1,0⟩]⟩) (.v ⟨T,false,0,⟨rfl,⟨NB.start hG,by omega⟩⟩,rfl⟩) ?_;rintro m sl h' ⟨T1,a1,pc,⟨hm,⟨hP,hpl⟩⟩,hst⟩;obtain ⟨rfl,rfl⟩:=St.mk.inj hst;clear hst;have hT1:T1.length=(c7 u (itI c i)).length:=hP.g.tb.1;refine c0z ?_;refine u2z ?_ ?_
   ·intro e3 qe3;refine c2z ?_;have hpc:pc<(c7 u (itI c i)).length:=by omega
    have hop:eQ u c i pc=(c7 u (itI c i)).getD pc g6:=rfl;refine c25z ?_;refine .ca rfl rfl (c_relRN hu wc hmx hi (show pc<u7 u c i by show pc<(c7 u (itI c i)).length;omega)) ?_;refine c35z ?_;refine .c6 [2,3,4,5,6,11,13,15,16,17] ?_;refine c124z ?_;refine u2z ?_ ?_
    ·intro e4 qe4;refine .c6 [2,3,4,5,6,11,13,15,16] ?_;obtain ⟨hc1,hc2⟩:=hcall pc hpc (by rw[hop];omega);refine c135z ?_;refine .c6 [2,3,4,5,6,11,13,15,16,17] ?_;have hst2:S.getD ((c.calls.getD i []).getD pc 0).toNat []=stS u c mx S i pc:=by unfold stS;rw[if_pos (show (eQ u c i pc).op=2 from by rw[hop];omega)];first | done | rfl
     rw[hst2];have hst1:=p.st pc hpc;have hTp:=hP.g.tb.get hpc;obtain ⟨hR,hle⟩:=hP.g.aft p hpc;have hnl:=qI (x:=(c7 u (itI c i)).getD pc g6) (pc:=pc);refine .ss v9 (mkP 12 [0,0,3,7,0,31,0,0,0,511,1023,2047] []) ?_;refine .k 5 [] ?_;refine .ca rfl rfl (KS _ _ (hst1.lt hk8) t182 (hTp.lt hk8) t169) ?_;refine .k 3 [] ?_;refine .ca rfl rfl (BB hu w hpc) ?_;refine .n [] ?_;refine .c6 [2,3,4,5,6,11,13,15,16,18,19] ?_;refine c19z ?_;refine .u6 (fun m st=>∃(T2:List (List Nat)) (a2:Bool) (j:Nat),(m=(w6 ((c7 u (itI c i)).getD pc g6) pc).length-j∧(KU (kM u mx) (c7 u (itI c i)).length (nxI u c i) (stS u c mx S i) T T2 a2 pc (T1.getD pc []) j∧j≤(w6 ((c7 u (itI c i)).getD pc g6) pc).length))∧st=⟨mkS 136 [(2,AV.int .i64 ((mx:Nat):Int)),(3,AV.vec c.insts.length (s7 S)),(4,AV.int .i64 ((i:Nat):Int)),(5,AV.ptr h.length 0 0),(6,AV.ptr (h.length+1) 0 0),(11,AV.ptr (h.length+2) 0 0),(13,AV.own (h.length+3) 0 0 (c7 u (itI c i)).length),(15,AV.bool a2),(16,AV.int .i64 ((pc:Nat):Int)),(18,bL (p7 (T1.getD pc []) (stS u c mx S i pc))),(19,AV.vec (w6 ((c7 u (itI c i)).getD pc g6) pc).length (g5 (w6 ((c7 u (itI c i)).getD pc g6) pc))),(20,AV.int .i64 ((j:Nat):Int))],h++[⟨0,false,30,4,[.vec u.globals.length (g5 u.globals),.vec u.mutexes.length (c9 u.mutexes),.vec u.procs.length (g7 u.procs),.int .i64 u.main],0⟩,⟨0,false,34,3,[.vec c.insts.length (j0 c.insts),.vec c.calls.length (j8 c.calls),.vec c.roots.length (g5 c.roots)],0⟩,⟨0,false,46,2,[.int .i64 (itI c i).proc,.vec (itI c i).j9.length (g5 (itI c i).j9)],0⟩,⟨0,false,22,1,s7 T2,0⟩]⟩) (.v ⟨T1,a1,0,⟨rfl,⟨hP.go,by omega⟩⟩,rfl⟩) ?_;rintro m sl h' ⟨T2,a2,j,⟨hm,⟨hQ,hj⟩⟩,hst⟩;obtain ⟨rfl,rfl⟩:=St.mk.inj hst;clear hst;have hT2:T2.length=(c7 u (itI c i)).length:=hQ.g.tb.1;refine c0z ?_;refine u2z ?_ ?_
     ·intro e5 qe5;refine c2z ?_;obtain ⟨hq1,hq2⟩:=p.nx pc hpc _ (g8 (d:=0) (show j<(nxI u c i pc).length from by show j<(w6 ((c7 u (itI c i)).getD pc g6) pc).length;omega));rw[show nxI u c i pc=(w6 ((c7 u (itI c i)).getD pc g6) pc) from rfl]at hq1 hq2;have hjn:j<(nxI u c i pc).length:=by show j<(w6 ((c7 u (itI c i)).getD pc g6) pc).length;omega
      have hq3:((w6 ((c7 u (itI c i)).getD pc g6) pc).getD j 0).toNat<(c7 u (itI c i)).length:=by omega
      have hRq:=hQ.g.tb.get hq3;refine c47z ?_;refine .ca rfl rfl (C8 _ _ (hR.lt hk8) (hRq.lt hk8) (by have:=hRq.1;omega) t165) ?_;refine .n ?_;refine .c6 [2,3,4,5,6,11,13,15,16,18,19,20,21] ?_;refine c47z ?_;refine .ca rfl rfl (C7 _ _ (by rw[qJ];have:=hRq.1;omega)) ?_;refine .n ?_;refine u2z ?_ ?_
      ·intro e6 qe6;refine .c6 [2,3,4,5,6,11,13,16,18,19,20,21] ?_;refine c135z ?_;refine c127z ?_;exact ⟨_,by omega,.v ⟨(T2.set ((w6 ((c7 u (itI c i)).getD pc g6) pc).getD j 0).toNat (dD (T2.getD ((w6 ((c7 u (itI c i)).getD pc g6) pc).getD j 0).toNat []) (p7 (T1.getD pc []) (stS u c mx S i pc)))),true,(j+1),⟨rfl,⟨hQ.grow p hpc hR hle hjn rfl (fun hs=>absurd ((eR hRq hR).2 hs) (by assumption)),by omega⟩⟩,rfl⟩ (he:=t12) (hk:=t54)⟩
      intro e6 qe6;refine c4z ?_;refine c127z ?_;exact ⟨_,by omega,.v ⟨T2,a2,(j+1),⟨rfl,⟨hQ.skip ((eR hRq hR).1 (by assumption)),by omega⟩⟩,rfl⟩ (he:=t12) (hk:=t54)⟩
     intro e5 qe5;refine .exit ?_;obtain rfl:j=(w6 ((c7 u (itI c i)).getD pc g6) pc).length:=by omega
     change c8 ..;refine .rz ?_;exact ⟨_,by omega,.v ⟨T2,a2,(pc+1),⟨rfl,⟨hQ.fin,by omega⟩⟩,rfl⟩ (he:=t12) (hk:=t54)⟩
    intro e4 qe4;refine .sk ?_;refine .c6 [2,3,4,5,6,11,13,15,16,17] ?_;have hst2:dhN (kM u mx) (chI (itI c i) (eQ u c i pc) mx)=stS u c mx S i pc:=by unfold stS;rw[if_neg (show ¬(eQ u c i pc).op=2 from by rw[hop];omega)];first | done | rfl
    rw[hst2];have hst1:=p.st pc hpc;have hTp:=hP.g.tb.get hpc;obtain ⟨hR,hle⟩:=hP.g.aft p hpc;have hnl:=qI (x:=(c7 u (itI c i)).getD pc g6) (pc:=pc);refine .ss v9 (mkP 12 [0,0,3,7,0,31,0,0,0,511,1023,2047] []) ?_;refine .k 5 [] ?_;refine .ca rfl rfl (KS _ _ (hst1.lt hk8) t182 (hTp.lt hk8) t169) ?_;refine .k 3 [] ?_;refine .ca rfl rfl (BB hu w hpc) ?_;refine .n [] ?_;refine .c6 [2,3,4,5,6,11,13,15,16,18,19] ?_;refine c19z ?_;refine .u6 (fun m st=>∃(T2:List (List Nat)) (a2:Bool) (j:Nat),(m=(w6 ((c7 u (itI c i)).getD pc g6) pc).length-j∧(KU (kM u mx) (c7 u (itI c i)).length (nxI u c i) (stS u c mx S i) T T2 a2 pc (T1.getD pc []) j∧j≤(w6 ((c7 u (itI c i)).getD pc g6) pc).length))∧st=⟨mkS 136 [(2,AV.int .i64 ((mx:Nat):Int)),(3,AV.vec c.insts.length (s7 S)),(4,AV.int .i64 ((i:Nat):Int)),(5,AV.ptr h.length 0 0),(6,AV.ptr (h.length+1) 0 0),(11,AV.ptr (h.length+2) 0 0),(13,AV.own (h.length+3) 0 0 (c7 u (itI c i)).length),(15,AV.bool a2),(16,AV.int .i64 ((pc:Nat):Int)),(18,bL (p7 (T1.getD pc []) (stS u c mx S i pc))),(19,AV.vec (w6 ((c7 u (itI c i)).getD pc g6) pc).length (g5 (w6 ((c7 u (itI c i)).getD pc g6) pc))),(20,AV.int .i64 ((j:Nat):Int))],h++[⟨0,false,30,4,[.vec u.globals.length (g5 u.globals),.vec u.mutexes.length (c9 u.mutexes),.vec u.procs.length (g7 u.procs),.int .i64 u.main],0⟩,⟨0,false,34,3,[.vec c.insts.length (j0 c.insts),.vec c.calls.length (j8 c.calls),.vec c.roots.length (g5 c.roots)],0⟩,⟨0,false,46,2,[.int .i64 (itI c i).proc,.vec (itI c i).j9.length (g5 (itI c i).j9)],0⟩,⟨0,false,22,1,s7 T2,0⟩]⟩) (.v ⟨T1,a1,0,⟨rfl,⟨hP.go,by omega⟩⟩,rfl⟩) ?_;rintro m sl h' ⟨T2,a2,j,⟨hm,⟨hQ,hj⟩⟩,hst⟩;obtain ⟨rfl,rfl⟩:=St.mk.inj hst;clear hst;have hT2:T2.length=(c7 u (itI c i)).length:=hQ.g.tb.1;refine c0z ?_;refine u2z ?_ ?_
    ·intro e7 qe7;refine c2z ?_;obtain ⟨hq1,hq2⟩:=p.nx pc hpc _ (g8 (d:=0) (show j<(nxI u c i pc).length from by show j<(w6 ((c7 u (itI c i)).getD pc g6) pc).length;omega));rw[show nxI u c i pc=(w6 ((c7 u (itI c i)).getD pc g6) pc) from rfl]at hq1 hq2;have hjn:j<(nxI u c i pc).length:=by show j<(w6 ((c7 u (itI c i)).getD pc g6) pc).length;omega
     have hq3:((w6 ((c7 u (itI c i)).getD pc g6) pc).getD j 0).toNat<(c7 u (itI c i)).length:=by omega
     have hRq:=hQ.g.tb.get hq3;refine c47z ?_;refine .ca rfl rfl (C8 _ _ (hR.lt hk8) (hRq.lt hk8) (by have:=hRq.1;omega) t165) ?_;refine .n ?_;refine .c6 [2,3,4,5,6,11,13,15,16,18,19,20,21] ?_;refine c47z ?_;refine .ca rfl rfl (C7 _ _ (by rw[qJ];have:=hRq.1;omega)) ?_;refine .n ?_;refine u2z ?_ ?_
     ·intro e8 qe8;refine .c6 [2,3,4,5,6,11,13,16,18,19,20,21] ?_;refine c135z ?_;refine c127z ?_;exact ⟨_,by omega,.v ⟨(T2.set ((w6 ((c7 u (itI c i)).getD pc g6) pc).getD j 0).toNat (dD (T2.getD ((w6 ((c7 u (itI c i)).getD pc g6) pc).getD j 0).toNat []) (p7 (T1.getD pc []) (stS u c mx S i pc)))),true,(j+1),⟨rfl,⟨hQ.grow p hpc hR hle hjn rfl (fun hs=>absurd ((eR hRq hR).2 hs) (by assumption)),by omega⟩⟩,rfl⟩ (he:=t12) (hk:=t54)⟩
     intro e8 qe8;refine c4z ?_;refine c127z ?_;exact ⟨_,by omega,.v ⟨T2,a2,(j+1),⟨rfl,⟨hQ.skip ((eR hRq hR).1 (by assumption)),by omega⟩⟩,rfl⟩ (he:=t12) (hk:=t54)⟩
    intro e7 qe7;refine .exit ?_;obtain rfl:j=(w6 ((c7 u (itI c i)).getD pc g6) pc).length:=by omega
    change c8 ..;refine .rz ?_;exact ⟨_,by omega,.v ⟨T2,a2,(pc+1),⟨rfl,⟨hQ.fin,by omega⟩⟩,rfl⟩ (he:=t12) (hk:=t54)⟩
   intro e3 qe3;refine .exit ?_;obtain rfl:pc=(c7 u (itI c i)).length:=by omega
   have hlt:=mPas_lt hk8 hP;exact ⟨_,by omega,.v ⟨T1,a1,⟨rfl,⟨hP.g,fun hf=>by subst hf;exact hP.done p⟩⟩,rfl⟩ (he:=t12) (hk:=t54)⟩
  intro e2 qe2;refine c6z ?_;refine .c6 [13] ?_;refine c29z ?_;exact ⟨_,_,rfl,SY t30 (by omega) hG.tb.1,by (show _=_;rw[hdone (by assumption)];rfl)⟩
theorem TH (hu:WU u)(wc:WC u c)(hmx:mx<u.mutexes.length){S:List (List Nat)}(hS:Tb (kM u mx) c.insts.length S)(hi:i<c.insts.length):CB 136 [.agg [.vec u.globals.length (g5 u.globals),.vec u.mutexes.length (c9 u.mutexes),.vec u.procs.length (g7 u.procs),.int .i64 u.main],.agg [.vec c.insts.length (j0 c.insts),.vec c.calls.length (j8 c.calls),.vec c.roots.length (g5 c.roots)],.int .i64 ((mx:Nat):Int),.vec c.insts.length (s7 S),.int .i64 ((i:Nat):Int)] h (bL (exT u c mx S i)):=by
  refine .bz Tryz.f136 57 ?_;have w:=dE wc hi;have w1:=w.lo;have w2:=w.hi;have hsz:(c7 u (itI c i)).length≤1664:=n7 hu w;have hwl:=wc.len;have hk8:kM u mx≤8:=dN;have hk9:lY (u.mutexes.getD mx v8)≤8:=hk8;have hml:=hu.ml;have hT:=cP (u:=u) (c:=c) (m:=mx) S i;have hTl:(fR u c mx S i).length=u7 u c i:=hT.1;have hli:u7 u c i≤1664:=hsz;have hlc:u7 u c i=(c7 u (itI c i)).length:=rfl;refine .z ?_;refine c24z ?_;refine .ca rfl rfl ((M1 hu wc hmx hS hi)) ?_;refine .n ?_;refine .c6 [2,4,5,6,11] ?_;refine c24z ?_;refine .ca rfl rfl (T8 u mx) ?_;refine c35z ?_;refine .c6 [4,5,6,11,12] ?_;refine c8.Dh (t:=12) (γ:=(h.length+2)) (len:=(kM u mx+1)) t30 (by simp) (by omega) (iS (by decide) rfl) ?_;rw[aW];simp only[l7,List.set_cons_succ,List.set_cons_zero];generalize (⟨0,false,3,1,(List.replicate (kM u mx+1) 0).map j4,kM u mx+1⟩:Blk)=Vb;refine c19z ?_;refine .bX (fun m st=>∃(j:Nat),(m=u7 u c i-j∧(j≤u7 u c i))∧st=⟨mkS 57 [(4,AV.int .i64 ((i:Nat):Int)),(5,AV.ptr h.length 0 0),(6,AV.ptr (h.length+1) 0 0),(11,AV.vec (u7 u c i) (s7 (fR u c mx S i))),(12,bL (S8 u c mx i (fR u c mx S i) j)),(13,AV.int .i64 ((j:Nat):Int))],h++[⟨0,false,30,4,[.vec u.globals.length (g5 u.globals),.vec u.mutexes.length (c9 u.mutexes),.vec u.procs.length (g7 u.procs),.int .i64 u.main],0⟩,⟨0,false,34,3,[.vec c.insts.length (j0 c.insts),.vec c.calls.length (j8 c.calls),.vec c.roots.length (g5 c.roots)],0⟩,Vb]⟩) _ (.v ⟨0,⟨rfl,by omega⟩,rfl⟩ (hs:=t35)) ?_;rintro m sl h' ⟨j,⟨hm,hj⟩,hst⟩;obtain ⟨rfl,rfl⟩:=St.mk.inj hst;have hop:(eQ u c i j).op=((c7 u (itI c i)).getD j g6).op:=rfl;refine c0z ?_;refine u2z ?_ ?_
  ·intro e1 qe1;refine c2z ?_;have hTj:=hT.get (i:=j) (by omega);have hEj:=rT (u:=u) (c:=c) (m:=mx) i (fR u c mx S i) j;refine c66z ?_;refine u2z ?_ ?_
   ·intro e2 qe2;refine .c6 [4,5,6,11,12,13] ?_;refine .r ?_;refine .e 5 ?_;refine .ca rfl rfl (C8 _ _ (hTj.lt hk8) (hEj.lt hk8) (by have:=hEj.1;omega) t195) ?_;refine c28z ?_;refine .rz ?_;exact ⟨_,by omega,.v ⟨(j+1),⟨rfl,by omega⟩,rfl⟩ (hs:=t35)⟩
   intro e2 qe2;refine c4z ?_;refine .c6 [4,5,6,11,12,13] ?_;refine .rz ?_;exact ⟨_,by omega,.v ⟨(j+1),⟨rfl,by omega⟩,rfl⟩ (hs:=t35)⟩
  intro e1 qe1;refine .exit ?_;obtain rfl:j=u7 u c i:=by omega
  change c8 ..;refine .c6 [12] ?_;refine .z ?_;exact .ret (.ex (hq:=by rfl))
end Go.Proofs.YtonbocmibeikmaaGreat
end
section
namespace Go.Proofs.YtonbocmibeikmaaGreat
open Go.Ab Go.Un
variable {h:c5}{T:List (List Nat)}{g n:Nat}
theorem lL {l:c5}{b0 b1:Blk}{r:List Nat}(hn:T.length=n)(hl:n<100000):j6 cfg 22 (h++(b0::b1::o9 22 1 g (s7 T)::⟨0,false,22,1,[.vec r.length (r.map j4)],0⟩::l)) (.own (h.length+2) g 0 n) (.own (h.length+3) 0 0 1)=some (.own (h.length+2) (g+1) 0 (n+1),h++(b0::b1::o9 22 1 (g+1) (s7 (T++[r]))::⟨0,false,22,1,[.vec r.length (r.map j4)],0⟩::l)):=by subst hn;rw[u9 (C:=cfg) (K:=1) (m:=1) (new:=[.vec r.length (r.map j4)]) (zs:=s7 T) t30 rfl (by omega) (by simp[s7]) rfl (by omega) t113 rfl (by decide) (by omega),l7,show s7 T++[AV.vec r.length (r.map j4)]=s7 (T++[r]) from by simp[s7,bL]];rfl
theorem lM {l:c5}{b0 b1 b3:Blk}{k:Nat}(hn:T.length=n)(hl:n<100000):j6 cfg 22 (h++(b0::b1::o9 22 1 g (s7 T)::b3::⟨0,false,22,1,[.own (h.length+3) 0 0 k],0⟩::l)) (.own (h.length+2) g 0 n) (.own (h.length+4) 0 0 1)=some (.own (h.length+2) (g+1) 0 (n+1),h++(b0::b1::⟨g+1,false,22,1,s7 T++[.own (h.length+3) 0 0 k],0⟩::b3::⟨0,false,22,1,[.own (h.length+3) 0 0 k],0⟩::l)):=by subst hn;rw[u9 (C:=cfg) (K:=1) (m:=1) (new:=[.own (h.length+3) 0 0 k]) (zs:=s7 T) t30 rfl (by omega) (by simp[s7]) rfl (by omega) t113 rfl (by decide) (by omega),l7,dA (zs:=s7 T++[AV.own (h.length+3) 0 0 k]) (by simp)];rfl
theorem oV {l:List Int}{a:Nat}:List.take (l.length-a) (List.drop a (g5 l))=g5 (l.drop a):=by unfold g5;rw[←List.map_drop,List.take_of_length_le (by simp)]
theorem c8.seenG {c:Code}{sl:List AV}{H:c5}{Q:Exit→St→Prop}{β γ len e e' g:Nat}{A R:List AV}{zs:List Nat}(hβ:H[β]?=some ⟨g,false,e,1,A++.own γ 0 0 len::R,0⟩)(hγ:H[γ]?=some ⟨0,false,e',1,zs.map j4,0⟩)(hz:zs.length=len)(hne:β≠γ)
    (r:c8 Tryz.prog cfg c ⟨sl,(H.set γ ⟨0,false,e',1,zs.map j4,len⟩).set β ⟨g,false,e,1,A++.vec len (zs.map j4)::R,0⟩⟩ Q):c8 Tryz.prog cfg c ⟨sl,H⟩ Q:=by
  subst hz;refine c8.G9 (γ:=γ) (β:=β) (k:=A.length) (off:=0) (len:=zs.length) (cs:=zs.map j4) hγ rfl (by simp) ?_ hβ hne (by simp) ?_
  · show p6 pH (List.take (zs.length*1) (List.drop 0 (zs.map j4)))=_
    rw[List.drop_zero,Nat.mul_one,List.take_of_length_le (by simp)];exact (AX zs).UW
  · have e1:dJ ⟨0,false,e',1,zs.map j4,0⟩ (0+zs.length*1)=⟨0,false,e',1,zs.map j4,zs.length⟩:=by simp only[dJ,Nat.zero_add,Nat.mul_one,Nat.zero_max]
    have e2:(A++AV.own γ 0 0 zs.length::R).set A.length (.vec zs.length (zs.map j4))=A++.vec zs.length (zs.map j4)::R:=by simp
    show c8 Tryz.prog cfg c ⟨sl,(H.set γ (dJ ⟨0,false,e',1,zs.map j4,0⟩ (0+zs.length*1))).set β ⟨g,false,e,1,(A++AV.own γ 0 0 zs.length::R).set A.length (.vec zs.length (zs.map j4)),0⟩⟩ Q;rw[e1,e2];exact r
theorem TJ {k:Nat}:(⟨g,false,22,1,s7 T++[AV.vec (k+1) ((List.replicate (k+1) 0).map j4)],0⟩:Blk)=o9 22 1 g (s7 (T++[List.replicate (k+1) 0])):=by rw[dA (by simp[s7])];simp[s7,bL]
theorem frz_O {β len:Nat}{H:c5}{a:List (List Nat)}(hb:H[β]?=some (o9 22 1 g (s7 a)))(hn:n≤β)(hl:a.length=len)(hp:0<len):iQ n H 6 (.own β g 0 len)=some (.vec len (s7 a)):=by rw[dA (by intro h0;have:=congrArg List.length h0;rw[s3]at this;replace this:=s7z this;omega)]at hb;exact SY hb hn hl
variable {u:Un}{c:Clo}{mx:Nat}
theorem TK {i:Nat}{S:List (List Nat)}(hi:i<c.insts.length):(yD u c mx S).take i++[exT u c mx S i]=(yD u c mx S).take (i+1):=by
  have hl:i<(yD u c mx S).length:=by rw[(jZ S).1];exact hi
  rw[List.take_add_one,List.getElem?_eq_getElem hl];simp[yD]
theorem TL (h:T.length=n):T.take n=T:=List.take_of_length_le (by omega)
attribute [local go_sem] rd bL u0 w8 r8 n6 l6 bB s3 Int.natCast_nonneg Int.natCast_inj bK fF eH fG iW kA qO oE dF oF xC gJ mP mQ kB List.length_set List.length_replicate Int.toNat_natCast_add_one gY wrap64 rU List.length_map fK fJ jP lL lM oV dF
theorem TM (hu:WU u)(wc:WC u c)(hmx:mx<u.mutexes.length):CB 93 [.agg [.vec u.globals.length (g5 u.globals),.vec u.mutexes.length (c9 u.mutexes),.vec u.procs.length (g7 u.procs),.int .i64 u.main],.agg [.vec c.insts.length (j0 c.insts),.vec c.calls.length (j8 c.calls),.vec c.roots.length (g5 c.roots)],.int .i64 ((mx:Nat):Int)] h (.vec c.insts.length (s7 (wH u c mx))):=by
  refine .bz Tryz.f93 28 ?_;have hwl:=wc.len;have hk8:kM u mx≤8:=dN;have hk9:lY (u.mutexes.getD mx v8)≤8:=hk8;have hml:=hu.ml;refine c59z ?_;refine c8.rC 7 rfl ?_;refine .u6 (fun m st=>∃(i:Nat),(m=c.insts.length-i∧(i≤c.insts.length))∧st=⟨mkS 28 [(2,AV.int .i64 ((mx:Nat):Int)),(3,AV.ptr h.length 0 0),(4,AV.ptr (h.length+1) 0 0),(7,AV.own (h.length+2) i 0 i),(8,AV.int .i64 ((i:Nat):Int))],h++[⟨0,false,30,4,[.vec u.globals.length (g5 u.globals),.vec u.mutexes.length (c9 u.mutexes),.vec u.procs.length (g7 u.procs),.int .i64 u.main],0⟩,⟨0,false,34,3,[.vec c.insts.length (j0 c.insts),.vec c.calls.length (j8 c.calls),.vec c.roots.length (g5 c.roots)],0⟩,o9 22 1 i (s7 (List.replicate i (List.replicate (kM u mx+1) 0)))]⟩) (.v ⟨0,⟨rfl,by omega⟩,rfl⟩ (hs:=t11)) ?_;rintro m sl h' ⟨i,⟨hm,hi⟩,hst⟩;obtain ⟨rfl,rfl⟩:=St.mk.inj hst;clear hst;have hrl:(List.replicate i (List.replicate (kM u mx+1) 0)).length=i:=List.length_replicate;refine c0z ?_;refine u2z ?_ ?_
  ·intro e1 qe1;refine c2z ?_;refine .r ?_;refine .e 6 ?_;refine .ca rfl rfl (T8 u mx) ?_;refine c28z ?_;refine .c6 [2,3,4,7,8] ?_;refine c8.seenG (β:=h.length+2) (γ:=h.length+3) (g:=i+1) (A:=s7 (List.replicate i (List.replicate (kM u mx+1) 0))) (R:=[]) (zs:=(List.replicate (kM u mx+1) 0)) (len:=kM u mx+1) t30 t30 (by simp) (by omega) ?_;refine c30z ?_;exact ⟨_,by omega,.v ⟨(i+1),⟨rfl,by omega⟩,rfl⟩ (he:=by (rw[TJ,←List.replicate_succ'];simp only[List.append_assoc,List.cons_append,List.nil_append];rfl)) (hk:=t150) (hs:=t11)⟩
  intro e1 qe1;refine .exit ?_;obtain rfl:i=c.insts.length:=by omega
  change c8 ..;refine .c6 [7] ?_;refine c29z ?_;exact ⟨_,_,rfl,frz_O t30 (by omega) hrl (by omega),by rfl⟩
theorem TN (hu:WU u)(wc:WC u c)(hmx:mx<u.mutexes.length){S:List (List Nat)}(hS:Tb (kM u mx) c.insts.length S):CB 94 [.agg [.vec u.globals.length (g5 u.globals),.vec u.mutexes.length (c9 u.mutexes),.vec u.procs.length (g7 u.procs),.int .i64 u.main],.agg [.vec c.insts.length (j0 c.insts),.vec c.calls.length (j8 c.calls),.vec c.roots.length (g5 c.roots)],.int .i64 ((mx:Nat):Int),.vec c.insts.length (s7 S)] h (.vec c.insts.length (s7 (yD u c mx S))):=by
  refine .bz Tryz.f94 27 ?_;have hwl:=wc.len;have hk8:kM u mx≤8:=dN;have hk9:lY (u.mutexes.getD mx v8)≤8:=hk8;have hml:=hu.ml;have hSl:=hS.1;refine c59z ?_;refine c8.rC 9 rfl ?_;refine .u6 (fun m st=>∃(i:Nat),(m=c.insts.length-i∧(i≤c.insts.length))∧st=⟨mkS 27 [(2,AV.int .i64 ((mx:Nat):Int)),(3,AV.vec c.insts.length (s7 S)),(4,AV.ptr h.length 0 0),(5,AV.ptr (h.length+1) 0 0),(9,AV.own (h.length+2) i 0 i),(10,AV.int .i64 ((i:Nat):Int))],h++[⟨0,false,30,4,[.vec u.globals.length (g5 u.globals),.vec u.mutexes.length (c9 u.mutexes),.vec u.procs.length (g7 u.procs),.int .i64 u.main],0⟩,⟨0,false,34,3,[.vec c.insts.length (j0 c.insts),.vec c.calls.length (j8 c.calls),.vec c.roots.length (g5 c.roots)],0⟩,o9 22 1 i (s7 ((yD u c mx S).take i))]⟩) (.v ⟨0,⟨rfl,by omega⟩,rfl⟩ (hs:=t11)) ?_;rintro m sl h' ⟨i,⟨hm,hi⟩,hst⟩;obtain ⟨rfl,rfl⟩:=St.mk.inj hst;clear hst;have hrl:((yD u c mx S).take i).length=i:=by rw[List.length_take,(jZ S).1];omega
  refine c0z ?_;refine u2z ?_ ?_
  ·intro e1 qe1;refine c2z ?_;refine .r ?_;refine .e 6 ?_;refine .ca rfl rfl (TH hu wc hmx hS (show i<c.insts.length by omega)) ?_;refine c28z ?_;refine .c6 [2,3,4,5,9,10] ?_;refine .rz ?_;exact ⟨_,by omega,.v ⟨(i+1),⟨rfl,by omega⟩,rfl⟩ (he:=by (rw[TK (by omega)];simp only[List.append_assoc,List.cons_append,List.nil_append];rfl)) (hk:=t150) (hs:=t11)⟩
  intro e1 qe1;refine .exit ?_;obtain rfl:i=c.insts.length:=by omega
  rw[TL (jZ S).1];change c8 ..;refine .c6 [9] ?_;refine c29z ?_;exact ⟨_,_,rfl,frz_O t30 (by omega) (jZ S).1 (by omega),by rfl⟩
theorem BC {m:Nat}{a b:List (List Nat)}(ha:a.length=n)(hb:b.length=m)(hl:n<1000000)(hr:∀r∈a,r.length<100000):CB 33 [.vec n (s7 a),.vec m (s7 b)] h (.bool (decide (a=b))):=by subst ha hb;exact c_sameT (n:=0) a b hl hr
theorem c_ofR (hu:WU u)(wc:WC u c)(hmx:mx<u.mutexes.length):CB 56 [.agg [.vec u.globals.length (g5 u.globals),.vec u.mutexes.length (c9 u.mutexes),.vec u.procs.length (g7 u.procs),.int .i64 u.main],.agg [.vec c.insts.length (j0 c.insts),.vec c.calls.length (j8 c.calls),.vec c.roots.length (g5 c.roots)],.int .i64 ((mx:Nat):Int)] h (.vec c.insts.length (s7 (w9 u c mx))):=by
  refine .bz Tryz.f56 23 ?_;have hwl:=wc.len;have hk8:kM u mx≤8:=dN;have hk9:lY (u.mutexes.getD mx v8)≤8:=hk8;have hml:=hu.ml;refine c91z ?_;refine .ca rfl rfl (TM hu wc hmx) ?_;refine c119z ?_;refine .bX (fun m st=>∃(Sx:List (List Nat)),(m=4608*c.insts.length-tot Sx∧(Low u c mx Sx))∧st=⟨mkS 23 [(2,AV.int .i64 ((mx:Nat):Int)),(3,AV.ptr h.length 0 0),(4,AV.ptr (h.length+1) 0 0),(7,AV.vec c.insts.length (s7 Sx))],h++[⟨0,false,30,4,[.vec u.globals.length (g5 u.globals),.vec u.mutexes.length (c9 u.mutexes),.vec u.procs.length (g7 u.procs),.int .i64 u.main],0⟩,⟨0,false,34,3,[.vec c.insts.length (j0 c.insts),.vec c.calls.length (j8 c.calls),.vec c.roots.length (g5 c.roots)],0⟩]⟩) _ (.v ⟨(wH u c mx),⟨rfl,Low.zero⟩,rfl⟩) ?_;rintro m sl h' ⟨Sx,⟨hm,hL⟩,hst⟩;obtain ⟨rfl,rfl⟩:=St.mk.inj hst;have hSl:=hL.tb.1;have hRl:=(jZ (u:=u) (c:=c) (m:=mx) Sx).1;refine .block ?_;refine c25z ?_;refine .ca rfl rfl (TN hu wc hmx hL.tb) ?_;refine c35z ?_;refine c15z ?_;refine .ca rfl rfl (BC hSl hRl (by omega) (fun r hr=>by have:=(hL.tb.2 r hr).1;omega)) ?_;refine .nil ?_;refine u2z ?_ ?_
  ·intro e1 qe1;refine .c6 [7] ?_;refine .z ?_;exact .ret (.ex (hq:=by (rw[hL.done hu wc (Eq.symm (by assumption))])))
  intro e1 qe1;refine .sk ?_;refine .c6 [2,3,4,8] ?_;refine .rz ?_;have hgr:=hL.grow hu wc (by assumption);exact ⟨_,by omega,.v ⟨(yD u c mx Sx),⟨rfl,(hL.round hu wc).1⟩,rfl⟩⟩
end Go.Proofs.YtonbocmibeikmaaGreat
end
section
namespace Go.Un
open Go.Ab
section
variable (u:Un)(c:Clo)(m:Nat)
structure BD (E:List Nat):Prop where
 es:Es u c m E
 le:Sub E (cN u c m)
 rt:∀i:Nat,(i:Int)∈c.roots→bt E i 0=true
structure qP (E:List Nat)(j:Nat):Prop where
 es:Es u c m E
 le:Sub E (cN u c m)
 rt:∀k,k<j→bt E (c.roots.getD k 0).toNat 0=true
 z:∀i:Nat,(i:Int)∉c.roots→E.getD i 0=0
noncomputable def nY (E:List Nat)(i pc:Nat):Nat:=applyN ((inS u c m i).getD pc []) (E.getD i 0)
def qQ:List Nat:=c.roots.map Int.toNat
def wE (E:List Nat)(l:Nat):Nat:=2*(512*c.insts.length-E.sum)+l
structure NC (E:List Nat)(todo:List Nat):Prop where
 g:BD u c m E
 td:∀i∈todo,i<c.insts.length
 cl:∀i,i<c.insts.length→i∉todo→∀pc,pc<u7 u c i→ClE u c m E i pc
structure ND (i w0:Nat)(E:List Nat)(todo:List Nat)(j:Nat):Prop where
 g:BD u c m E
 td:∀x∈todo,x<c.insts.length
 cl:∀x,x<c.insts.length→x∉todo→x≠i→∀pc,pc<u7 u c x→ClE u c m E x pc
 ci:i∉todo→∀pc,pc<j→ClE u c m E i pc
 wt:wE c E todo.length≤w0
structure yH (E0 E:List Nat)(again:Bool)(i j:Nat):Prop where
 g:BD u c m E
 mo:E0.sum≤E.sum
 up:again=true→E0.sum<E.sum
 no:again=false→E=E0∧(∀x,x<i→∀pc,pc<u7 u c x→ClE u c m E x pc)∧∀pc,pc<j→ClE u c m E i pc
def Qw (E:List Nat)(again:Bool):Nat:=if again then 512*c.insts.length-E.sum+1 else 0
end
section
variable {u:Un}{c:Clo}{m:Nat}
variable {j:Nat}
theorem D1:(1:Nat).testBit j=true↔j=0:=by
 cases j with
 | zero=>simp
 | succ j=>simp[Nat.testBit_succ]
theorem WX:1<2^(kM u m+1):=by have:=Nat.one_lt_two_pow (n:=kM u m+1) (by omega);exact this
theorem root_at (wc:WC u c)(hj:j<c.roots.length):((c.roots.getD j 0).toNat:Int)=c.roots.getD j 0∧(c.roots.getD j 0).toNat<c.insts.length∧(((c.roots.getD j 0).toNat:Nat):Int)∈c.roots:=by
 have h1:c.roots.getD j 0∈c.roots:=g8 hj;have h2:=wc.rr _ h1;have h3:((c.roots.getD j 0).toNat:Int)=c.roots.getD j 0:=by omega
 exact ⟨h3,by omega,by rw[h3];exact h1⟩
theorem qP.start:qP u c m (List.replicate c.insts.length 0) 0:=
 ⟨Es.zero,fun i d h=>(by rw[wB]at h;cases h),fun k hk=>by omega,fun i _=>(by simp only[List.getD,List.getElem?_replicate];split<;>rfl)⟩
variable {E:List Nat}
theorem qP.next (hu:WU u)(wc:WC u c)(h:qP u c m E j)(hj:j<c.roots.length):qP u c m (E.set (c.roots.getD j 0).toNat 1) (j+1):=by
 obtain ⟨h1,h2,h3⟩:=root_at wc hj;have hl:(c.roots.getD j 0).toNat<E.length:=by rw[h.es.1];exact h2
 refine ⟨h.es.set WX,fun i d hb=>?_,fun k hk=>?_,fun i hi=>?_⟩
 ·rw[yE hl]at hb;split at hb
  ·rename_i e;subst e;rw[D1]at hb;subst hb;exact (hC hu wc).2 (.root h3)
  ·exact h.le i d hb
 ·rw[yE hl];split
  ·exact D1.2 rfl
  ·rename_i hne;rcases Nat.lt_succ_iff_lt_or_eq.1 hk with hk | rfl
   ·exact h.rt k hk
   ·exact absurd rfl hne
 ·have hne:(c.roots.getD j 0).toNat≠i:=fun e=>by subst e;exact hi h3
  rw[List.getD_eq_getElem?_getD,List.getElem?_set_ne hne,←List.getD_eq_getElem?_getD];exact h.z i hi
theorem qP.all (wc:WC u c)(h:qP u c m E c.roots.length):BD u c m E:=by refine ⟨h.es,h.le,fun i hi=>?_⟩;obtain ⟨k,hk,he⟩:=List.getElem_of_mem hi;have:=h.rt k hk;rw[show c.roots.getD k 0=c.roots[k] from by simp[List.getD,hk],he]at this;simpa using this
variable {i:Nat}
theorem yI (wc:WC u c):i∈qQ c↔(i:Int)∈c.roots:=by
 unfold qQ;constructor
 ·intro h;obtain ⟨r,hr,rfl⟩:=List.mem_map.1 h;have:=wc.rr r hr;rwa[show ((r.toNat:Nat):Int)=r from by omega]
 ·intro h;exact List.mem_map.2 ⟨_,h,by simp⟩
theorem T9 (wc:WC u c):g5 c.roots=(qQ c).map j4:=by unfold qQ g5;rw[List.map_map];refine List.map_congr_left fun r hr=>?_;have:=wc.rr r hr;show AV.int .i64 r=j4 r.toNat;rw[j4,show ((r.toNat:Nat):Int)=r from by omega]
theorem yJ:(qQ c).length=c.roots.length:=by simp[qQ]
theorem sM {r:List Nat}:∀n,cB r 0 n=0
 | 0=>rfl
 | n+1=>by rw[KD (by simp)];exact sM n
theorem NC.start (wc:WC u c)(h:qP u c m E c.roots.length):NC u c m E (qQ c):=by
 refine ⟨h.all wc,fun i hi=>?_,fun i hi hn pc hp ho j hj=>?_⟩
 ·have:=wc.rr _ ((yI wc).1 hi);omega
 ·have h0:=h.z i (fun hm=>hn ((yI wc).2 hm));rw[h0]at hj;rw[show applyN ((inS u c m i).getD pc []) 0=0 from sM _]at hj;simp at hj
variable {todo:List Nat}
theorem NC.pop (h:NC u c m E (todo++[i])):i<c.insts.length∧ND u c m i (wE c E todo.length) E todo 0:=by refine ⟨h.td i (by simp),h.g,fun x hx=>h.td x (by simp[hx]),fun x hx hn hne=>h.cl x hx (by simp[hn,hne]),fun _ pc hp=>by omega,Nat.le_refl _⟩
variable {k:Nat}
theorem ClE.grow {pc y:Nat}(hc:ClE u c m E i pc)(hk:k<E.length)(hne:i≠k)(hy:∀j,bt E k j=true→y.testBit j=true):ClE u c m (E.set k y) i pc:=fun ho j hj=>by
 rw[List.getD_eq_getElem?_getD (l:=E.set k y),List.getElem?_set_ne (Ne.symm hne),←List.getD_eq_getElem?_getD]at hj;have h1:=hc ho j hj;rw[yE hk];split
 ·rename_i e;rw[e]at h1;exact hy j h1
 ·exact h1
theorem BD.set (hu:WU u)(wc:WC u c)(h:BD u c m E){pc:Nat}(hi:i<c.insts.length)(hp:pc<u7 u c i)(ho:(eQ u c i pc).op=2) :
  BD u c m (E.set (cW c i pc) (E.getD (cW c i pc) 0|||nY u c m E i pc)):=by
 have hk:=jN hu wc hi hp ho;have hl:cW c i pc<E.length:=by rw[h.es.1];exact hk
 refine ⟨h.es.set (Nat.or_lt_two_pow (h.es.get _) (jO ((wK i).get hp) _)),fun x d hb=>?_,fun x hx=>?_⟩
 ·rw[yE hl]at hb;split at hb
  ·rename_i e;subst e;rw[Nat.testBit_or,Bool.or_eq_true]at hb;rcases hb with hb | hb
   ·exact h.le _ d hb
   ·obtain ⟨d0,k1,k2⟩:=(C5 hu wc hi hp).1 hb;exact (hC hu wc).2 (.call ((hC hu wc).1 (h.le _ _ k1)) k2 ho)
  ·exact h.le x d hb
 ·rw[yE hl];split
  ·rename_i e;subst e;rw[Nat.testBit_or,Bool.or_eq_true];exact .inl (h.rt _ hx)
  ·exact h.rt x hx
variable {x:Nat}
theorem BD.up (h:BD u c m E)(hk:k<c.insts.length)(hx:x<2^(kM u m+1))(hne:¬∀j,x.testBit j=true→bt E k j=true):E.sum<(E.set k (E.getD k 0|||x)).sum∧(E.set k (E.getD k 0|||x)).sum≤512*c.insts.length:=by
 refine ⟨SX (by rw[h.es.1];exact hk) (fun j hj=>?_) (fun he=>hne fun j hj=>?_),WT (h.es.set (Nat.or_lt_two_pow (h.es.get _) hx))⟩
 ·rw[Nat.testBit_or,Bool.or_eq_true];exact .inl hj
 ·have:=congrArg (fun n=>n.testBit j) he;simp only[Nat.testBit_or]at this;unfold bt;rw[this,hj,Bool.or_true]
theorem or_in {a:Nat}(h:a.testBit j=true):(a|||x).testBit j=true:=by rw[Nat.testBit_or,h,Bool.true_or]
theorem LC:(E.getD k 0|||x)=E.getD k 0↔∀j,x.testBit j=true→bt E k j=true:=by
 constructor
 ·intro h j hj;have:=congrArg (fun n=>n.testBit j) h;simp only[Nat.testBit_or]at this;unfold bt;rw[←this,hj,Bool.or_true]
 ·intro h;refine rR fun j=>?_;rw[Nat.testBit_or,Bool.or_eq_true];exact ⟨fun hj=>hj.elim id (h j),.inl⟩
variable {w0:Nat}
theorem ND.skip (h:ND u c m i w0 E todo j)(hs:(eQ u c i j).op=2→∀q,(nY u c m E i j).testBit q=true→bt E (cW c i j) q=true):ND u c m i w0 E todo (j+1):=
 ⟨h.g,h.td,h.cl,fun hn pc hp=>by
  rcases Nat.lt_succ_iff_lt_or_eq.1 hp with hp | rfl
  ·exact h.ci hn pc hp
  ·exact hs,h.wt⟩
theorem ND.grow (hu:WU u)(wc:WC u c)(h:ND u c m i w0 E todo j)(hi:i<c.insts.length)(hj:j<u7 u c i)(ho:(eQ u c i j).op=2)(hne:¬∀q,(nY u c m E i j).testBit q=true→bt E (cW c i j) q=true) :
  ND u c m i w0 (E.set (cW c i j) (E.getD (cW c i j) 0|||nY u c m E i j)) (todo++[cW c i j]) (j+1):=by
 have hk:=jN hu wc hi hj ho;have hl:cW c i j<E.length:=by rw[h.g.es.1];exact hk
 have hx:=jO (s:=E.getD i 0) ((wK (u:=u) (c:=c) (m:=m) i).get hj);obtain ⟨s1,s2⟩:=h.g.up hk hx hne;have hw:=h.wt;refine ⟨h.g.set hu wc hi hj ho,fun x hx=>?_,fun x hx hn hxi pc hp=>?_,fun hn pc hp=>?_,?_⟩
 ·rcases List.mem_append.1 hx with hx | hx
  ·exact h.td x hx
  ·rw[List.mem_singleton.1 hx];exact hk
 ·simp only[List.mem_append,List.mem_singleton,not_or]at hn;exact (h.cl x hx hn.1 hxi pc hp).grow hl hn.2 fun q hq=>or_in hq
 ·simp only[List.mem_append,List.mem_singleton,not_or]at hn;rcases Nat.lt_succ_iff_lt_or_eq.1 hp with hp | rfl
  ·exact (h.ci hn.1 pc hp).grow hl hn.2 fun q hq=>or_in hq
  ·intro _ q hq;rw[List.getD_eq_getElem?_getD (l:=E.set _ _),List.getElem?_set_ne (Ne.symm hn.2),←List.getD_eq_getElem?_getD]at hq;rw[yE hl,if_pos rfl,Nat.testBit_or,Bool.or_eq_true];exact .inr hq
 ·unfold wE at hw ⊢;rw[List.length_append,List.length_singleton];unfold nY;omega
theorem ND.fin (h:ND u c m i w0 E todo (u7 u c i)):NC u c m E todo:=
 ⟨h.g,h.td,fun x hx hn pc hp=>by
  by_cases e:x=i
  ·subst e;exact h.ci hn pc hp
  ·exact h.cl x hx hn e pc hp⟩
theorem BD.done (hu:WU u)(wc:WC u c)(h:BD u c m E)(hc:∀i pc,i<c.insts.length→pc<u7 u c i→ClE u c m E i pc):E=cN u c m:=ent_eq hu wc h.es h.le h.rt hc
theorem NC.done (hu:WU u)(wc:WC u c)(h:NC u c m E []):E=cN u c m:=h.g.done hu wc fun i pc hi hp=>h.cl i hi (by simp) pc hp
theorem yH.start (h:BD u c m E):yH u c m E E false 0 0:=⟨h,Nat.le_refl _,fun e=>(by cases e),fun _=>⟨rfl,fun x hx=>by omega,fun pc hp=>by omega⟩⟩
variable {E0:List Nat}{again:Bool}
theorem yH.skip (h:yH u c m E0 E again i j)(hs:(eQ u c i j).op=2→∀q,(nY u c m E i j).testBit q=true→bt E (cW c i j) q=true):yH u c m E0 E again i (j+1):=
 ⟨h.g,h.mo,h.up,fun e=>⟨(h.no e).1,(h.no e).2.1,fun pc hp=>by
  rcases Nat.lt_succ_iff_lt_or_eq.1 hp with hp | rfl
  ·exact (h.no e).2.2 pc hp
  ·exact hs⟩⟩
theorem yH.grow (hu:WU u)(wc:WC u c)(h:yH u c m E0 E again i j)(hi:i<c.insts.length)(hj:j<u7 u c i)(ho:(eQ u c i j).op=2)(hne:¬∀q,(nY u c m E i j).testBit q=true→bt E (cW c i j) q=true) :
  yH u c m E0 (E.set (cW c i j) (E.getD (cW c i j) 0|||nY u c m E i j)) true i (j+1):=by
 have hx:=jO (s:=E.getD i 0) ((wK (u:=u) (c:=c) (m:=m) i).get hj);obtain ⟨s1,s2⟩:=h.g.up (jN hu wc hi hj ho) hx hne;have:=h.mo;exact ⟨h.g.set hu wc hi hj ho,by unfold nY;omega,fun _=>by unfold nY;omega,fun e=>(by cases e)⟩
theorem yH.fin (h:yH u c m E0 E again i (u7 u c i)):yH u c m E0 E again (i+1) 0:=
 ⟨h.g,h.mo,h.up,fun e=>⟨(h.no e).1,fun x hx pc hp=>by
  rcases Nat.lt_succ_iff_lt_or_eq.1 hx with hx | rfl
  ·exact (h.no e).2.1 x hx pc hp
  ·exact (h.no e).2.2 pc hp,fun pc hp=>by omega⟩⟩
theorem yH.done (hu:WU u)(wc:WC u c)(h:yH u c m E0 E false c.insts.length 0):E=cN u c m:=h.g.done hu wc fun i pc hi hp=>(h.no rfl).2.1 i hi pc hp
theorem LD (h:yH u c m E0 E again i j):Qw c E again<Qw c E0 true:=by
 have h1:=WT h.g.es;have h2:=h.mo;unfold Qw;cases again with
 | false=>simp
 | true=>have:=h.up rfl;simp;omega
theorem exi_get (hi:i<c.insts.length):(Ql u c m).getD i 0=applyN ((w9 u c m).getD i []) ((cN u c m).getD i 0):=by simp[Ql,List.getD,hi]
end
section
variable {u:Un}{c:Clo}{m:Nat}
variable {x:Nat}
theorem TO (hu:WU u)(wc:WC u c){d:Nat}:bt (cN u c m) x d=true↔((x:Int)∈c.roots∧d=0)∨∃i pc,i<c.insts.length∧pc<u7 u c i∧(eQ u c i pc).op=2∧cW c i pc=x∧((AR u c m i).getD pc 0).testBit d=true:=by
 rw[hC hu wc];constructor
 ·intro h;cases h with
  | root h=>exact .inl ⟨h,rfl⟩
  | call h1 h2 h3=>
   have hi:=(h1.lt hu wc).1;have hp:=(h2.lt hu wc hi).1;exact .inr ⟨_,_,hi,hp,h3,rfl,(AT hu wc hi hp).2 ⟨_,h1,h2⟩⟩
 ·rintro (⟨h,rfl⟩ | ⟨i,pc,hi,hp,ho,rfl,hb⟩)
  ·exact .root h
  ·obtain ⟨d0,h1,h2⟩:=(AT hu wc hi hp).1 hb;exact .call h1 h2 ho
def TP (c:Clo)(x w j:Nat):Prop:=(w=0∨w=1)∧(w=1↔∃k,k<j∧c.roots.getD k 0=(x:Int))
theorem TP.start:TP c x 0 0:=⟨.inl rfl,⟨fun h=>by omega,fun ⟨k,h,_⟩=>by omega⟩⟩
structure D2 (u:Un)(c:Clo)(m x w i j:Nat):Prop where
 lt:w<2^(kM u m+1)
 bits:∀d,w.testBit d=true↔((x:Int)∈c.roots∧d=0)∨∃a b,(a<i∨a=i∧b<j)∧a<c.insts.length∧b<u7 u c a∧(eQ u c a b).op=2∧cW c a b=x∧((AR u c m a).getD b 0).testBit d=true
variable {w:Nat}
theorem TP.go (h:TP c x w c.roots.length):D2 u c m x w 0 0:=by
 have key:w=1↔(x:Int)∈c.roots:=h.2.trans ⟨fun ⟨k,hk,he⟩=>by rw[←he];exact g8 hk,fun hx=>by obtain ⟨k,hk,he⟩:=List.getElem_of_mem hx;exact ⟨k,hk,by simp[List.getD,hk,he]⟩⟩
 have h1:=h.1;have h2:=WX (u:=u) (m:=m);refine ⟨by omega,fun d=>⟨fun hd=>?_,fun hd=>?_⟩⟩
 ·rcases h1 with rfl | rfl
  ·simp at hd
  ·exact .inl ⟨key.1 rfl,D1.1 hd⟩
 ·rcases hd with ⟨hx,rfl⟩ | ⟨a,b,hab,_⟩
  ·rw[key.2 hx];exact D1.2 rfl
  ·omega
variable {i j:Nat}
theorem D2.skip (h:D2 u c m x w i j)(hn:¬((eQ u c i j).op=2∧cW c i j=x)):D2 u c m x w i (j+1):=by
 refine ⟨h.lt,fun d=>(h.bits d).trans ⟨?_,?_⟩⟩
 ·rintro (hd | ⟨a,b,hab,hr⟩)
  ·exact .inl hd
  ·exact .inr ⟨a,b,by omega,hr⟩
 ·rintro (hd | ⟨a,b,hab,k1,k2,k3,k4,k5⟩)
  ·exact .inl hd
  ·refine .inr ⟨a,b,?_,k1,k2,k3,k4,k5⟩;by_cases e:a=i∧b=j
   ·obtain ⟨rfl,rfl⟩:=e;exact absurd ⟨k3,k4⟩ hn
   ·omega
theorem D2.add (h:D2 u c m x w i j)(hi:i<c.insts.length)(hj:j<u7 u c i)(ho:(eQ u c i j).op=2)(hx:cW c i j=x):D2 u c m x (w|||(AR u c m i).getD j 0) i (j+1):=by
 refine ⟨Nat.or_lt_two_pow h.lt (KM hj),fun d=>?_⟩;rw[Nat.testBit_or,Bool.or_eq_true,h.bits d];constructor
 ·rintro ((hd | ⟨a,b,hab,hr⟩) | hd)
  ·exact .inl hd
  ·exact .inr ⟨a,b,by omega,hr⟩
  ·exact .inr ⟨i,j,by omega,hi,hj,ho,hx,hd⟩
 ·rintro (hd | ⟨a,b,hab,k1,k2,k3,k4,k5⟩)
  ·exact .inl (.inl hd)
  ·by_cases e:a=i∧b=j
   ·obtain ⟨rfl,rfl⟩:=e;exact .inr k5
   ·exact .inl (.inr ⟨a,b,by omega,k1,k2,k3,k4,k5⟩)
theorem D2.done (hu:WU u)(wc:WC u c)(h:D2 u c m x w c.insts.length 0):(cN u c m).getD x 0=w:=rR fun d=>by
 refine Iff.trans (TO hu wc (x:=x) (d:=d)) (Iff.trans ⟨?_,?_⟩ (h.bits d).symm)
 ·rintro (hd | ⟨a,b,k1,hr⟩)
  ·exact .inl hd
  ·exact .inr ⟨a,b,.inl k1,k1,hr⟩
 ·rintro (hd | ⟨a,b,_,hr⟩)
  ·exact .inl hd
  ·exact .inr ⟨a,b,hr⟩
structure xE (u:Un)(c:Clo)(m i w j:Nat):Prop where
 lt:w<2^(kM u m+1)
 bits:∀d,w.testBit d=true↔∃b,b<j∧b<u7 u c i∧(eQ u c i b).op=8∧((AR u c m i).getD b 0).testBit d=true
theorem xE.start:xE u c m i 0 0:=⟨Nat.two_pow_pos _,fun d=>by simp⟩
theorem xE.skip (h:xE u c m i w j)(hn:¬(eQ u c i j).op=8):xE u c m i w (j+1):=by
 refine ⟨h.lt,fun d=>(h.bits d).trans ⟨fun ⟨b,k1,k2⟩=>⟨b,by omega,k2⟩,fun ⟨b,k1,k2,k3,k4⟩=>⟨b,?_,k2,k3,k4⟩⟩⟩;by_cases e:b=j
 ·subst e;exact absurd k3 hn
 ·omega
theorem xE.add (h:xE u c m i w j)(hj:j<u7 u c i)(ho:(eQ u c i j).op=8):xE u c m i (w|||(AR u c m i).getD j 0) (j+1):=by
 refine ⟨Nat.or_lt_two_pow h.lt (KM hj),fun d=>?_⟩;rw[Nat.testBit_or,Bool.or_eq_true,h.bits d];constructor
 ·rintro (⟨b,k1,k2⟩ | hd)
  ·exact ⟨b,by omega,k2⟩
  ·exact ⟨j,by omega,hj,ho,hd⟩
 ·rintro ⟨b,k1,k2,k3,k4⟩;by_cases e:b=j
  ·subst e;exact .inr k4
  ·exact .inl ⟨b,by omega,k2,k3,k4⟩
theorem xE.done (hu:WU u)(wc:WC u c)(hi:i<c.insts.length)(h:xE u c m i w (u7 u c i)):(Ql u c m).getD i 0=w:=rR fun d=>by
 have hR:Rl (kM u m) ((w9 u c m).getD i []):=p9.get hi;rw[exi_get hi,L4 hR,h.bits d];constructor
 ·rintro ⟨d0,h1,h2⟩;obtain ⟨pc,k1,k2,k3⟩:=(oT hu wc hi).1 h2;exact ⟨pc,k1,k1,k2,(AT hu wc hi k1).2 ⟨d0,(hC hu wc).1 h1,k3⟩⟩
 ·rintro ⟨pc,_,k1,k2,k3⟩;obtain ⟨d0,h1,h2⟩:=(AT hu wc hi k1).1 k3;exact ⟨d0,(hC hu wc).2 h1,(oT hu wc hi).2 ⟨pc,k1,k2,h2⟩⟩
theorem mayAll:((List.range 512).all fun s=>(bits .andNot .i64 (s:Int) 1 != 0)==decide (1<(s:Int))&&(bits .and .i64 (s:Int) 1==0)==decide (s%2=0))=true:=by kernel_rfl
theorem TQ {s:Nat}(hs:s<512):bits .and .i64 (s:Int) 1=0↔s%2=0:=by
 have:=List.all_eq_true.1 mayAll s (List.mem_range.2 hs);simp only[Bool.and_eq_true,beq_iff_eq]at this;have h1:=this.2;by_cases e:bits .and .i64 (s:Int) 1=0
 ·simp only[e,beq_self_eq_true]at h1;exact ⟨fun _=>of_decide_eq_true h1.symm,fun _=>e⟩
 ·have e2:(bits .and .i64 (s:Int) 1==0)=false:=by simpa using e
  rw[e2]at h1;exact ⟨fun h=>absurd h e,fun h=>absurd h (of_decide_eq_false h1.symm)⟩
end
end Go.Un
end
section
namespace Go.Proofs.YtonbocmibeikmaaGreat
open Go.Ab Go.Un
noncomputable def eS (u:Un)(c:Clo)(mx j:Nat):List (List (List Nat)):=(List.range j).map (fR u c mx (w9 u c mx))
def u3 (L:List (List (List Nat))):List AV:=L.map fun T=>.vec T.length (s7 T)
variable {L:List (List (List Nat))}
theorem iX:(u3 L).length=L.length:=by simp[u3]
variable {u:Un}{c:Clo}{mx j:Nat}
theorem bM:(eS u c mx j).length=j:=by simp[eS]
theorem M3:eS u c mx 0=[]:=rfl
theorem LF:eS u c mx (j+1)=eS u c mx j++[fR u c mx (w9 u c mx) j]:=by simp[eS,List.range_succ]
variable {T:List (List Nat)}
theorem rV:u3 (L++[T])=u3 L++[.vec T.length (s7 T)]:=by simp[u3]
theorem xF (L:List (List (List Nat))):aC (u3 L):=aC.map fun _=>.vec
variable {i:Nat}
theorem LG (h:i<L.length):List.take 1 (List.drop i (u3 L))=[.vec (L.getD i []).length (s7 (L.getD i []))]:=by unfold u3;rw[←List.map_drop,←List.map_take,List.drop_eq_getElem_cons h,List.take_succ_cons,List.take_zero];simp[List.getD,h]
theorem TR (h:i<j):(eS u c mx j).getD i []=fR u c mx (w9 u c mx) i:=by simp[eS,List.getD,h]
theorem cJ:(fR u c mx (w9 u c mx) i).length=u7 u c i:=(cP _ _).1
theorem nN (h:i<j):List.take 1 (List.drop i (u3 (eS u c mx j)))=[.vec (u7 u c i) (s7 (fR u c mx (w9 u c mx) i))]:=by rw[LG (by rw[bM];exact h),TR h,cJ]
theorem nO {l:List Nat}(h:i<l.length):List.take i (l.map j4)++AV.int .i64 1::List.drop (i+1) (l.map j4)=(l.set i 1).map j4:=oB h
theorem u5:(cN u c mx).length=c.insts.length:=oU.1
theorem nP:(Ql u c mx).length=c.insts.length:=by simp[Ql]
theorem iY:(KL u c mx).length=c.insts.length:=by simp[KL]
theorem wO (h:i<c.insts.length):(KL u c mx).getD i []=AR u c mx i:=by simp[KL,List.getD,h]
theorem nQ (h:i<c.insts.length):List.take 1 (List.drop i (s7 (KL u c mx)))=[.vec (u7 u c i) ((AR u c mx i).map j4)]:=by rw[qO (by rw[iY];exact h),wO h,bL,C6]
variable {h l:c5}{b0 b1 b2 b3 b4:Blk}{g n:Nat}
theorem app_tt5 {m:Nat}(hn:L.length=n)(hx:T.length=m)(hl:n<100000):j6 cfg 32 (h++(b0::b1::b2::b3::b4::o9 32 1 g (u3 L)::⟨0,false,32,1,[.vec m (s7 T)],0⟩::l)) (.own (h.length+5) g 0 n) (.own (h.length+6) 0 0 1)=some (.own (h.length+5) (g+1) 0 (n+1),h++(b0::b1::b2::b3::b4::o9 32 1 (g+1) (u3 (L++[T]))::⟨0,false,32,1,[.vec m (s7 T)],0⟩::l)):=by subst hn hx;rw[u9 (C:=cfg) (K:=1) (m:=1) (new:=[.vec T.length (s7 T)]) (zs:=u3 L) t30 rfl (by omega) (by simp[u3]) rfl (by omega) t113 rfl (by decide) (by omega),←rV,l7];rfl
theorem LH {m:Nat}(hn:L.length=n)(hx:T.length=m)(hl:n<100000):j6 cfg 32 (h++(b0::b1::b2::o9 32 1 g (u3 L)::⟨0,false,32,1,[.vec m (s7 T)],0⟩::l)) (.own (h.length+3) g 0 n) (.own (h.length+4) 0 0 1)=some (.own (h.length+3) (g+1) 0 (n+1),h++(b0::b1::b2::o9 32 1 (g+1) (u3 (L++[T]))::⟨0,false,32,1,[.vec m (s7 T)],0⟩::l)):=by subst hn hx;rw[u9 (C:=cfg) (K:=1) (m:=1) (new:=[.vec T.length (s7 T)]) (zs:=u3 L) t30 rfl (by omega) (by simp[u3]) rfl (by omega) t113 rfl (by decide) (by omega),←rV,l7];rfl
theorem yK {b5:Blk}{R:List Int}(hn:R.length=n):EE cfg 3 (h++(b0::b1::b2::b3::b4::b5::⟨0,false,3,1,(List.replicate n (0:Nat)).map j4,0⟩::l)) (.own (h.length+6) 0 0 n) (.vec n (g5 R))=some (.int .i64 ((n:Nat):Int),h++(b0::b1::b2::b3::b4::b5::⟨0,false,3,1,g5 R,0⟩::l)):=by subst hn;have e1:cfg.sz 3=1:=rfl;simp[EE,rd,lenOf,e1,l6,mA,p8,l7,over]
theorem LJ {b5 b7:Blk}{W:List Nat}{q:Nat}(hn:n≤W.length)(hl:n<1000000000):j6 cfg 3 (h++(b0::b1::b2::b3::b4::b5::⟨g,false,3,1,W.map j4,0⟩::b7::⟨0,false,3,1,[.int .i64 ((q:Nat):Int)],0⟩::l)) (.own (h.length+6) g 0 n) (.own (h.length+8) 0 0 1)=some (.own (h.length+6) (xD W g n) 0 (n+1),h++(b0::b1::b2::b3::b4::b5::⟨xD W g n,false,3,1,(sT W n q).map j4,0⟩::b7::⟨0,false,3,1,[.int .i64 ((q:Nat):Int)],0⟩::l)):=by
  have e1:cfg.sz 3=1:=rfl;have e2:(cfg.ti 3).bytes=8:=rfl;have h1:n+1≤maxLen:=by
    have:(1000000001:Nat)≤maxLen:=by decide
    omega
  have h2:(n+1)*8≤140737488355328:=by omega
  by_cases hc:n+1≤W.length
  · have e3:List.take n (W.map j4)++AV.int .i64 ((q:Nat):Int)::List.drop (n+1) (W.map j4)=(W.set n q).map j4:=oB (by omega)
    simp[j6,rd,lenOf,e1,e2,h1,h2,hc,hn,over,p8,l7,sT,xD];rw[e3];simp
  · have h3:List.take n (W.map j4)=W.map j4:=List.take_of_length_le t60
    have h4:List.take n W=W:=List.take_of_length_le (by omega);simp[j6,rd,lenOf,e1,e2,h1,h2,hc,hn,p8,l7,sT,xD,h4,j4];exact h3
theorem frz_N {β len:Nat}{H:c5}{a:List Nat}(hb:H[β]?=some ⟨g,false,3,1,a.map j4,0⟩)(hn:n≤β)(hl:a.length=len):iQ n H 6 (.own β g 0 len)=some (.vec len (a.map j4)):=by subst hl;rw[dK,if_neg (by omega),gH,hb];simp only[hn,and_self,if_true,Bool.false_eq_true,if_false,Nat.zero_add,Nat.mul_one,List.length_map,Nat.le_refl,List.drop_zero];rw[List.take_of_length_le (by rw[List.length_map];exact Nat.le_refl _),(AX a).frz]
theorem nR {f:AV→Bool}{l:List Nat}:(l.map j4).all f=l.all fun n=>f (.int .i64 ((n:Nat):Int)):=by rw[List.all_map];rfl
theorem rW {l:List Nat}:(l.all fun _=>true)=true:=by simp
def fillN (T:List Nat)(j:Nat):List Nat:=T.take j++List.replicate (T.length-j) 0
theorem kL {T:List Nat}(h:j≤T.length):(fillN T j).length=T.length:=by simp[fillN];omega
theorem kN {x:AV}{R:List AV}(h:i≤T.length):List.take 1 (List.drop i (s7 (T.take i)++x::R))=[x]:=by
  have e:(s7 (T.take i)).length=i:=by rw[s3,List.length_take,Nat.min_eq_left h]
  rw[List.drop_append_of_le_length (by omega),List.drop_of_length_le (by omega),List.nil_append,List.take_succ_cons,List.take_zero]
attribute [local go_sem] rd bL u0 w8 r8 n6 l6 bB s3 Int.natCast_nonneg Int.natCast_inj bK fF eH fG iW kA qO oE dF oF xC gJ mP mQ kB List.length_set List.length_replicate Int.toNat_natCast_add_one gY wrap64 rU List.length_map fK fJ jP lL lM oV dF iX bM nN nO yK kN kL u5 iY nP nQ s3 nR rW orN oB
section
attribute [local go_sem] app_tt5 LJ
theorem c_solve (hu:WU u)(wc:WC u c)(hmx:mx<u.mutexes.length):CB 60 [.agg [.vec u.globals.length (g5 u.globals),.vec u.mutexes.length (c9 u.mutexes),.vec u.procs.length (g7 u.procs),.int .i64 u.main],.agg [.vec c.insts.length (j0 c.insts),.vec c.calls.length (j8 c.calls),.vec c.roots.length (g5 c.roots)],.int .i64 ((mx:Nat):Int)] h (.agg [.vec c.insts.length (s7 (w9 u c mx)),.vec c.insts.length (u3 (eS u c mx c.insts.length)),.vec c.insts.length ((cN u c mx).map j4)]):=by
  refine .bz Tryz.f60 143 ?_;have hwl:=wc.len;have hk8:kM u mx≤8:=dN;have hk9:lY (u.mutexes.getD mx v8)≤8:=hk8;have hml:=hu.ml;have hrl:=wc.rl;have hrc:c.roots.length≤c.insts.length:=by have:=r9 wc.rs wc.rr;omega
  have hel:(cN u c mx).length=c.insts.length:=u5;have hsl:(w9 u c mx).length=c.insts.length:=p9.1;have hcl:=wc.cl;refine .z ?_;refine .sg v9 (mkH 11 [0,0,0,7,0,16,48,112,255,0,1023] [7,9,10] [(7,0),(9,1)] [0,128,512,640,1664] [0,1,2,3,4,5,6,7,8]) 2 ?_;refine .rm [true] ?_;refine c141z ?_;refine .cl rfl rfl (fun _=>c_of hu wc hmx) ?_;refine c33z ?_;refine .p 1 ?_;refine .em [true] [128,0] [_] ?_;refine .p 1 ?_;refine .en [true,true] [640,512,128,0] [_,_] ?_;refine .en [true,false,false,false] [1664,640,512,128,0] [_] ?_;refine c93z ?_;refine .po [false,true,true,true,true] ?_;refine c205z ?_;refine .seq ?_;refine .c6 [2,3,4,6,7] ?_;refine c19z ?_;refine c8.mI (β:=h.length+4) (k:=1) t30 rfl ?_;simp only[List.append_assoc,List.cons_append,List.nil_append,p8,l7,List.set_cons_succ,List.set_cons_zero,List.length_append,List.length_cons,List.length_nil,Nat.reduceAdd,Nat.zero_add];refine .u6 (fun m st=>∃(i:Nat),(m=c.insts.length-i∧(i≤c.insts.length))∧st=⟨mkS 143 [(2,AV.int .i64 ((mx:Nat):Int)),(3,AV.ptr h.length 0 0),(4,AV.ptr (h.length+1) 0 0),(6,AV.ptr (h.length+2) 0 0),(7,AV.ptr (h.length+4) 1 0),(28,AV.int .i64 ((c.insts.length:Nat):Int)),(29,AV.int .i64 ((i:Nat):Int))],h++[⟨0,false,30,4,[.vec u.globals.length (g5 u.globals),.vec u.mutexes.length (c9 u.mutexes),.vec u.procs.length (g7 u.procs),.int .i64 u.main],0⟩,⟨0,false,34,3,[.vec c.insts.length (j0 c.insts),.vec c.calls.length (j8 c.calls),.vec c.roots.length (g5 c.roots)],0⟩,⟨0,false,104,3,[.nils,.nils,.nils],0⟩,⟨1,false,3,1,(List.replicate c.insts.length 0).map j4,0⟩,⟨1,false,104,3,[.vec c.insts.length (s7 (w9 u c mx)),.own (h.length+5) i 0 i,.own (h.length+3) 1 0 c.insts.length],0⟩,o9 32 1 i (u3 (eS u c mx i))]⟩) (.v ⟨0,⟨rfl,by omega⟩,rfl⟩) ?_ (he:=by (first | rfl | (rw[M3];rfl)));rintro m sl h' ⟨i,⟨hm,hi0⟩,hst⟩;obtain ⟨rfl,rfl⟩:=St.mk.inj hst;clear hst;have hinl:(eS u c mx i).length=i:=bM;refine c13z ?_;refine u2z ?_ ?_
  ·intro e1 qe1;refine c58z ?_;have hi:i<c.insts.length:=by omega
   have hTi0:(fR u c mx (w9 u c mx) i).length=u7 u c i:=cJ;refine .og v9 (mkH 13 [0,1,0,0,0,0,32,0,252,508,1023,2047,4095] [9,10,12] [] [0,512,1536,5632] [0,1]) 0 ?_;refine c33z ?_;refine .rn [true] ?_;refine .rn [true] ?_;refine c166z ?_;refine .cl rfl rfl (fun _=>L9 hu wc hmx p9 hi (fun l0=>yG hu wc hmx p9 hi _)) ?_;refine .en [true] [512,0] [_] ?_;refine .en [true,false] [1536,512,0] [_] ?_;refine .p 1 ?_;refine .en [true,false,false] [5632,1536,512,0] [_] ?_;refine c129z ?_;refine .c6 [2,3,4,6,7,28,29] ?_;refine .rz ?_;exact ⟨_,by omega,.v ⟨(i+1),⟨rfl,by omega⟩,rfl⟩ (he:=t70) (hk:=by exact (y0.refl _).app rfl ⟨.inl rfl,.inl rfl,.inl rfl,.inl rfl,.inr (gN.get ⟨.vec _ _,.own _ _ _ _ (by simp),.own _ _ _ _ (by simp),trivial⟩),.inr (by rw[o2];exact (xF _).refs _),trivial⟩)⟩
  intro e1 qe1;refine .exit ?_;obtain rfl:i=c.insts.length:=by omega
  refine c8.nU (γ:=h.length+5) (β:=h.length+4) (k:=1) (len:=c.insts.length) t30 t116 (by omega) (xF _) t30 (by omega) rfl ?_;simp only[List.append_assoc,List.cons_append,List.nil_append,p8,l7,List.set_cons_succ,List.set_cons_zero,List.length_append,List.length_cons,List.length_nil,Nat.reduceAdd,Nat.zero_add];generalize dY _ _ _ _ _=Ib;refine c211z ?_;refine .c6 [3,4,6,7,9] ?_;refine c18z ?_;refine .u6 (fun m st=>∃(j:Nat) (E:List Nat),(m=c.roots.length-j∧(qP u c mx E j∧j≤c.roots.length))∧st=⟨mkS 143 [(3,AV.ptr h.length 0 0),(4,AV.ptr (h.length+1) 0 0),(6,AV.ptr (h.length+2) 0 0),(7,AV.ptr (h.length+4) 1 0),(9,AV.own (h.length+6) 0 0 c.roots.length),(54,AV.vec c.roots.length (g5 c.roots)),(55,AV.int .i64 ((c.roots.length:Nat):Int)),(56,AV.int .i64 ((j:Nat):Int))],h++[⟨0,false,30,4,[.vec u.globals.length (g5 u.globals),.vec u.mutexes.length (c9 u.mutexes),.vec u.procs.length (g7 u.procs),.int .i64 u.main],0⟩,⟨0,false,34,3,[.vec c.insts.length (j0 c.insts),.vec c.calls.length (j8 c.calls),.vec c.roots.length (g5 c.roots)],0⟩,⟨0,false,104,3,[.nils,.nils,.nils],0⟩,⟨1,false,3,1,E.map j4,0⟩,⟨1,false,104,3,[.vec c.insts.length (s7 (w9 u c mx)),.vec c.insts.length (u3 (eS u c mx c.insts.length)),.own (h.length+3) 1 0 c.insts.length],0⟩,Ib,⟨0,false,3,1,(qQ c).map j4,0⟩]⟩) (.v ⟨0,(List.replicate c.insts.length 0),⟨rfl,⟨qP.start,by omega⟩⟩,rfl⟩) ?_ (he:=by (rw[T9 wc]));rintro m sl h' ⟨j,E,⟨hm,⟨hR,hj⟩⟩,hst⟩;obtain ⟨rfl,rfl⟩:=St.mk.inj hst;clear hst;have hEl:=hR.es.1;refine c13z ?_;refine u2z ?_ ?_
  ·intro e2 qe2;refine c2z ?_;have hr:=wc.rr _ (g8 (d:=0) (show j<c.roots.length by omega));refine .z ?_;refine c1z ?_;refine .c6 [3,4,6,7,9,54,55,56] ?_;refine .rz ?_;exact ⟨_,by omega,.v ⟨(j+1),(E.set (c.roots.getD j 0).toNat 1),⟨rfl,⟨hR.next hu wc (by omega),by omega⟩⟩,rfl⟩ (he:=t12) (hk:=by exact (y0.refl _).app rfl ⟨.inl rfl,.inl rfl,.inl rfl,.inr ((AX _).refs _),.inl rfl,.inl rfl,.inl rfl,trivial⟩)⟩
  intro e2 qe2;refine .exit ?_;obtain rfl:j=c.roots.length:=by omega
  change c8 ..;refine .sb ?_;refine .u6 (fun m st=>∃(E:List Nat) (W:List Nat) (l:Nat) (g:Nat),(m=wE c E l∧(NC u c mx E (W.take l)∧l≤W.length∧wE c E l≤70000))∧st=⟨mkS 143 [(3,AV.ptr h.length 0 0),(4,AV.ptr (h.length+1) 0 0),(6,AV.ptr (h.length+2) 0 0),(7,AV.ptr (h.length+4) 1 0),(9,AV.own (h.length+6) g 0 l)],h++[⟨0,false,30,4,[.vec u.globals.length (g5 u.globals),.vec u.mutexes.length (c9 u.mutexes),.vec u.procs.length (g7 u.procs),.int .i64 u.main],0⟩,⟨0,false,34,3,[.vec c.insts.length (j0 c.insts),.vec c.calls.length (j8 c.calls),.vec c.roots.length (g5 c.roots)],0⟩,⟨0,false,104,3,[.nils,.nils,.nils],0⟩,⟨1,false,3,1,E.map j4,0⟩,⟨1,false,104,3,[.vec c.insts.length (s7 (w9 u c mx)),.vec c.insts.length (u3 (eS u c mx c.insts.length)),.own (h.length+3) 1 0 c.insts.length],0⟩,Ib,⟨g,false,3,1,W.map j4,0⟩]⟩) (.v ⟨E,(qQ c),c.roots.length,0,⟨rfl,⟨by rw[List.take_of_length_le (Nat.le_of_eq yJ)];exact NC.start wc hR,Nat.le_of_eq yJ.symm,by unfold wE;omega⟩⟩,rfl⟩) ?_;rintro m sl h' ⟨E,W,l,g,⟨hm,⟨hI,hl,hlb⟩⟩,hst⟩;obtain ⟨rfl,rfl⟩:=St.mk.inj hst;clear hst;have hlm:l≤wE c E l:=by unfold wE;omega
  have hEl:=hI.g.es.1;refine c0z ?_;refine u2z ?_ ?_
  ·intro e3 qe3;refine c125z ?_;obtain ⟨k1,rfl⟩:∃k1,l=k1+1:=⟨l-1,by omega⟩;refine .z ?_;refine .c6 [3,4,6,7,9,12] ?_;refine .z ?_;rw[L7 (by omega)]at hI;generalize W.getD k1 0=i at hI ⊢;obtain ⟨hi,hJ0⟩:=hI.pop;have w:=dE wc hi;have w1:=w.lo;have w2:=w.hi;have hsz:(c7 u (itI c i)).length≤1664:=n7 hu w;have hcll:(c.calls.getD i []).length=(c7 u (itI c i)).length:=wc.cll i hi;have hlI:u7 u c i=(c7 u (itI c i)).length:=rfl;have hTl:(fR u c mx (w9 u c mx) i).length=u7 u c i:=cJ;have hcall:∀j,j<u7 u c i→(eQ u c i j).op=2→0≤(c.calls.getD i []).getD j 0∧(c.calls.getD i []).getD j 0<c.insts.length:=fun j hp ho=>by have:=(wc.call i hi j hp).1 (.inl ho);exact ⟨this.1,this.2.1⟩
   refine .ss v9 (mkP 13 [0,1,0,4,0,28,60,124,255,511,1023,2047,0] []) ?_;refine c44z ?_;refine .block ?_;refine .u6 (fun m st=>∃(E1:List Nat) (W1:List Nat) (l1:Nat) (g1:Nat) (j:Nat),(m=u7 u c i-j∧(ND u c mx i (wE c E (W.take k1).length) E1 (W1.take l1) j∧l1≤W1.length∧j≤u7 u c i))∧st=⟨mkS 143 [(3,AV.ptr h.length 0 0),(4,AV.ptr (h.length+1) 0 0),(6,AV.ptr (h.length+2) 0 0),(7,AV.ptr (h.length+4) 1 0),(9,AV.own (h.length+6) g1 0 l1),(12,AV.int .i64 ((i:Nat):Int)),(89,AV.vec (c7 u (itI c i)).length (o6 (c7 u (itI c i)))),(90,AV.int .i64 (((c7 u (itI c i)).length:Nat):Int)),(91,AV.int .i64 ((j:Nat):Int))],h++[⟨0,false,30,4,[.vec u.globals.length (g5 u.globals),.vec u.mutexes.length (c9 u.mutexes),.vec u.procs.length (g7 u.procs),.int .i64 u.main],0⟩,⟨0,false,34,3,[.vec c.insts.length (j0 c.insts),.vec c.calls.length (j8 c.calls),.vec c.roots.length (g5 c.roots)],0⟩,⟨0,false,104,3,[.nils,.nils,.nils],0⟩,⟨1,false,3,1,E1.map j4,0⟩,⟨1,false,104,3,[.vec c.insts.length (s7 (w9 u c mx)),.vec c.insts.length (u3 (eS u c mx c.insts.length)),.own (h.length+3) 1 0 c.insts.length],0⟩,Ib,⟨g1,false,3,1,W1.map j4,0⟩]⟩) (.v ⟨E,W,k1,g,0,⟨rfl,⟨hJ0,by omega,by omega⟩⟩,rfl⟩) ?_;rintro m sl h' ⟨E1,W1,l1,g1,j,⟨hm,⟨hJ,hl1,hj⟩⟩,hst⟩;obtain ⟨rfl,rfl⟩:=St.mk.inj hst;clear hst;have hE1:E1.length=c.insts.length:=hJ.g.es.1;have hlm1:l1≤70000:=by have:=hJ.wt;rw[List.length_take,List.length_take,Nat.min_eq_left hl1,Nat.min_eq_left (show k1≤W.length from by omega)]at this;unfold wE at this hlb;omega
   refine c13z ?_;refine u2z ?_ ?_
   ·intro e4 qe4;refine c2z ?_;have hjp:j<u7 u c i:=by omega
    have hop0:(eQ u c i j).op=((c7 u (itI c i)).getD j g6).op:=rfl;refine c69z ?_;refine u2z ?_ ?_
    ·intro e5 qe5;refine c6z ?_;refine .c6 [3,4,6,7,9,12,89,90,91] ?_;refine .rz ?_;exact ⟨_,by omega,.v ⟨E1,W1,l1,g1,(j+1),⟨rfl,⟨hJ.skip (fun ho=>absurd ho (by rw[hop0];omega)),hl1,by omega⟩⟩,rfl⟩ (he:=t12) (hk:=t71)⟩
    intro e5 qe5;refine .sk ?_;refine .c6 [3,4,6,7,9,12,13,89,90,91] ?_;have hop:(eQ u c i j).op=2:=by rw[hop0];omega
    obtain ⟨hc1,hc2⟩:=hcall j hjp hop;obtain ⟨q,hqe⟩:∃q:Nat,(c.calls.getD i []).getD j 0=(q:Int):=⟨_,(Int.toNat_of_nonneg hc1).symm⟩;have hqc:cW c i j=q:=by unfold cW;rw[hqe];rfl
    rw[hqe]at hc1 hc2;have hTi:=(cP (u:=u) (c:=c) (m:=mx) (w9 u c mx) i).get hjp;have hq3:q<c.insts.length:=by omega
    refine .ss v9 (mkP 24 [0,1,0,7,15,0,63,127,0,256,0,1792,3840,0,16128,32512,0,65536,0,458752,983040,2096896,4194303,8388607] []) ?_;refine .k 8 [] ?_;refine .k 8 [] ?_;refine .k 5 [] ?_;refine .ca rfl rfl (tY _ _ (hTi.lt hk8) (hJ.g.es.lt _ (g8 (by have:=hJ.g.es.1;omega))) (by have:=hTi.1;omega)) ?_;refine .n [] ?_;refine .c6 [3,4,6,7,9,12,15,16,89,90,91,104] ?_;rw[hqe];have hfl:applyN ((fR u c mx (w9 u c mx) i).getD j []) (E1.getD i 0)<512:=Nat.lt_of_lt_of_le (jO hTi _) (oC hk8).2;have hEq:E1.getD q 0<512:=hJ.g.es.lt _ (g8 (by omega));have hne:bits .andNot .i64 ((applyN ((fR u c mx (w9 u c mx) i).getD j []) (E1.getD i 0):Nat):Int) ((E1.getD q 0:Nat):Int)=0↔∀b,(nY u c mx E1 i j).testBit b=true→bt E1 (cW c i j) b=true:=by rw[hqc];exact vZ hfl hEq
    refine .z ?_;refine u2z ?_ ?_
    ·intro e6 qe6;refine .c6 [3,4,6,7,9,12,15,16,89,90,91,104] ?_;refine c124z ?_;refine .c6 [3,4,6,7,9,12,15,89,90,91,104] ?_;refine c48z ?_;exact ⟨_,by omega,.v ⟨(E1.set q (E1.getD q 0|||nY u c mx E1 i j)),(sT W1 l1 q),(l1+1),(xD W1 g1 l1),(j+1),⟨rfl,⟨by rw[yF hl1,←hqc];exact hJ.grow hu wc hi hjp hop (fun hs=>absurd (hne.2 hs) (by assumption)),L6 hl1,by omega⟩⟩,rfl⟩ (he:=t12) (hk:=t71)⟩
    intro e6 qe6;refine c4z ?_;refine .c6 [3,4,6,7,9,12,89,90,91,104] ?_;refine .rz ?_;exact ⟨_,by omega,.v ⟨E1,W1,l1,g1,(j+1),⟨rfl,⟨hJ.skip (fun _=>hne.1 (by assumption)),hl1,by omega⟩⟩,rfl⟩ (he:=t12) (hk:=t71)⟩
   intro e4 qe4;refine .exit ?_;obtain rfl:j=u7 u c i:=by omega
   have hwt:=hJ.wt;rw[List.length_take,List.length_take,Nat.min_eq_left hl1,Nat.min_eq_left (show k1≤W.length from by omega)]at hwt;have hwk:wE c E k1<wE c E (k1+1):=by unfold wE;omega
   exact ⟨_,by omega,.v ⟨E1,W1,l1,g1,⟨rfl,⟨hJ.fin,hl1,by omega⟩⟩,rfl⟩ (he:=t12) (hk:=t71)⟩
  intro e3 qe3;refine .exit ?_;obtain rfl:l=0:=by omega
  have hE:E=(cN u c mx):=NC.done hu wc (by simpa using hI);rw[hE];refine c8.nU (γ:=h.length+3) (β:=h.length+4) (k:=2) (len:=c.insts.length) (by rw[p8];exact congrArg some (dA t159).symm) (by rw[List.length_map,hel,Nat.mul_one]) (by omega) (AX _) t30 (by omega) rfl ?_;simp only[List.append_assoc,List.cons_append,List.nil_append,p8,l7,List.set_cons_succ,List.set_cons_zero,List.length_append,List.length_cons,List.length_nil,Nat.reduceAdd,Nat.zero_add];generalize dY _ _ _ _ _=Eb;refine c211z ?_;exact .ret (.ex (hq:=by rfl))
end
theorem c_ent (hu:WU u)(wc:WC u c)(hmx:mx<u.mutexes.length):CB 28 [.agg [.vec u.globals.length (g5 u.globals),.vec u.mutexes.length (c9 u.mutexes),.vec u.procs.length (g7 u.procs),.int .i64 u.main],.agg [.vec c.insts.length (j0 c.insts),.vec c.calls.length (j8 c.calls),.vec c.roots.length (g5 c.roots)],.int .i64 ((mx:Nat):Int)] h (.vec c.insts.length ((cN u c mx).map j4)):=by
  refine .bz Tryz.f28 12 ?_;have hwl:=wc.len;have hk8:kM u mx≤8:=dN;have hk9:lY (u.mutexes.getD mx v8)≤8:=hk8;have hml:=hu.ml;have hrl:=wc.rl;have hrc:c.roots.length≤c.insts.length:=by have:=r9 wc.rs wc.rr;omega
  have hel:(cN u c mx).length=c.insts.length:=u5;have hsl:(w9 u c mx).length=c.insts.length:=p9.1;have hcl:=wc.cl;refine c91z ?_;refine .ca rfl rfl (c_solve hu wc hmx) ?_;refine .n ?_;exact .ret (.ex (hq:=by rfl))
attribute [local go_sem] overN AZ
section
attribute [local go_sem] wO C6
end
section
attribute [local go_sem] wO C6
end
end Go.Proofs.YtonbocmibeikmaaGreat
end
section
namespace Go.Proofs.YtonbocmibeikmaaGreat
open Go.Ab Go.Un
variable {h l:c5}{b0 b1:Blk}{g n:Nat}
theorem TS {b3:Blk}{T:List (List Nat)}{r:List Nat}{k:Nat}(hn:T.length=n)(hk:r.length=k)(hl:n<100000):j6 cfg 22 (h++(b0::b1::o9 22 1 g (s7 T)::b3::⟨0,false,22,1,[.vec k (r.map j4)],0⟩::l)) (.own (h.length+2) g 0 n) (.own (h.length+4) 0 0 1)=some (.own (h.length+2) (g+1) 0 (n+1),h++(b0::b1::o9 22 1 (g+1) (s7 (T++[r]))::b3::⟨0,false,22,1,[.vec k (r.map j4)],0⟩::l)):=by subst hn hk;rw[u9 (C:=cfg) (K:=1) (m:=1) (new:=[.vec r.length (r.map j4)]) (zs:=s7 T) t30 rfl (by omega) (by simp[s7]) rfl (by omega) t113 rfl (by decide) (by omega),l7,show s7 T++[AV.vec r.length (r.map j4)]=s7 (T++[r]) from by simp[s7,bL]];rfl
theorem TU {b2:Blk}{T:List Nat}{v:Nat}(hn:T.length=n)(hl:n<100000):j6 cfg 3 (h++(b0::b1::b2::o9 3 1 g (T.map j4)::⟨0,false,3,1,[.int .i64 ((v:Nat):Int)],0⟩::l)) (.own (h.length+3) g 0 n) (.own (h.length+4) 0 0 1)=some (.own (h.length+3) (g+1) 0 (n+1),h++(b0::b1::b2::o9 3 1 (g+1) ((T++[v]).map j4)::⟨0,false,3,1,[.int .i64 ((v:Nat):Int)],0⟩::l)):=by subst hn;rw[u9 (C:=cfg) (K:=1) (m:=1) (new:=[.int .i64 ((v:Nat):Int)]) (zs:=T.map j4) t30 rfl (by omega) (by simp) rfl (by omega) t113 rfl (by decide) (by omega),l7,show T.map j4++[AV.int .i64 ((v:Nat):Int)]=(T++[v]).map j4 from by simp[j4]];rfl
theorem TV {T:List Nat}{v:Nat}(hn:T.length=n)(hl:n<100000):j6 cfg 3 (h++(b0::b1::o9 3 1 g (T.map j4)::⟨0,false,3,1,[.int .i64 ((v:Nat):Int)],0⟩::l)) (.own (h.length+2) g 0 n) (.own (h.length+3) 0 0 1)=some (.own (h.length+2) (g+1) 0 (n+1),h++(b0::b1::o9 3 1 (g+1) ((T++[v]).map j4)::⟨0,false,3,1,[.int .i64 ((v:Nat):Int)],0⟩::l)):=by subst hn;rw[u9 (C:=cfg) (K:=1) (m:=1) (new:=[.int .i64 ((v:Nat):Int)]) (zs:=T.map j4) t30 rfl (by omega) (by simp) rfl (by omega) t113 rfl (by decide) (by omega),l7,show T.map j4++[AV.int .i64 ((v:Nat):Int)]=(T++[v]).map j4 from by simp[j4]];rfl
attribute [local go_sem] rd bL u0 w8 r8 n6 l6 bB s3 Int.natCast_nonneg Int.natCast_inj bK fF eH fG iW kA qO oE dF oF xC gJ mP mQ kB List.length_set List.length_replicate Int.toNat_natCast_add_one gY wrap64 rU List.length_map fK fJ jP lL lM oV dF iX bM nN nO yK kN kL u5 iY nP nQ s3 nR rW orN oB
section
attribute [local go_sem] LH
theorem LK {u:Un}{c:Clo}(hu:WU u)(wc:WC u c){mx:Nat}(hmx:mx<u.mutexes.length):CB 32 [.agg [.vec u.globals.length (g5 u.globals),.vec u.mutexes.length (c9 u.mutexes),.vec u.procs.length (g7 u.procs),.int .i64 u.main],.agg [.vec c.insts.length (j0 c.insts),.vec c.calls.length (j8 c.calls),.vec c.roots.length (g5 c.roots)],.int .i64 ((mx:Nat):Int)] h (.vec c.insts.length ((cN u c mx).map j4)):=by
  refine .bz Tryz.f32 123 ?_;have hwl:=wc.len;have hk8:kM u mx≤8:=dN;have hk9:lY (u.mutexes.getD mx v8)≤8:=hk8;have hml:=hu.ml;have hrl:=wc.rl;have hrc:c.roots.length≤c.insts.length:=by have:=r9 wc.rs wc.rr;omega
  have hel:(cN u c mx).length=c.insts.length:=u5;have hsl:(w9 u c mx).length=c.insts.length:=p9.1;have hcl:=wc.cl;refine c180z ?_;refine .n ?_;refine c13z ?_;refine .c6 [2,3,4,7,8] ?_;refine c19z ?_;refine .u6 (fun m st=>∃(j:Nat) (E:List Nat),(m=c.roots.length-j∧(qP u c mx E j∧j≤c.roots.length))∧st=⟨mkS 123 [(2,AV.int .i64 ((mx:Nat):Int)),(3,AV.ptr h.length 0 0),(4,AV.ptr (h.length+1) 0 0),(7,AV.vec c.insts.length (s7 (w9 u c mx))),(8,AV.own (h.length+2) 0 0 c.insts.length),(9,AV.int .i64 ((j:Nat):Int))],h++[⟨0,false,30,4,[.vec u.globals.length (g5 u.globals),.vec u.mutexes.length (c9 u.mutexes),.vec u.procs.length (g7 u.procs),.int .i64 u.main],0⟩,⟨0,false,34,3,[.vec c.insts.length (j0 c.insts),.vec c.calls.length (j8 c.calls),.vec c.roots.length (g5 c.roots)],0⟩,⟨0,false,3,1,E.map j4,0⟩]⟩) (.v ⟨0,(List.replicate c.insts.length 0),⟨rfl,⟨qP.start,by omega⟩⟩,rfl⟩) ?_;rintro m sl h' ⟨j,E,⟨hm,⟨hR,hj⟩⟩,hst⟩;obtain ⟨rfl,rfl⟩:=St.mk.inj hst;clear hst;have hEl:=hR.es.1;refine c0z ?_;refine u2z ?_ ?_
  ·intro e1 qe1;refine c2z ?_;have hr:=wc.rr _ (g8 (d:=0) (show j<c.roots.length by omega));refine c1z ?_;refine .c6 [2,3,4,7,8,9] ?_;refine .rz ?_;exact ⟨_,by omega,.v ⟨(j+1),(E.set (c.roots.getD j 0).toNat 1),⟨rfl,⟨hR.next hu wc (by omega),by omega⟩⟩,rfl⟩ (he:=t12) (hk:=t176)⟩
  intro e1 qe1;refine .exit ?_;obtain rfl:j=c.roots.length:=by omega
  have hG:=hR.all wc;change c8 ..;refine c18z ?_;refine c8.rC 10 rfl ?_;refine .u6 (fun m st=>∃(i:Nat),(m=c.insts.length-i∧(i≤c.insts.length))∧st=⟨mkS 123 [(2,AV.int .i64 ((mx:Nat):Int)),(3,AV.ptr h.length 0 0),(4,AV.ptr (h.length+1) 0 0),(7,AV.vec c.insts.length (s7 (w9 u c mx))),(8,AV.own (h.length+2) 0 0 c.insts.length),(10,AV.own (h.length+3) i 0 i),(11,AV.int .i64 ((i:Nat):Int))],h++[⟨0,false,30,4,[.vec u.globals.length (g5 u.globals),.vec u.mutexes.length (c9 u.mutexes),.vec u.procs.length (g7 u.procs),.int .i64 u.main],0⟩,⟨0,false,34,3,[.vec c.insts.length (j0 c.insts),.vec c.calls.length (j8 c.calls),.vec c.roots.length (g5 c.roots)],0⟩,⟨0,false,3,1,E.map j4,0⟩,o9 32 1 i (u3 (eS u c mx i))]⟩) (.v ⟨0,⟨rfl,by omega⟩,rfl⟩ (hs:=t11)) ?_ (he:=t73);rintro m sl h' ⟨i,⟨hm,hi0⟩,hst⟩;obtain ⟨rfl,rfl⟩:=St.mk.inj hst;clear hst;have hinl:(eS u c mx i).length=i:=bM;refine c0z ?_;refine u2z ?_ ?_
  ·intro e2 qe2;refine c2z ?_;have hi:i<c.insts.length:=by omega
   have hTi0:(fR u c mx (w9 u c mx) i).length=u7 u c i:=cJ;refine .r ?_;refine c134z ?_;refine c28z ?_;refine .c6 [2,3,4,7,8,10,11] ?_;refine .rz ?_;exact ⟨_,by omega,.v ⟨(i+1),⟨rfl,by omega⟩,rfl⟩ (he:=t70) (hk:=t140) (hs:=t11)⟩
  intro e2 qe2;refine .exit ?_;obtain rfl:i=c.insts.length:=by omega
  refine c8.pS (t:=10) (γ:=h.length+3) (len:=c.insts.length) t30 t116 (by omega) (xF _) (iS (by decide) rfl) ?_;rw[aW];simp only[l7,List.set_cons_succ,List.set_cons_zero];generalize dY _ _ _ _ _=Ib;change c8 ..;refine .seq ?_;refine .c6 [3,4,8,10] ?_;refine c19z ?_;refine .u6 (fun m st=>∃(E1:List Nat) (ag:Bool),(m=Qw c E1 ag∧(BD u c mx E1∧(ag=false→E1=(cN u c mx))))∧st=⟨mkS 123 [(3,AV.ptr h.length 0 0),(4,AV.ptr (h.length+1) 0 0),(8,AV.own (h.length+2) 0 0 c.insts.length),(10,AV.vec c.insts.length (u3 (eS u c mx c.insts.length))),(12,AV.bool ag)],h++[⟨0,false,30,4,[.vec u.globals.length (g5 u.globals),.vec u.mutexes.length (c9 u.mutexes),.vec u.procs.length (g7 u.procs),.int .i64 u.main],0⟩,⟨0,false,34,3,[.vec c.insts.length (j0 c.insts),.vec c.calls.length (j8 c.calls),.vec c.roots.length (g5 c.roots)],0⟩,⟨0,false,3,1,E1.map j4,0⟩,Ib]⟩) (.v ⟨E,true,⟨rfl,⟨hG,fun hf=>by cases hf⟩⟩,rfl⟩) ?_;rintro m sl h' ⟨E1,ag,⟨hm,⟨hG1,hdone⟩⟩,hst⟩;obtain ⟨rfl,rfl⟩:=St.mk.inj hst;clear hst;refine c0z ?_;refine u2z ?_ ?_
  ·intro e3 qe3;refine c125z ?_;have hag:ag=true:=by assumption
   subst hag;refine .z ?_;refine c19z ?_;refine .u6 (fun m st=>∃(E2:List Nat) (a2:Bool) (i:Nat),(m=c.insts.length-i∧(yH u c mx E1 E2 a2 i 0∧i≤c.insts.length))∧st=⟨mkS 123 [(3,AV.ptr h.length 0 0),(4,AV.ptr (h.length+1) 0 0),(8,AV.own (h.length+2) 0 0 c.insts.length),(10,AV.vec c.insts.length (u3 (eS u c mx c.insts.length))),(12,AV.bool a2),(13,AV.int .i64 ((i:Nat):Int))],h++[⟨0,false,30,4,[.vec u.globals.length (g5 u.globals),.vec u.mutexes.length (c9 u.mutexes),.vec u.procs.length (g7 u.procs),.int .i64 u.main],0⟩,⟨0,false,34,3,[.vec c.insts.length (j0 c.insts),.vec c.calls.length (j8 c.calls),.vec c.roots.length (g5 c.roots)],0⟩,⟨0,false,3,1,E2.map j4,0⟩,Ib]⟩) (.v ⟨E1,false,0,⟨rfl,⟨yH.start hG1,by omega⟩⟩,rfl⟩) ?_;rintro m sl h' ⟨E2,a2,i,⟨hm,⟨hJ,hi0⟩⟩,hst⟩;obtain ⟨rfl,rfl⟩:=St.mk.inj hst;clear hst;refine c0z ?_;refine u2z ?_ ?_
   ·intro e4 qe4;refine c2z ?_;have hi:i<c.insts.length:=by omega
    have w:=dE wc hi;have w1:=w.lo;have w2:=w.hi;have hsz:(c7 u (itI c i)).length≤1664:=n7 hu w;have hcll:(c.calls.getD i []).length=(c7 u (itI c i)).length:=wc.cll i hi;have hlI:u7 u c i=(c7 u (itI c i)).length:=rfl;have hTl:(fR u c mx (w9 u c mx) i).length=u7 u c i:=cJ;have hcall:∀j,j<u7 u c i→(eQ u c i j).op=2→0≤(c.calls.getD i []).getD j 0∧(c.calls.getD i []).getD j 0<c.insts.length:=fun j hp ho=>by have:=(wc.call i hi j hp).1 (.inl ho);exact ⟨this.1,this.2.1⟩
    refine c19z ?_;refine .u6 (fun m st=>∃(E3:List Nat) (a3:Bool) (j:Nat),(m=u7 u c i-j∧(yH u c mx E1 E3 a3 i j∧j≤u7 u c i))∧st=⟨mkS 123 [(3,AV.ptr h.length 0 0),(4,AV.ptr (h.length+1) 0 0),(8,AV.own (h.length+2) 0 0 c.insts.length),(10,AV.vec c.insts.length (u3 (eS u c mx c.insts.length))),(12,AV.bool a3),(13,AV.int .i64 ((i:Nat):Int)),(14,AV.int .i64 ((j:Nat):Int))],h++[⟨0,false,30,4,[.vec u.globals.length (g5 u.globals),.vec u.mutexes.length (c9 u.mutexes),.vec u.procs.length (g7 u.procs),.int .i64 u.main],0⟩,⟨0,false,34,3,[.vec c.insts.length (j0 c.insts),.vec c.calls.length (j8 c.calls),.vec c.roots.length (g5 c.roots)],0⟩,⟨0,false,3,1,E3.map j4,0⟩,Ib]⟩) (.v ⟨E2,a2,0,⟨rfl,⟨hJ,by omega⟩⟩,rfl⟩) ?_;rintro m sl h' ⟨E3,a3,j,⟨hm,⟨hJ1,hj0⟩⟩,hst⟩;obtain ⟨rfl,rfl⟩:=St.mk.inj hst;clear hst;have hE3:E3.length=c.insts.length:=hJ1.g.es.1;refine c0z ?_;refine u2z ?_ ?_
    ·intro e5 qe5;refine c2z ?_;refine .seq ?_;have hjp:j<u7 u c i:=by omega
     have hop0:(eQ u c i j).op=((c7 u (itI c i)).getD j g6).op:=rfl;refine c66z ?_;refine u2z ?_ ?_
     ·intro e6 qe6;refine c6z ?_;refine c104z ?_;exact ⟨_,by omega,.v ⟨E3,a3,(j+1),⟨rfl,⟨hJ1.skip (fun ho=>absurd ho (by rw[hop0];omega)),by omega⟩⟩,rfl⟩ (he:=t12) (hk:=t42)⟩
     intro e6 qe6;refine .sk ?_;refine .c6 [3,4,8,10,12,13,14] ?_;have hop:(eQ u c i j).op=2:=by rw[hop0];omega
     obtain ⟨hc1,hc2⟩:=hcall j hjp hop;obtain ⟨q,hqe⟩:∃q:Nat,(c.calls.getD i []).getD j 0=(q:Int):=⟨_,(Int.toNat_of_nonneg hc1).symm⟩;have hqc:cW c i j=q:=by unfold cW;rw[hqe];rfl
     have hTi:=(cP (u:=u) (c:=c) (m:=mx) (w9 u c mx) i).get hjp;have hc3:=hc1;have hc4:=hc2;rw[hqe]at hc3 hc4;have hq3:q<c.insts.length:=by omega
     refine c124z ?_;refine .c6 [3,4,8,10,12,13,14,15] ?_;rw[hqe];have hfl:applyN ((fR u c mx (w9 u c mx) i).getD j []) (E3.getD i 0)<512:=Nat.lt_of_lt_of_le (jO hTi _) (oC hk8).2;have hEq:E3.getD q 0<512:=hJ1.g.es.lt _ (g8 (by omega));have hne:(E3.getD q 0|||applyN ((fR u c mx (w9 u c mx) i).getD j []) (E3.getD i 0))=E3.getD q 0↔∀b,(nY u c mx E3 i j).testBit b=true→bt E3 (cW c i j) b=true:=by rw[hqc];exact LC
     refine .ss v9 (mkP 18 [0,0,3,7,0,0,48,112,0,496,1008,0,0,6144,14336,32752,65535,131071] []) ?_;refine .k 8 [] ?_;refine .k 7 [] ?_;refine .ca rfl rfl (AY _ _ (hTi.lt hk8) (hJ1.g.es.lt _ (g8 (by omega))) (by have:=hTi.1;omega)) ?_;refine .n [] ?_;refine .c6 [3,4,8,10,12,13,14,15,16] ?_;refine .z ?_;refine u2z ?_ ?_
     ·intro e7 qe7;refine c1z ?_;refine c104z ?_;exact ⟨_,by omega,.v ⟨(E3.set q (E3.getD q 0|||nY u c mx E3 i j)),true,(j+1),⟨rfl,⟨t177,by omega⟩⟩,rfl⟩ (he:=t12) (hk:=t42)⟩
     intro e7 qe7;refine c4z ?_;refine c104z ?_;exact ⟨_,by omega,.v ⟨E3,a3,(j+1),⟨rfl,⟨hJ1.skip (fun _=>hne.1 (by omega)),by omega⟩⟩,rfl⟩ (he:=t12) (hk:=t42)⟩
    intro e5 qe5;refine .exit ?_;obtain rfl:j=u7 u c i:=by omega
    change c8 ..;refine .c6 [3,4,8,10,12,13] ?_;refine .rz ?_;exact ⟨_,by omega,.v ⟨E3,a3,(i+1),⟨rfl,⟨hJ1.fin,by omega⟩⟩,rfl⟩ (he:=t12) (hk:=t42)⟩
   intro e4 qe4;refine .exit ?_;obtain rfl:i=c.insts.length:=by omega
   have hlt:=LD hJ;exact ⟨_,by omega,.v ⟨E2,a2,⟨rfl,⟨hJ.g,fun hf=>by subst hf;exact hJ.done hu wc⟩⟩,rfl⟩ (he:=t12) (hk:=t42)⟩
  intro e3 qe3;refine c63z ?_;exact ⟨_,_,rfl,frz_N t30 (by omega) hG1.es.1,by (rw[hdone (by assumption)])⟩
end
section
attribute [local go_sem] TV
end
section
attribute [local go_sem] TS TU
end
end Go.Proofs.YtonbocmibeikmaaGreat
end
section
namespace Go.Proofs.YtonbocmibeikmaaGreat
open Go.Ab Go.Un
variable {h:c5}{L:List (List (List Nat))}{T:List (List Nat)}{n:Nat}
theorem U0 {b0 b1:Blk}{l:c5}{m g:Nat}(hn:L.length=n)(hx:T.length=m)(hl:n<100000):j6 cfg 32 (h++(b0::b1::o9 32 1 g (u3 L)::⟨0,false,32,1,[.vec m (s7 T)],0⟩::l)) (.own (h.length+2) g 0 n) (.own (h.length+3) 0 0 1)=some (.own (h.length+2) (g+1) 0 (n+1),h++(b0::b1::o9 32 1 (g+1) (u3 (L++[T]))::⟨0,false,32,1,[.vec m (s7 T)],0⟩::l)):=by subst hn hx;rw[u9 (C:=cfg) (K:=1) (m:=1) (new:=[.vec T.length (s7 T)]) (zs:=u3 L) t30 rfl (by omega) (by simp[u3]) rfl (by omega) t113 rfl (by decide) (by omega),←rV,l7];rfl
theorem TW {a:List (List Nat)}(ha:a.length=n)(hl:n<1000000)(hr:∀r∈a,r.length<100000):CB 33 [.vec n (s7 a),.vec n (s7 a)] h (.bool true):=by have:=BC (h:=h) ha ha hl hr;rw[decide_eq_true rfl]at this;exact this
variable {i:Nat}
theorem TX (h:i<L.length):List.take 1 (List.drop i (u3 L))=[.vec (L.getD i []).length (s7 (L.getD i []))]:=LG h
theorem BE (h:0<T.length):List.take 1 (s7 T)=[.vec (T.getD 0 []).length ((T.getD 0 []).map j4)]:=qO (i:=0) h
theorem full_no {x k:Nat}(hk:k≤8)(hx:x<2^(k+1)):bits .andNot .i64 ((x:Nat):Int) (((2^(k+1)-1:Nat)):Int)=0:=by have h5:=oC hk;refine (vZ (by omega) (by omega)).2 fun j hj=>?_;rw[Nat.testBit_two_pow_sub_one];exact decide_eq_true (yB hx hj)
theorem LL {a b:List Nat}(hla:a.length≤9)(hab:b.length=a.length)(hw:lJ a b):CB 117 [bL a,bL b] h (.bool true):=by have:=L5 (h:=h) a b hla hab;rw[decide_eq_true hw]at this;exact this
def NF:List Int→Int→Int→Int
  | [],_,_ => -1
  | x::l,v,k=>if x=v then k else NF l v (k+1)
theorem WY {v:Int}:∀{X:List Int} {i:Nat} {k:Int},(∀d,d<i→X.getD d 0≠v)→i<X.length→X.getD i 0=v→NF X v k=k+i
  | [],i,k,_,hi,_=>by simp at hi
  | x::l,0,k,_,_,he=>by
    have:x=v:=by simpa using he
    simp[NF,this]
  | x::l,i+1,k,hn,hi,he=>by
    have h0:x≠v:=by simpa using hn 0 (by omega)
    rw[NF,if_neg h0,WY (X:=l) (i:=i) (fun d hd=>by simpa using hn (d+1) (by omega)) (by simpa using hi) (by simpa using he)];omega
theorem WZ {v:Int}:∀{X:List Int} {k:Int},(∀d,d<X.length→X.getD d 0≠v)→NF X v k = -1
  | [],k,_=>rfl
  | x::l,k,hn=>by
    have h0:x≠v:=by simpa using hn 0 (by simp)
    rw[NF,if_neg h0];exact WZ fun d hd=>by simpa using hn (d+1) (by simpa using hd)
theorem LM {v:Int}:∀{X:List Int} {k:Int},0≤k→(0≤NF X v k↔v∈X)
  | [],k,_=>by simp[NF]
  | x::l,k,hk=>by
    rw[NF];by_cases e:x=v
    · simp[e,hk]
    · rw[if_neg e,LM (X:=l) (by omega),List.mem_cons]
      exact ⟨.inr,fun h=>h.elim (fun h=>absurd h.symm e) id⟩
section
variable {u:Un}{c:Clo}{mx:Nat}
theorem ent_odd (hu:WU u)(wc:WC u c)(hr:(i:Int)∈c.roots):(cN u c mx).getD i 0%2=1:=by have h1:bt (cN u c mx) i 0=true:=(hC hu wc).2 (.root hr);unfold bt at h1;rw[Nat.testBit_zero]at h1;exact of_decide_eq_true h1
theorem inn_ex (hu:WU u)(wc:WC u c)(hi:i<c.insts.length):S8 u c mx i (fR u c mx (w9 u c mx) i) (u7 u c i)=(w9 u c mx).getD i []:=T5 hu wc hi
theorem inn_id (hu:WU u)(wc:WC u c)(hi:i<c.insts.length):lJ (dhN (kM u mx) 0) ((fR u c mx (w9 u c mx) i).getD 0 []):=by
  have p:=KH (m:=mx) hu wc p9 hi;exact (C1 dN (Cw _ _) ((cP _ _).get p.pos)).2 fun d e h=>by
    obtain ⟨h1,h2,h3⟩:=SQ.1 h;obtain rfl:d=e:=by omega
    exact (gI p p.pos).2 (.start h1)
theorem BF (hu:WU u)(wc:WC u c){pc:Nat}(hi:i<c.insts.length)(hp:pc<u7 u c i){q:Int}(hq:q∈nxI u c i pc):lJ (p7 ((fR u c mx (w9 u c mx) i).getD pc []) (stS u c mx (w9 u c mx) i pc)) ((fR u c mx (w9 u c mx) i).getD q.toNat []):=by
  have p:=KH (m:=mx) hu wc p9 hi;have hq2:=p.nx pc hp q hq;have hT:=cP (u:=u) (c:=c) (m:=mx) (w9 u c mx) i;exact (C1 dN (nL (hT.get hp) (p.st pc hp)) (hT.get (by omega))).2 fun d e h=>by obtain ⟨f,h1,h2⟩:=(iM (hT.get hp) (p.st pc hp)).1 h;exact (gI p (by omega)).2 (.step ((gI p hp).1 h1) h2 hq)
end
attribute [local go_sem] rd bL u0 w8 r8 n6 l6 bB s3 Int.natCast_nonneg Int.natCast_inj bK fF eH fG iW kA qO oE dF oF xC gJ mP mQ kB List.length_set List.length_replicate Int.toNat_natCast_add_one gY wrap64 rU List.length_map fK fJ jP lL lM oV dF iX bM nN nO yK kN kL u5 iY nP nQ s3 nR rW orN oB beq_self_eq_true bne_self_eq_false KQ BE
section
attribute [local go_sem] U0
theorem c_tab {u:Un}{c:Clo}(hu:WU u)(wc:WC u c){mx:Nat}(hmx:mx<u.mutexes.length):CB 37 [.agg [.vec u.globals.length (g5 u.globals),.vec u.mutexes.length (c9 u.mutexes),.vec u.procs.length (g7 u.procs),.int .i64 u.main],.agg [.vec c.insts.length (j0 c.insts),.vec c.calls.length (j8 c.calls),.vec c.roots.length (g5 c.roots)],.int .i64 ((mx:Nat):Int)] h (.tup [.vec c.insts.length (u3 (eS u c mx c.insts.length)),.vec c.insts.length ((cN u c mx).map j4)]):=by
  refine .bz Tryz.f37 36 ?_;have hwl:=wc.len;have hk8:kM u mx≤8:=dN;have hk9:lY (u.mutexes.getD mx v8)≤8:=hk8;have hml:=hu.ml;have hrl:=wc.rl;have hrc:c.roots.length≤c.insts.length:=by have:=r9 wc.rs wc.rr;omega
  have hel:(cN u c mx).length=c.insts.length:=u5;have hsl:(w9 u c mx).length=c.insts.length:=p9.1;have hcl:=wc.cl;refine c91z ?_;refine .ca rfl rfl (c_of hu wc hmx) ?_;refine .n ?_;refine .c6 [2,3,4,8] ?_;refine c18z ?_;refine c8.rC 9 rfl ?_;refine .u6 (fun m st=>∃(i:Nat),(m=c.insts.length-i∧(i≤c.insts.length))∧st=⟨mkS 36 [(2,AV.int .i64 ((mx:Nat):Int)),(3,AV.ptr h.length 0 0),(4,AV.ptr (h.length+1) 0 0),(8,AV.vec c.insts.length (s7 (w9 u c mx))),(9,AV.own (h.length+2) i 0 i),(17,AV.int .i64 ((c.insts.length:Nat):Int)),(18,AV.int .i64 ((i:Nat):Int))],h++[⟨0,false,30,4,[.vec u.globals.length (g5 u.globals),.vec u.mutexes.length (c9 u.mutexes),.vec u.procs.length (g7 u.procs),.int .i64 u.main],0⟩,⟨0,false,34,3,[.vec c.insts.length (j0 c.insts),.vec c.calls.length (j8 c.calls),.vec c.roots.length (g5 c.roots)],0⟩,o9 32 1 i (u3 (eS u c mx i))]⟩) (.v ⟨0,⟨rfl,by omega⟩,rfl⟩ (hs:=t11)) ?_ (he:=t73);rintro m sl h' ⟨i,⟨hm,hi0⟩,hst⟩;obtain ⟨rfl,rfl⟩:=St.mk.inj hst;clear hst;have hinl:(eS u c mx i).length=i:=bM;refine c13z ?_;refine u2z ?_ ?_
  ·intro e1 qe1;refine c58z ?_;have hi:i<c.insts.length:=by omega
   have hTi0:(fR u c mx (w9 u c mx) i).length=u7 u c i:=cJ;refine .r ?_;refine .e 6 ?_;refine .ca rfl rfl (L9 hu wc hmx p9 hi (fun l0=>yG hu wc hmx p9 hi _)) ?_;refine c28z ?_;refine .c6 [2,3,4,8,9,17,18] ?_;refine .rz ?_;exact ⟨_,by omega,.v ⟨(i+1),⟨rfl,by omega⟩,rfl⟩ (he:=t70) (hk:=t98) (hs:=t11)⟩
  intro e1 qe1;refine .exit ?_;obtain rfl:i=c.insts.length:=by omega
  refine c8.pS (t:=9) (γ:=h.length+2) (len:=c.insts.length) t30 t116 (by omega) (xF _) (iS (by decide) rfl) ?_;rw[aW];simp only[l7,List.set_cons_succ,List.set_cons_zero];generalize dY _ _ _ _ _=Ib;change c8 ..;refine c25z ?_;refine .ca rfl rfl (c_ent hu wc hmx) ?_;refine .n ?_;exact .ret (.ex (hq:=by rfl))
end
section
attribute [local go_sem] U0
theorem c_tabR {u:Un}{c:Clo}(hu:WU u)(wc:WC u c){mx:Nat}(hmx:mx<u.mutexes.length):CB 38 [.agg [.vec u.globals.length (g5 u.globals),.vec u.mutexes.length (c9 u.mutexes),.vec u.procs.length (g7 u.procs),.int .i64 u.main],.agg [.vec c.insts.length (j0 c.insts),.vec c.calls.length (j8 c.calls),.vec c.roots.length (g5 c.roots)],.int .i64 ((mx:Nat):Int)] h (.tup [.vec c.insts.length (u3 (eS u c mx c.insts.length)),.vec c.insts.length ((cN u c mx).map j4)]):=by
  refine .bz Tryz.f38 36 ?_;have hwl:=wc.len;have hk8:kM u mx≤8:=dN;have hk9:lY (u.mutexes.getD mx v8)≤8:=hk8;have hml:=hu.ml;have hrl:=wc.rl;have hrc:c.roots.length≤c.insts.length:=by have:=r9 wc.rs wc.rr;omega
  have hel:(cN u c mx).length=c.insts.length:=u5;have hsl:(w9 u c mx).length=c.insts.length:=p9.1;have hcl:=wc.cl;refine c180z ?_;refine .n ?_;refine .c6 [2,3,4,8] ?_;refine c18z ?_;refine c8.rC 9 rfl ?_;refine .u6 (fun m st=>∃(i:Nat),(m=c.insts.length-i∧(i≤c.insts.length))∧st=⟨mkS 36 [(2,AV.int .i64 ((mx:Nat):Int)),(3,AV.ptr h.length 0 0),(4,AV.ptr (h.length+1) 0 0),(8,AV.vec c.insts.length (s7 (w9 u c mx))),(9,AV.own (h.length+2) i 0 i),(10,AV.int .i64 ((i:Nat):Int))],h++[⟨0,false,30,4,[.vec u.globals.length (g5 u.globals),.vec u.mutexes.length (c9 u.mutexes),.vec u.procs.length (g7 u.procs),.int .i64 u.main],0⟩,⟨0,false,34,3,[.vec c.insts.length (j0 c.insts),.vec c.calls.length (j8 c.calls),.vec c.roots.length (g5 c.roots)],0⟩,o9 32 1 i (u3 (eS u c mx i))]⟩) (.v ⟨0,⟨rfl,by omega⟩,rfl⟩ (hs:=t11)) ?_ (he:=t73);rintro m sl h' ⟨i,⟨hm,hi0⟩,hst⟩;obtain ⟨rfl,rfl⟩:=St.mk.inj hst;clear hst;have hinl:(eS u c mx i).length=i:=bM;refine c0z ?_;refine u2z ?_ ?_
  ·intro e1 qe1;refine c2z ?_;have hi:i<c.insts.length:=by omega
   have hTi0:(fR u c mx (w9 u c mx) i).length=u7 u c i:=cJ;refine .r ?_;refine c134z ?_;refine c28z ?_;refine .c6 [2,3,4,8,9,10] ?_;refine .rz ?_;exact ⟨_,by omega,.v ⟨(i+1),⟨rfl,by omega⟩,rfl⟩ (he:=t70) (hk:=t98) (hs:=t11)⟩
  intro e1 qe1;refine .exit ?_;obtain rfl:i=c.insts.length:=by omega
  refine c8.pS (t:=9) (γ:=h.length+2) (len:=c.insts.length) t30 t116 (by omega) (xF _) (iS (by decide) rfl) ?_;rw[aW];simp only[l7,List.set_cons_succ,List.set_cons_zero];generalize dY _ _ _ _ _=Ib;change c8 ..;refine c25z ?_;refine .ca rfl rfl (LK hu wc hmx) ?_;refine .n ?_;exact .ret (.ex (hq:=by rfl))
end
section
attribute [local go_sem] TX
theorem TY (hL:L.length=n)(hn:n<100000)(hr:∀T∈L,T.length<1000000∧∀r∈T,r.length<100000):CB 40 [.vec n (u3 L),.vec n (u3 L)] h (.bool true):=by
  refine .bz Tryz.f40 27 ?_;refine c69z ?_;refine c17z ?_;refine c5z ?_;refine .bX (fun m st=>∃(i:Nat),(m=n-i∧(i≤n))∧st=⟨mkS 27 [(0,AV.vec n (u3 L)),(1,AV.vec n (u3 L)),(5,AV.int .i64 ((i:Nat):Int))],h⟩) _ (.v ⟨0,⟨rfl,by omega⟩,rfl⟩) ?_;rintro m sl h' ⟨i,⟨hm,hi0⟩,hst⟩;obtain ⟨rfl,rfl⟩:=St.mk.inj hst;refine c0z ?_;refine u2z ?_ ?_
  ·intro e1 qe1;refine c2z ?_;obtain ⟨hT1,hT2⟩:=hr (L.getD i []) (g8 (by omega));refine .ss v9 (mkP 10 [0,0,3,7,0,0,48,112,255,511] []) ?_;refine .k 8 [] ?_;refine .ca rfl rfl (TW rfl (by omega) hT2) ?_;refine .n [] ?_;refine c34z ?_;refine c163z ?_;exact ⟨_,by omega,.v ⟨(i+1),⟨rfl,by omega⟩,rfl⟩⟩
  intro e1 qe1;refine c6z ?_;refine .z ?_;exact .ret (.ex (hq:=by rfl))
end
theorem LN {u:Un}{c:Clo}(hu:WU u)(wc:WC u c){mx:Nat}(hmx:mx<u.mutexes.length)(hi:i<c.insts.length):CB 113 [.agg [.vec u.globals.length (g5 u.globals),.vec u.mutexes.length (c9 u.mutexes),.vec u.procs.length (g7 u.procs),.int .i64 u.main,.vec c.insts.length (j0 c.insts),.vec c.calls.length (j8 c.calls),.vec c.roots.length (g5 c.roots),.int .i64 ((mx:Nat):Int),.vec c.insts.length (u3 (eS u c mx c.insts.length)),.vec c.insts.length ((cN u c mx).map j4)],.int .i64 ((i:Nat):Int)] h (.vec (c7 u (itI c i)).length (o6 (c7 u (itI c i)))):=by
  refine .bz Tryz.f113 18 ?_;have hwl:=wc.len;have hk8:kM u mx≤8:=dN;have hk9:lY (u.mutexes.getD mx v8)≤8:=hk8;have hml:=hu.ml;have hrl:=wc.rl;have hrc:c.roots.length≤c.insts.length:=by have:=r9 wc.rs wc.rr;omega
  have hel:(cN u c mx).length=c.insts.length:=u5;have hsl:(w9 u c mx).length=c.insts.length:=p9.1;have hcl:=wc.cl;have w:=dE wc hi;have w1:=w.lo;have w2:=w.hi;have hsz:(c7 u (itI c i)).length≤1664:=n7 hu w;have hcll:(c.calls.getD i []).length=(c7 u (itI c i)).length:=wc.cll i hi;have hlI:u7 u c i=(c7 u (itI c i)).length:=rfl;have hTl:(fR u c mx (w9 u c mx) i).length=u7 u c i:=cJ;have hlp:1≤(c7 u (itI c i)).length:=(eL hu w).1;refine .z ?_;refine .ss v9 (mkP 14 [0,1,3,0,8,24,0,120,248,504,1023,2047,4095,8191] []) ?_;refine c44z ?_;exact .ret (.ex (hq:=by rfl))
theorem c_xexit {u:Un}{c:Clo}(hu:WU u)(wc:WC u c){mx:Nat}(hmx:mx<u.mutexes.length)(hi:i<c.insts.length):CB 150 [.agg [.vec u.globals.length (g5 u.globals),.vec u.mutexes.length (c9 u.mutexes),.vec u.procs.length (g7 u.procs),.int .i64 u.main,.vec c.insts.length (j0 c.insts),.vec c.calls.length (j8 c.calls),.vec c.roots.length (g5 c.roots),.int .i64 ((mx:Nat):Int),.vec c.insts.length (u3 (eS u c mx c.insts.length)),.vec c.insts.length ((cN u c mx).map j4)],.int .i64 ((i:Nat):Int)] h (bL ((w9 u c mx).getD i [])):=by
  refine .bz Tryz.f150 43 ?_;have hwl:=wc.len;have hk8:kM u mx≤8:=dN;have hk9:lY (u.mutexes.getD mx v8)≤8:=hk8;have hml:=hu.ml;have hrl:=wc.rl;have hrc:c.roots.length≤c.insts.length:=by have:=r9 wc.rs wc.rr;omega
  have hel:(cN u c mx).length=c.insts.length:=u5;have hsl:(w9 u c mx).length=c.insts.length:=p9.1;have hcl:=wc.cl;have w:=dE wc hi;have w1:=w.lo;have w2:=w.hi;have hsz:(c7 u (itI c i)).length≤1664:=n7 hu w;have hcll:(c.calls.getD i []).length=(c7 u (itI c i)).length:=wc.cll i hi;have hlI:u7 u c i=(c7 u (itI c i)).length:=rfl;have hTl:(fR u c mx (w9 u c mx) i).length=u7 u c i:=cJ;have hlp:1≤(c7 u (itI c i)).length:=(eL hu w).1;have hT:=cP (u:=u) (c:=c) (m:=mx) (w9 u c mx) i;refine c67z ?_;refine .e 7 ?_;refine .ca rfl rfl (M0 u mx) ?_;refine c35z ?_;refine .c6 [1,2,5] ?_;refine c8.Dh (t:=5) (γ:=(h.length+1)) (len:=(kM u mx+1)) t30 (by simp) (by omega) (iS (by decide) rfl) ?_;rw[aW];simp only[l7,List.set_cons_succ,List.set_cons_zero];generalize (⟨0,false,3,1,(List.replicate (kM u mx+1) 0).map j4,kM u mx+1⟩:Blk)=Vb;refine c169z ?_;refine c119z ?_;refine .u6 (fun m st=>∃(j:Nat),(m=u7 u c i-j∧(j≤u7 u c i))∧st=⟨mkS 43 [(1,AV.int .i64 ((i:Nat):Int)),(2,AV.ptr h.length 0 0),(5,bL (S8 u c mx i (fR u c mx (w9 u c mx) i) j)),(20,AV.vec (c7 u (itI c i)).length (o6 (c7 u (itI c i)))),(21,AV.int .i64 (((c7 u (itI c i)).length:Nat):Int)),(22,AV.int .i64 ((j:Nat):Int))],h++[⟨0,false,114,10,[.vec u.globals.length (g5 u.globals),.vec u.mutexes.length (c9 u.mutexes),.vec u.procs.length (g7 u.procs),.int .i64 u.main,.vec c.insts.length (j0 c.insts),.vec c.calls.length (j8 c.calls),.vec c.roots.length (g5 c.roots),.int .i64 ((mx:Nat):Int),.vec c.insts.length (u3 (eS u c mx c.insts.length)),.vec c.insts.length ((cN u c mx).map j4)],0⟩,Vb]⟩) (.v ⟨0,⟨rfl,by omega⟩,rfl⟩ (hs:=t52)) ?_;rintro m sl h' ⟨j,⟨hm,hj⟩,hst⟩;obtain ⟨rfl,rfl⟩:=St.mk.inj hst;clear hst;have hop:(eQ u c i j).op=((c7 u (itI c i)).getD j g6).op:=rfl;refine c13z ?_;refine u2z ?_ ?_
  ·intro e1 qe1;refine c58z ?_;refine .z ?_;refine u2z ?_ ?_
   ·intro e2 qe2;refine .c6 [1,2,5,6,20,21,22] ?_;have hTj:=hT.get (i:=j) (by omega);have hEj:=rT (u:=u) (c:=c) (m:=mx) i (fR u c mx (w9 u c mx) i) j;refine c116z ?_;refine .e 2 ?_;refine .ca rfl rfl (T6 _ _ (hTj.lt hk8) (hEj.lt hk8) (by have:=hEj.1;omega) t195) ?_;refine c28z ?_;refine .c6 [1,2,5,20,21,22] ?_;refine .rz ?_;exact ⟨_,by omega,.v ⟨(j+1),⟨rfl,by omega⟩,rfl⟩ (he:=t12) (hs:=t52)⟩
   intro e2 qe2;refine c4z ?_;refine .c6 [1,2,5,20,21,22] ?_;refine .rz ?_;exact ⟨_,by omega,.v ⟨(j+1),⟨rfl,by omega⟩,rfl⟩ (he:=t12) (hs:=t52)⟩
  intro e1 qe1;refine .exit ?_;obtain rfl:j=u7 u c i:=by omega
  refine c211z ?_;exact .ret (.ex (hq:=by (rw[←inn_ex hu wc hi];rfl)))
theorem LO {k:Nat}(hk:k≤8):CB 29 [.int .i64 ((k:Nat):Int)] h (.int .i64 ((2^(k+1)-1:Nat):Int)):=by refine .bz Tryz.f29 7 ?_;have h5:=oC hk;refine .z ?_;refine c29z ?_;exact ⟨[],_,(List.append_nil _).symm,t40,by (show AV.int .i64 _=_;congr 1;omega)⟩
theorem c_sh1 {u:Un}{c:Clo}(hu:WU u)(wc:WC u c){mx:Nat}(hmx:mx<u.mutexes.length){x:Nat}(hx:x<2^(kM u mx+1))(l:c5):CB 112 [.int .i64 ((x:Nat):Int),.ptr (h.length+1) 0 0] (h++(⟨0,false,114,10,[.vec u.globals.length (g5 u.globals),.vec u.mutexes.length (c9 u.mutexes),.vec u.procs.length (g7 u.procs),.int .i64 u.main,.vec c.insts.length (j0 c.insts),.vec c.calls.length (j8 c.calls),.vec c.roots.length (g5 c.roots),.int .i64 ((mx:Nat):Int),.vec c.insts.length (u3 (eS u c mx c.insts.length)),.vec c.insts.length ((cN u c mx).map j4)],0⟩::⟨0,false,3,1,[.int .i64 ((kM u mx:Nat):Int)],0⟩::l)) (.bool false):=by
  refine .bz Tryz.f112 9 ?_;have hwl:=wc.len;have hk8:kM u mx≤8:=dN;have hk9:lY (u.mutexes.getD mx v8)≤8:=hk8;have hml:=hu.ml;have hrl:=wc.rl;have hrc:c.roots.length≤c.insts.length:=by have:=r9 wc.rs wc.rr;omega
  have hel:(cN u c mx).length=c.insts.length:=u5;have hsl:(w9 u c mx).length=c.insts.length:=p9.1;have hcl:=wc.cl;have hz:=full_no hk8 hx;refine c181z ?_;refine .ca rfl rfl (LO hk8) ?_;refine .n ?_;exact .ret (.ex (hq:=by (exact congrArg AV.bool (by rw[hz];rfl))))
variable {r:List Nat}{caps:List AV}
theorem c_ixR (hr:r.length=n)(hl:n<100000)(hF:∀j,j<n→CB 112 (.int .i64 ((r.getD j 0:Nat):Int)::caps) h (.bool false)):CB 148 [.vec n (r.map j4),.fn (.func 112) [] caps] h (.int .i64 (-1)):=by
  refine .bz Tryz.f148 19 ?_;refine c18z ?_;refine .bX (fun m st=>∃(i:Nat),(m=n-i∧(i≤n))∧st=⟨mkS 19 [(0,AV.vec n (r.map j4)),(1,AV.fn (.func 112) [] caps),(7,AV.int .i64 ((n:Nat):Int)),(8,AV.int .i64 ((i:Nat):Int))],h⟩) _ (.v ⟨0,⟨rfl,by omega⟩,rfl⟩) ?_;rintro m sl h' ⟨i,⟨hm,hi0⟩,hst⟩;obtain ⟨rfl,rfl⟩:=St.mk.inj hst;refine c13z ?_;refine u2z ?_ ?_
  ·intro e1 qe1;refine c58z ?_;refine c24z ?_;refine n5.cq rfl (rfl) hb112 (hF _ (by omega)) ?_;refine .nil ?_;refine c34z ?_;refine c186z ?_;exact ⟨_,by omega,.v ⟨(i+1),⟨rfl,by omega⟩,rfl⟩⟩
  intro e1 qe1;refine c63z ?_;exact ⟨[],_,(List.append_nil _).symm,t40,by rfl⟩
theorem c_cfR (hr:r.length=n)(hl:n<100000)(hF:∀j,j<n→CB 112 (.int .i64 ((r.getD j 0:Nat):Int)::caps) h (.bool false)):CB 116 [.vec n (r.map j4),.fn (.func 112) [] caps] h (.bool false):=by refine .bz Tryz.f116 9 ?_;refine c181z ?_;refine .ca rfl rfl (c_ixR hr hl hF) ?_;refine c102z ?_;exact ⟨[],_,(List.append_nil _).symm,t40,by rfl⟩
variable {X:List Int}
theorem c_ixN (hl:X.length<100000)(hF:∀j,j<X.length→CB 151 (.int .i64 (X.getD j 0)::caps) h (.bool false)):CB 148 [.vec X.length (g5 X),.fn (.func 151) [] caps] h (.int .i64 (-1)):=by
  refine .bz Tryz.f148 19 ?_;refine c18z ?_;refine .bX (fun m st=>∃(i:Nat),(m=X.length-i∧(i≤X.length))∧st=⟨mkS 19 [(0,AV.vec X.length (g5 X)),(1,AV.fn (.func 151) [] caps),(7,AV.int .i64 ((X.length:Nat):Int)),(8,AV.int .i64 ((i:Nat):Int))],h⟩) _ (.v ⟨0,⟨rfl,by omega⟩,rfl⟩) ?_;rintro m sl h' ⟨i,⟨hm,hi0⟩,hst⟩;obtain ⟨rfl,rfl⟩:=St.mk.inj hst;refine c13z ?_;refine u2z ?_ ?_
  ·intro e1 qe1;refine c58z ?_;refine c24z ?_;refine n5.cq rfl (rfl) hb151 (hF _ (by omega)) ?_;refine .nil ?_;refine c34z ?_;refine c186z ?_;exact ⟨_,by omega,.v ⟨(i+1),⟨rfl,by omega⟩,rfl⟩⟩
  intro e1 qe1;refine c63z ?_;exact ⟨[],_,(List.append_nil _).symm,t40,by rfl⟩
theorem c_cfN (hl:X.length<100000)(hF:∀j,j<X.length→CB 151 (.int .i64 (X.getD j 0)::caps) h (.bool false)):CB 116 [.vec X.length (g5 X),.fn (.func 151) [] caps] h (.bool false):=by refine .bz Tryz.f116 9 ?_;refine c181z ?_;refine .ca rfl rfl (c_ixN hl hF) ?_;refine c102z ?_;exact ⟨[],_,(List.append_nil _).symm,t40,by rfl⟩
theorem c_ixT (hr:T.length=n)(hl:n<100000)(hF:∀j,j<n→CB 115 (bL (T.getD j [])::caps) h (.bool false)):CB 147 [.vec n (s7 T),.fn (.func 115) [] caps] h (.int .i64 (-1)):=by
  refine .bz Tryz.f147 19 ?_;refine c18z ?_;refine .bX (fun m st=>∃(i:Nat),(m=n-i∧(i≤n))∧st=⟨mkS 19 [(0,AV.vec n (s7 T)),(1,AV.fn (.func 115) [] caps),(7,AV.int .i64 ((n:Nat):Int)),(8,AV.int .i64 ((i:Nat):Int))],h⟩) _ (.v ⟨0,⟨rfl,by omega⟩,rfl⟩) ?_;rintro m sl h' ⟨i,⟨hm,hi0⟩,hst⟩;obtain ⟨rfl,rfl⟩:=St.mk.inj hst;refine c13z ?_;refine u2z ?_ ?_
  ·intro e1 qe1;refine c58z ?_;refine c24z ?_;refine n5.cq rfl (rfl) hb115 (hF _ (by omega)) ?_;refine .nil ?_;refine c34z ?_;refine c186z ?_;exact ⟨_,by omega,.v ⟨(i+1),⟨rfl,by omega⟩,rfl⟩⟩
  intro e1 qe1;refine c63z ?_;exact ⟨[],_,(List.append_nil _).symm,t40,by rfl⟩
theorem c_cfT (hr:T.length=n)(hl:n<100000)(hF:∀j,j<n→CB 115 (bL (T.getD j [])::caps) h (.bool false)):CB 114 [.vec n (s7 T),.fn (.func 115) [] caps] h (.bool false):=by refine .bz Tryz.f114 9 ?_;refine c181z ?_;refine .ca rfl rfl (c_ixT hr hl hF) ?_;refine c102z ?_;exact ⟨[],_,(List.append_nil _).symm,t40,by rfl⟩
theorem c_sh2 {u:Un}{c:Clo}(hu:WU u)(wc:WC u c){mx:Nat}(hmx:mx<u.mutexes.length)(hr:Rl (kM u mx) r)(l:c5):CB 115 [bL r,.ptr (h.length+1) 0 0,.ptr (h.length+2) 0 0] (h++(⟨0,false,114,10,[.vec u.globals.length (g5 u.globals),.vec u.mutexes.length (c9 u.mutexes),.vec u.procs.length (g7 u.procs),.int .i64 u.main,.vec c.insts.length (j0 c.insts),.vec c.calls.length (j8 c.calls),.vec c.roots.length (g5 c.roots),.int .i64 ((mx:Nat):Int),.vec c.insts.length (u3 (eS u c mx c.insts.length)),.vec c.insts.length ((cN u c mx).map j4)],0⟩::⟨0,false,3,1,[.int .i64 ((kM u mx:Nat):Int)],0⟩::⟨0,false,115,1,[.fn (.func 112) [] [.ptr (h.length+1) 0 0]],0⟩::l)) (.bool false):=by
  refine .bz Tryz.f115 15 ?_;have hwl:=wc.len;have hk8:kM u mx≤8:=dN;have hk9:lY (u.mutexes.getD mx v8)≤8:=hk8;have hml:=hu.ml;have hrl:=wc.rl;have hrc:c.roots.length≤c.insts.length:=by have:=r9 wc.rs wc.rr;omega
  have hel:(cN u c mx).length=c.insts.length:=u5;have hsl:(w9 u c mx).length=c.insts.length:=p9.1;have hcl:=wc.cl;have hrl2:r.length=kM u mx+1:=hr.1;refine c67z ?_;refine .e 6 ?_;refine .spl 10 rfl rfl (fun e1=>by exfalso;have q:=fact e1;omega) (fun e1=>?_);try simp only[e1]
  have qe1:=fact e1;refine .k 2 [(5,10)] ?_;refine .ca rfl rfl (c_cfR rfl (by omega) (fun j hj=>c_sh1 hu wc hmx (nK hr.2 j) _)) ?_;refine .n ?_;exact .ret (.ex (hq:=by rfl))
theorem TZ {u:Un}{c:Clo}(hu:WU u)(wc:WC u c){mx:Nat}(hmx:mx<u.mutexes.length)(hi:i<c.insts.length):CB 71 [.agg [.vec u.globals.length (g5 u.globals),.vec u.mutexes.length (c9 u.mutexes),.vec u.procs.length (g7 u.procs),.int .i64 u.main,.vec c.insts.length (j0 c.insts),.vec c.calls.length (j8 c.calls),.vec c.roots.length (g5 c.roots),.int .i64 ((mx:Nat):Int),.vec c.insts.length (u3 (eS u c mx c.insts.length)),.vec c.insts.length ((cN u c mx).map j4)],.int .i64 ((i:Nat):Int)] h (.bool true):=by
  refine .bz Tryz.f71 47 ?_;have hwl:=wc.len;have hk8:kM u mx≤8:=dN;have hk9:lY (u.mutexes.getD mx v8)≤8:=hk8;have hml:=hu.ml;have hrl:=wc.rl;have hrc:c.roots.length≤c.insts.length:=by have:=r9 wc.rs wc.rr;omega
  have hel:(cN u c mx).length=c.insts.length:=u5;have hsl:(w9 u c mx).length=c.insts.length:=p9.1;have hcl:=wc.cl;have w:=dE wc hi;have w1:=w.lo;have w2:=w.hi;have hsz:(c7 u (itI c i)).length≤1664:=n7 hu w;have hcll:(c.calls.getD i []).length=(c7 u (itI c i)).length:=wc.cll i hi;have hlI:u7 u c i=(c7 u (itI c i)).length:=rfl;have hTl:(fR u c mx (w9 u c mx) i).length=u7 u c i:=cJ;have hlp:1≤(c7 u (itI c i)).length:=(eL hu w).1;have hT:=cP (u:=u) (c:=c) (m:=mx) (w9 u c mx) i;refine c67z ?_;refine .e 7 ?_;refine .ca rfl rfl (M0 u mx) ?_;refine .n ?_;refine .c6 [1,2,5] ?_;refine c13z ?_;refine .ss v9 (mkP 22 [0,1,3,0,15,31,63,0,0,384,896,2047,4095,8191,8191,24575,57343,8191,253951,516095,1048575,2097151] []) ?_;refine .k 8 [] ?_;refine .k 1 [] ?_;refine .ca rfl rfl (LN hu wc hmx hi) ?_;refine .k 3 [] ?_;refine .spl 28 rfl rfl (fun e1=>by exfalso;have q:=fact e1;omega) (fun e1=>?_);try simp only[e1]
  have qe1:=fact e1;refine .k 7 [(12,28)] ?_;refine iZ.cq rfl (rfl) hb112 (c_sh1 hu wc hmx (oU.get i) _) ?_;refine .n [] ?_;refine c17z ?_;refine .c6 [1,2,5,6] ?_;refine .s ?_;refine .e 7 ?_;refine .ca rfl rfl (c_cfT hTl (by omega) (fun j hj=>c_sh2 hu wc hmx (hT.get hj) [])) ?_;refine .n ?_;exact .ret (.ex (hq:=by rfl))
theorem c_cl1 {u:Un}{c:Clo}(hu:WU u)(wc:WC u c){mx:Nat}(hmx:mx<u.mutexes.length)(hi:i<c.insts.length){a:List Nat}(ha:Rl (kM u mx) a){q:Int}(hq1:0≤q)(hq2:q.toNat<u7 u c i)(hw:lJ a ((fR u c mx (w9 u c mx) i).getD q.toNat []))(l:c5):CB 151 [.int .i64 q,.ptr (h.length+2) 0 0,.ptr h.length 0 0,.ptr (h.length+1) 0 0] (h++(⟨0,false,114,10,[.vec u.globals.length (g5 u.globals),.vec u.mutexes.length (c9 u.mutexes),.vec u.procs.length (g7 u.procs),.int .i64 u.main,.vec c.insts.length (j0 c.insts),.vec c.calls.length (j8 c.calls),.vec c.roots.length (g5 c.roots),.int .i64 ((mx:Nat):Int),.vec c.insts.length (u3 (eS u c mx c.insts.length)),.vec c.insts.length ((cN u c mx).map j4)],0⟩::⟨0,false,3,1,[.int .i64 ((i:Nat):Int)],0⟩::⟨0,false,22,1,[bL a],0⟩::l)) (.bool false):=by
  refine .bz Tryz.f151 18 ?_;have hwl:=wc.len;have hk8:kM u mx≤8:=dN;have hk9:lY (u.mutexes.getD mx v8)≤8:=hk8;have hml:=hu.ml;have hrl:=wc.rl;have hrc:c.roots.length≤c.insts.length:=by have:=r9 wc.rs wc.rr;omega
  have hel:(cN u c mx).length=c.insts.length:=u5;have hsl:(w9 u c mx).length=c.insts.length:=p9.1;have hcl:=wc.cl;have w:=dE wc hi;have w1:=w.lo;have w2:=w.hi;have hsz:(c7 u (itI c i)).length≤1664:=n7 hu w;have hcll:(c.calls.getD i []).length=(c7 u (itI c i)).length:=wc.cll i hi;have hlI:u7 u c i=(c7 u (itI c i)).length:=rfl;have hTl:(fR u c mx (w9 u c mx) i).length=u7 u c i:=cJ;have hlp:1≤(c7 u (itI c i)).length:=(eL hu w).1;have hTq:=(cP (u:=u) (c:=c) (m:=mx) (w9 u c mx) i).get hq2;refine .z ?_;refine .ss v9 (mkP 13 [0,0,2,6,0,30,62,0,254,510,1023,2047,4095] []) ?_;refine .k 8 [] ?_;refine .k 2 [] ?_;refine .ca rfl rfl (LL (by have:=ha.1;omega) (by have:=ha.1;have:=hTq.1;omega) hw) ?_;refine .n [] ?_;exact .ret (.ex (hq:=by rfl))
theorem c_xat {u:Un}{c:Clo}(hu:WU u)(wc:WC u c){mx:Nat}(hmx:mx<u.mutexes.length)(hi:i<c.insts.length){pc:Nat}(hp:pc<u7 u c i):CB 119 [.agg [.vec u.globals.length (g5 u.globals),.vec u.mutexes.length (c9 u.mutexes),.vec u.procs.length (g7 u.procs),.int .i64 u.main,.vec c.insts.length (j0 c.insts),.vec c.calls.length (j8 c.calls),.vec c.roots.length (g5 c.roots),.int .i64 ((mx:Nat):Int),.vec c.insts.length (u3 (eS u c mx c.insts.length)),.vec c.insts.length ((cN u c mx).map j4)],.int .i64 ((i:Nat):Int),.int .i64 ((pc:Nat):Int)] h (.bool true):=by
  refine .bz Tryz.f119 90 ?_;have hwl:=wc.len;have hk8:kM u mx≤8:=dN;have hk9:lY (u.mutexes.getD mx v8)≤8:=hk8;have hml:=hu.ml;have hrl:=wc.rl;have hrc:c.roots.length≤c.insts.length:=by have:=r9 wc.rs wc.rr;omega
  have hel:(cN u c mx).length=c.insts.length:=u5;have hsl:(w9 u c mx).length=c.insts.length:=p9.1;have hcl:=wc.cl;have w:=dE wc hi;have w1:=w.lo;have w2:=w.hi;have hsz:(c7 u (itI c i)).length≤1664:=n7 hu w;have hcll:(c.calls.getD i []).length=(c7 u (itI c i)).length:=wc.cll i hi;have hlI:u7 u c i=(c7 u (itI c i)).length:=rfl;have hTl:(fR u c mx (w9 u c mx) i).length=u7 u c i:=cJ;have hlp:1≤(c7 u (itI c i)).length:=(eL hu w).1;have hpro:=KH (m:=mx) hu wc p9 hi;have hst1:=hpro.st pc hp;have hop:eQ u c i pc=(c7 u (itI c i)).getD pc g6:=rfl;have hT:=cP (u:=u) (c:=c) (m:=mx) (w9 u c mx) i;have hTp:=hT.get hp;have hcall:(eQ u c i pc).op=2→0≤(c.calls.getD i []).getD pc 0∧(c.calls.getD i []).getD pc 0<c.insts.length:=fun ho=>by have:=(wc.call i hi pc hp).1 (.inl ho);exact ⟨this.1,this.2.1⟩
  have hnl:=qI (x:=(c7 u (itI c i)).getD pc g6) (pc:=pc);refine .z ?_;refine .ss v9 (mkP 13 [0,1,0,4,12,0,60,124,0,0,512,2047,4095] []) ?_;refine .k 8 [] ?_;refine .k 3 [] ?_;refine .ca rfl rfl (KV hu wc hmx hi hp) ?_;refine .n [] ?_;refine .seq ?_;refine .c6 [2,3,4,7] ?_;refine c169z ?_;refine .n ?_;refine u2z ?_ ?_
  ·intro e1 qe1;refine .c6 [2,3,4] ?_;have hop2:(eQ u c i pc).op=2:=by rw[hop];omega
   obtain ⟨hc1,hc2⟩:=hcall hop2;obtain ⟨q,hqe⟩:∃q:Nat,(c.calls.getD i []).getD pc 0=(q:Int):=⟨_,(Int.toNat_of_nonneg hc1).symm⟩;have hqc:cW c i pc=q:=by unfold cW;rw[hqe];rfl
   have hc3:=hc1;have hc4:=hc2;rw[hqe]at hc3 hc4;have hq3:q<c.insts.length:=by omega
   have hz:bits .andNot .i64 ((applyN ((fR u c mx (w9 u c mx) i).getD pc []) ((cN u c mx).getD i 0):Nat):Int) (((cN u c mx).getD q 0:Nat):Int)=0:=(vZ (Nat.lt_of_lt_of_le (jO hTp _) (oC hk8).2) (oU.lt _ (g8 (by omega)))).2 fun b hb=>by rw[←hqc];exact entT_cl hu wc hi hp hop2 b hb
   refine c124z ?_;refine .c6 [2,3,4,8] ?_;rw[hqe];refine c15z ?_;refine .ca rfl rfl (c_xexit hu wc hmx hq3) ?_;refine .n ?_;refine .ss v9 (mkP 24 [0,1,3,0,15,31,0,127,255,0,512,1536,0,7680,15872,32767,0,65536,196608,0,983040,2031616,4194303,8388607] []) ?_;refine .k 8 [] ?_;refine .k 7 [] ?_;refine .ca rfl rfl (tY _ _ (hTp.lt hk8) (oU.lt _ (g8 (by omega))) t169) ?_;refine .n [] ?_;refine .spl 65 rfl rfl (fun e2=>by exfalso;rw[hz]at e2;exact absurd e2 (by decide)) (fun e2=>?_);try simp only[e2]
   have qe2:=fact e2;refine c17z ?_;refine .c6 [2,3,4,7] ?_;have hst2:(w9 u c mx).getD q []=stS u c mx (w9 u c mx) i pc:=by unfold stS;rw[if_pos (show (eQ u c i pc).op=2 from by rw[hop];omega)];first | done | rfl | rw[hqc]
   rw[hst2];refine c47z ?_;refine .e 2 ?_;refine .ca rfl rfl (KR _ _ (hst1.lt hk8) t182 (hTp.lt hk8) t169) ?_;refine .n ?_;refine .c6 [2,3,4,9] ?_;refine .ss v9 (mkP 14 [0,1,0,4,12,0,60,124,0,511,0,2047,4095,8191] []) ?_;refine .k 8 [] ?_;refine .k 1 [] ?_;refine .ca rfl rfl (T7 hu w (show pc<(c7 u (itI c i)).length by omega)) ?_;refine .k 1 [] ?_;refine .ca rfl rfl (c_cfN (by omega) (fun j hj=>c_cl1 hu wc hmx hi (nL hTp hst1) (hpro.nx pc hp _ (g8 (d:=0) hj)).1 (by have:=hpro.nx pc hp _ (g8 (d:=0) hj);omega) (BF hu wc hi hp (g8 (d:=0) hj)) [])) ?_;refine .n [] ?_;exact .ret (.ex (hq:=by rfl))
  intro e1 qe1;refine .sk ?_;refine .c6 [2,3,4,7] ?_;have hst2:dhN (kM u mx) (chI (itI c i) (eQ u c i pc) mx)=stS u c mx (w9 u c mx) i pc:=by unfold stS;rw[if_neg (show ¬(eQ u c i pc).op=2 from by rw[hop];omega)];first | done | rfl | rw[hqc]
  rw[hst2];refine c47z ?_;refine .e 2 ?_;refine .ca rfl rfl (KR _ _ (hst1.lt hk8) t182 (hTp.lt hk8) t169) ?_;refine .n ?_;refine .c6 [2,3,4,9] ?_;refine .ss v9 (mkP 14 [0,1,0,4,12,0,60,124,0,511,0,2047,4095,8191] []) ?_;refine .k 8 [] ?_;refine .k 1 [] ?_;refine .ca rfl rfl (T7 hu w (show pc<(c7 u (itI c i)).length by omega)) ?_;refine .k 1 [] ?_;refine .ca rfl rfl (c_cfN (by omega) (fun j hj=>c_cl1 hu wc hmx hi (nL hTp hst1) (hpro.nx pc hp _ (g8 (d:=0) hj)).1 (by have:=hpro.nx pc hp _ (g8 (d:=0) hj);omega) (BF hu wc hi hp (g8 (d:=0) hj)) [])) ?_;refine .n [] ?_;exact .ret (.ex (hq:=by rfl))
theorem UA (hl:X.length<1000000)(v:Int):CB 149 [.vec X.length (g5 X),.int .i64 v] h (.int .i64 (NF X v 0)):=by
  refine .bz Tryz.f149 19 ?_;refine c18z ?_;refine .bX (fun m st=>∃(i:Nat),(m=X.length-i∧((∀d,d<i→X.getD d 0≠v)∧i≤X.length))∧st=⟨mkS 19 [(0,AV.vec X.length (g5 X)),(1,AV.int .i64 v),(7,AV.int .i64 ((X.length:Nat):Int)),(8,AV.int .i64 ((i:Nat):Int))],h⟩) _ (.v ⟨0,⟨rfl,⟨t105,by omega⟩⟩,rfl⟩) ?_;rintro m sl h' ⟨i,⟨hm,⟨hI,hi0⟩⟩,hst⟩;obtain ⟨rfl,rfl⟩:=St.mk.inj hst;refine c13z ?_;refine u2z ?_ ?_
  ·intro e1 qe1;refine c58z ?_;refine .z ?_;refine u2z ?_ ?_
   ·intro e2 qe2;refine .c6 [5] ?_;refine c29z ?_;exact ⟨[],_,(List.append_nil _).symm,t40,t133⟩
   intro e2 qe2;refine c4z ?_;refine c186z ?_;exact ⟨_,by omega,.v ⟨(i+1),⟨rfl,⟨(fun d hd=>if e:d=i then by rw[e];omega else hI d (by omega)),by omega⟩⟩,rfl⟩⟩
  intro e1 qe1;refine c63z ?_;exact ⟨[],_,(List.append_nil _).symm,t40,t133⟩
theorem DZ (hl:X.length<1000000)(v:Int):CB 118 [.vec X.length (g5 X),.int .i64 v] h (.bool (decide (v∈X))):=by refine .bz Tryz.f118 9 ?_;refine c181z ?_;refine .ca rfl rfl (UA hl v) ?_;refine c102z ?_;exact ⟨[],_,(List.append_nil _).symm,t40,by (exact congrArg AV.bool (by rw[decide_eq_decide];exact LM (Int.le_refl 0)))⟩
theorem LP {u:Un}{c:Clo}(hu:WU u)(wc:WC u c){mx:Nat}(hmx:mx<u.mutexes.length)(hi:i<c.insts.length):CB 72 [.agg [.vec u.globals.length (g5 u.globals),.vec u.mutexes.length (c9 u.mutexes),.vec u.procs.length (g7 u.procs),.int .i64 u.main,.vec c.insts.length (j0 c.insts),.vec c.calls.length (j8 c.calls),.vec c.roots.length (g5 c.roots),.int .i64 ((mx:Nat):Int),.vec c.insts.length (u3 (eS u c mx c.insts.length)),.vec c.insts.length ((cN u c mx).map j4)],.int .i64 ((i:Nat):Int)] h (.bool true):=by
  refine .bz Tryz.f72 53 ?_;have hwl:=wc.len;have hk8:kM u mx≤8:=dN;have hk9:lY (u.mutexes.getD mx v8)≤8:=hk8;have hml:=hu.ml;have hrl:=wc.rl;have hrc:c.roots.length≤c.insts.length:=by have:=r9 wc.rs wc.rr;omega
  have hel:(cN u c mx).length=c.insts.length:=u5;have hsl:(w9 u c mx).length=c.insts.length:=p9.1;have hcl:=wc.cl;have w:=dE wc hi;have w1:=w.lo;have w2:=w.hi;have hsz:(c7 u (itI c i)).length≤1664:=n7 hu w;have hcll:(c.calls.getD i []).length=(c7 u (itI c i)).length:=wc.cll i hi;have hlI:u7 u c i=(c7 u (itI c i)).length:=rfl;have hTl:(fR u c mx (w9 u c mx) i).length=u7 u c i:=cJ;have hlp:1≤(c7 u (itI c i)).length:=(eL hu w).1;have hT0:=(cP (u:=u) (c:=c) (m:=mx) (w9 u c mx) i).get (i:=0) (by omega);have hE5:(cN u c mx).getD i 0<512:=oU.lt _ (g8 (by omega));have hodd:=ent_odd (mx:=mx) hu wc (i:=i);have hmu:=TQ hE5;refine c13z ?_;refine .ss v9 (mkP 19 [0,1,3,0,8,31,63,127,255,0,512,1536,0,7680,15872,32256,65024,131071,262143] []) ?_;refine .k 7 [] ?_;refine .ca rfl rfl (M0 u mx) ?_;refine .ca rfl rfl (c_idN _ hk8) ?_;refine .k 8 [] ?_;refine .ca rfl rfl (LL (by rw[WQ];omega) (by rw[WQ];exact hT0.1) (inn_id hu wc hi)) ?_;refine .n [] ?_;refine c70z ?_;refine .c6 [1,2] ?_;refine c25z ?_;refine .ca rfl rfl (DZ (by omega) _) ?_;refine .e 1 ?_;refine .spl 30 rfl rfl (fun e1=>?_) (fun e1=>?_)
  ·try simp only[e1]
   have qe1:=fact e1;refine .k 8 [(5,30)] ?_;refine .n ?_;refine .spl 39 rfl rfl (fun e2=>by exfalso;have q:=fact e2;have q1:=hmu.1 (by omega);have q2:=hodd (by first | assumption | (apply of_decide_eq_true;assumption));omega) (fun e2=>?_);try simp only[e2]
   have qe2:=fact e2;refine c70z ?_;refine .c6 [1,2] ?_;refine c169z ?_;refine c119z ?_;refine .bX (fun m st=>∃(j:Nat),(m=u7 u c i-j∧(j≤u7 u c i))∧st=⟨mkS 53 [(1,AV.int .i64 ((i:Nat):Int)),(2,AV.ptr h.length 0 0),(43,AV.int .i64 (((c7 u (itI c i)).length:Nat):Int)),(44,AV.int .i64 ((j:Nat):Int))],h++[⟨0,false,114,10,[.vec u.globals.length (g5 u.globals),.vec u.mutexes.length (c9 u.mutexes),.vec u.procs.length (g7 u.procs),.int .i64 u.main,.vec c.insts.length (j0 c.insts),.vec c.calls.length (j8 c.calls),.vec c.roots.length (g5 c.roots),.int .i64 ((mx:Nat):Int),.vec c.insts.length (u3 (eS u c mx c.insts.length)),.vec c.insts.length ((cN u c mx).map j4)],0⟩]⟩) _ (.v ⟨0,⟨rfl,by omega⟩,rfl⟩) ?_;rintro m sl h' ⟨j,⟨hm,hj⟩,hst⟩;obtain ⟨rfl,rfl⟩:=St.mk.inj hst;refine c13z ?_;refine u2z ?_ ?_
   ·intro e3 qe3;refine c58z ?_;refine c14z ?_;refine .ca rfl rfl (c_xat hu wc hmx hi (show j<u7 u c i by omega)) ?_;refine .n ?_;refine c34z ?_;refine .c6 [1,2,43,44] ?_;refine .rz ?_;exact ⟨_,by omega,.v ⟨(j+1),⟨rfl,by omega⟩,rfl⟩⟩
   intro e3 qe3;refine c6z ?_;refine .z ?_;exact .ret (.ex (hq:=by rfl))
  try simp only[e1]
  have qe1:=fact e1;refine .k 8 [(5,30)] ?_;refine .n ?_;refine c70z ?_;refine .c6 [1,2] ?_;refine c169z ?_;refine c119z ?_;refine .bX (fun m st=>∃(j:Nat),(m=u7 u c i-j∧(j≤u7 u c i))∧st=⟨mkS 53 [(1,AV.int .i64 ((i:Nat):Int)),(2,AV.ptr h.length 0 0),(43,AV.int .i64 (((c7 u (itI c i)).length:Nat):Int)),(44,AV.int .i64 ((j:Nat):Int))],h++[⟨0,false,114,10,[.vec u.globals.length (g5 u.globals),.vec u.mutexes.length (c9 u.mutexes),.vec u.procs.length (g7 u.procs),.int .i64 u.main,.vec c.insts.length (j0 c.insts),.vec c.calls.length (j8 c.calls),.vec c.roots.length (g5 c.roots),.int .i64 ((mx:Nat):Int),.vec c.insts.length (u3 (eS u c mx c.insts.length)),.vec c.insts.length ((cN u c mx).map j4)],0⟩]⟩) _ (.v ⟨0,⟨rfl,by omega⟩,rfl⟩) ?_;rintro m sl h' ⟨j,⟨hm,hj⟩,hst⟩;obtain ⟨rfl,rfl⟩:=St.mk.inj hst;refine c13z ?_;refine u2z ?_ ?_
  ·intro e4 qe4;refine c58z ?_;refine c14z ?_;refine .ca rfl rfl (c_xat hu wc hmx hi (show j<u7 u c i by omega)) ?_;refine .n ?_;refine c34z ?_;refine .c6 [1,2,43,44] ?_;refine .rz ?_;exact ⟨_,by omega,.v ⟨(j+1),⟨rfl,by omega⟩,rfl⟩⟩
  intro e4 qe4;refine c6z ?_;refine .z ?_;exact .ret (.ex (hq:=by rfl))
theorem c_check {u:Un}{c:Clo}(hu:WU u)(wc:WC u c){mx:Nat}(hmx:mx<u.mutexes.length):CB 39 [.agg [.vec u.globals.length (g5 u.globals),.vec u.mutexes.length (c9 u.mutexes),.vec u.procs.length (g7 u.procs),.int .i64 u.main],.agg [.vec c.insts.length (j0 c.insts),.vec c.calls.length (j8 c.calls),.vec c.roots.length (g5 c.roots)],.int .i64 ((mx:Nat):Int),.vec c.insts.length (u3 (eS u c mx c.insts.length)),.vec c.insts.length ((cN u c mx).map j4)] h (.tup [.int .i64 ((c.insts.length:Nat):Int),.int .i64 0]):=by
  refine .bz Tryz.f39 60 ?_;have hwl:=wc.len;have hk8:kM u mx≤8:=dN;have hk9:lY (u.mutexes.getD mx v8)≤8:=hk8;have hml:=hu.ml;have hrl:=wc.rl;have hrc:c.roots.length≤c.insts.length:=by have:=r9 wc.rs wc.rr;omega
  have hel:(cN u c mx).length=c.insts.length:=u5;have hsl:(w9 u c mx).length=c.insts.length:=p9.1;have hcl:=wc.cl;refine c13z ?_;refine .s ?_;refine .k 8 [(6,21)] ?_;refine .m [(6,21)] ?_;refine c17z ?_;refine .c6 [2,3,4,5,6] ?_;refine c216z ?_;refine .c6 [3,12] ?_;refine c19z ?_;refine .bX (fun m st=>∃(i:Nat),(m=c.insts.length-i∧(i≤c.insts.length))∧st=⟨mkS 60 [(3,AV.vec c.insts.length (u3 (eS u c mx c.insts.length))),(12,AV.ptr (h.length+2) 0 0),(37,AV.int .i64 ((c.insts.length:Nat):Int)),(38,AV.int .i64 ((i:Nat):Int))],h++[⟨0,false,30,4,[.vec u.globals.length (g5 u.globals),.vec u.mutexes.length (c9 u.mutexes),.vec u.procs.length (g7 u.procs),.int .i64 u.main],0⟩,⟨0,false,34,3,[.vec c.insts.length (j0 c.insts),.vec c.calls.length (j8 c.calls),.vec c.roots.length (g5 c.roots)],0⟩,⟨0,false,114,10,[.vec u.globals.length (g5 u.globals),.vec u.mutexes.length (c9 u.mutexes),.vec u.procs.length (g7 u.procs),.int .i64 u.main,.vec c.insts.length (j0 c.insts),.vec c.calls.length (j8 c.calls),.vec c.roots.length (g5 c.roots),.int .i64 ((mx:Nat):Int),.vec c.insts.length (u3 (eS u c mx c.insts.length)),.vec c.insts.length ((cN u c mx).map j4)],0⟩]⟩) _ (.v ⟨0,⟨rfl,by omega⟩,rfl⟩) ?_;rintro m sl h' ⟨i,⟨hm,hi0⟩,hst⟩;obtain ⟨rfl,rfl⟩:=St.mk.inj hst;refine c13z ?_;refine u2z ?_ ?_
  ·intro e1 qe1;refine c58z ?_;refine c15z ?_;refine .ca rfl rfl (TZ hu wc hmx (show i<c.insts.length by omega)) ?_;refine .n ?_;refine c34z ?_;refine .rz ?_;exact ⟨_,by omega,.v ⟨(i+1),⟨rfl,by omega⟩,rfl⟩⟩
  intro e1 qe1;refine c6z ?_;refine c5z ?_;refine .bX (fun m st=>∃(i:Nat),(m=c.insts.length-i∧(i≤c.insts.length))∧st=⟨mkS 60 [(3,AV.vec c.insts.length (u3 (eS u c mx c.insts.length))),(12,AV.ptr (h.length+2) 0 0),(48,AV.int .i64 ((c.insts.length:Nat):Int)),(49,AV.int .i64 ((i:Nat):Int))],h++[⟨0,false,30,4,[.vec u.globals.length (g5 u.globals),.vec u.mutexes.length (c9 u.mutexes),.vec u.procs.length (g7 u.procs),.int .i64 u.main],0⟩,⟨0,false,34,3,[.vec c.insts.length (j0 c.insts),.vec c.calls.length (j8 c.calls),.vec c.roots.length (g5 c.roots)],0⟩,⟨0,false,114,10,[.vec u.globals.length (g5 u.globals),.vec u.mutexes.length (c9 u.mutexes),.vec u.procs.length (g7 u.procs),.int .i64 u.main,.vec c.insts.length (j0 c.insts),.vec c.calls.length (j8 c.calls),.vec c.roots.length (g5 c.roots),.int .i64 ((mx:Nat):Int),.vec c.insts.length (u3 (eS u c mx c.insts.length)),.vec c.insts.length ((cN u c mx).map j4)],0⟩]⟩) _ (.v ⟨0,⟨rfl,by omega⟩,rfl⟩) ?_;rintro m sl h' ⟨i,⟨hm,hi0⟩,hst⟩;obtain ⟨rfl,rfl⟩:=St.mk.inj hst;refine c13z ?_;refine u2z ?_ ?_
  ·intro e2 qe2;refine c58z ?_;refine c15z ?_;refine .ca rfl rfl (LP hu wc hmx (show i<c.insts.length by omega)) ?_;refine .n ?_;refine c34z ?_;refine .rz ?_;exact ⟨_,by omega,.v ⟨(i+1),⟨rfl,by omega⟩,rfl⟩⟩
  intro e2 qe2;refine c6z ?_;refine .z ?_;exact .ret (.ex (hq:=by rfl))
end Go.Proofs.YtonbocmibeikmaaGreat
end
section
namespace Go.Proofs.YtonbocmibeikmaaGreat
open Go.Ab Go.Un
attribute [local go_sem] l6 aL n6 aP n8 Int.natCast_nonneg Int.natCast_inj List.length_map cE hB_1 hB_2 hB_5 ZX ZY ZZ Aa fC A8 fQ Q9
variable {c:Core}{e:Frame}{left I:Int}
theorem XA {l:c5}(hc:OkC c)(hI:OkI c.L I)(hL:c.L.length<4611686018427387904)(vars:List BA)(hN:vars.length<1000)(f:Fu)(hp:f.params.length≤2):CH 127 [.ptr 5 0 0,.agg (dZ f),.vec vars.length (aH vars)] (hB c e I left++l) (.agg (X7 (u4 c f.params vars I).1)) (hB c e (u4 c f.params vars I).2 left++l):=c_ref (e:=⟨e.b0,e.b1,e.b2,e.z,e.m,e.g,e.rest++l⟩) hc hI hL vars hN f hp
variable {n:Nat}
theorem BG {c:Core}{e:Frame}{I left:Int}{fb rb:Blk}{g:Nat}{zs:List AV}{x1 x2 x3 x4 x5 x6 x7:AV}(hz:zs.length=n*7)(hn:n<1000) :
    j6 cfg 214 (hB c e I left++[fb,rb,o9 214 7 g zs,⟨0,false,214,7,[x1,x2,x3,x4,x5,x6,x7],0⟩]) (.own (e.n+2) g 0 n) (.own (e.n+3) 0 0 1)=some (.own (e.n+2) (g+1) 0 (n+1),hB c e I left++[fb,rb,o9 214 7 (g+1) (zs++[x1,x2,x3,x4,x5,x6,x7]),⟨0,false,214,7,[x1,x2,x3,x4,x5,x6,x7],0⟩]):=by
  have hb:(hB c e I left++[fb,rb,o9 214 7 g zs,⟨0,false,214,7,[x1,x2,x3,x4,x5,x6,x7],0⟩])[e.n+2]?=some (o9 214 7 g zs):=fC;rw[u9 (C:=cfg) (K:=7) (m:=1) (new:=[x1,x2,x3,x4,x5,x6,x7]) hb rfl (by omega) hz rfl (by omega) t138 rfl (by decide) (by omega),fQ];rfl
theorem LQ {c:Core}{e:Frame}{I left:Int}{fb rb:Blk}{g:Nat}{zs:List AV}{x1 x2 x3:AV}{x:Ex}(hz:zs.length=n*7)(hn:n<1000) :
    j6 cfg 214 (hB c e I left++[fb,rb,o9 214 7 g zs,⟨0,false,214,7,x1::x2::x3::s9 x,0⟩]) (.own (e.n+2) g 0 n) (.own (e.n+3) 0 0 1)=some (.own (e.n+2) (g+1) 0 (n+1),hB c e I left++[fb,rb,o9 214 7 (g+1) (zs++x1::x2::x3::s9 x),⟨0,false,214,7,x1::x2::x3::s9 x,0⟩]):=by
  rw[bN];exact BG hz hn
variable {ps l:List Pm}{vars:List BA}{j:Nat}{J:Int}
theorem args_t (h:j<l.length)(hm:(l.getD j iE).mu=true):aB c ps vars (l.drop j) J=(⟨true,(u4 c ps vars J).1,l4⟩::(aB c ps vars (l.drop (j+1)) (u4 c ps vars J).2).1,(aB c ps vars (l.drop (j+1)) (u4 c ps vars J).2).2):=by rw[List.drop_eq_getElem_cons h,aB,if_pos (by simpa [List.getD,h] using hm)]
theorem args_f (h:j<l.length)(hm:(l.getD j iE).mu=false):aB c ps vars (l.drop j) J=(⟨false,l9,(g9 c vars J).1⟩::(aB c ps vars (l.drop (j+1)) (g9 c vars J).2).1,(aB c ps vars (l.drop (j+1)) (g9 c vars J).2).2):=by rw[List.drop_eq_getElem_cons h,aB,if_neg (by rw[show l[j].mu=(l.getD j iE).mu from by simp[List.getD,h],hm];decide)]
theorem yL {l:List Ar}{a:Ar}:bE (l++[a])=bE l++ED a:=by simp[bE]
theorem refs_A {l:List Ar}:∀x∈bE l,Refs n x:=by
  intro x hx;obtain ⟨a,_,hx⟩:=List.mem_flatMap.1 hx;simp only[ED,bN,List.mem_cons,List.not_mem_nil,or_false]at hx;rcases hx with rfl | rfl | rfl | rfl | rfl | rfl | rfl
  · exact .bool _
  · exact .str _
  · exact .vec _ _
  · exact .int _ _
  · exact .int _ _
  · exact .str _
  · exact .vec _ _
theorem M4 {J':Int}{xs:List Ar}{a:Ar}(h:aB c ps vars l I=(xs++(aB c ps vars (l.drop j) J).1,(aB c ps vars (l.drop j) J).2))(hs:aB c ps vars (l.drop j) J=(a::(aB c ps vars (l.drop (j+1)) J').1,(aB c ps vars (l.drop (j+1)) J').2)):aB c ps vars l I=((xs++[a])++(aB c ps vars (l.drop (j+1)) J').1,(aB c ps vars (l.drop (j+1)) J').2):=by rw[h,hs];simp only[List.append_assoc,List.cons_append,List.nil_append]
section
attribute [local go_sem] gA wrap64 dZ X7 BG LQ lG J0 zY
theorem c_args (hc:OkC c)(hI:OkI c.L I)(hL:c.L.length<4611686018427387904)(vars:List BA)(hN:vars.length<1000)(f g:Fu)(hp:f.params.length≤2)(hq:g.params.length≤2):CH 129 [.ptr 5 0 0,.agg (dZ f),.agg (dZ g),.vec vars.length (aH vars)] (hB c e I left) (.vec (aB c f.params vars g.params I).1.length (bE (aB c f.params vars g.params I).1)) (hB c e (aB c f.params vars g.params I).2 left):=by
  refine .wz Tryz.f129 40 ?_;refine c59z ?_;refine c8.rC 9 rfl ?_;refine .u6 (fun m st=>∃(j:Nat) (J:Int) (xs:List Ar),(m=g.params.length-j∧(j≤g.params.length∧OkI c.L J∧xs.length=j∧aB c f.params vars g.params I=(xs++(aB c f.params vars (g.params.drop j) J).1,(aB c f.params vars (g.params.drop j) J).2)))∧st=⟨mkS 40 [(0,AV.ptr 5 0 0),(3,AV.vec vars.length (aH vars)),(5,AV.ptr e.n 0 0),(6,AV.ptr (e.n+1) 0 0),(9,AV.own (e.n+2) j 0 j),(10,AV.int .i64 ((j:Nat):Int))],hB c e J left++[⟨0,false,136,3,[.str f.name,.vec f.params.length (w4 f.params),.vec f.body.len (o5 f.body)],0⟩,⟨0,false,136,3,[.str g.name,.vec g.params.length (w4 g.params),.vec g.body.len (o5 g.body)],0⟩,o9 214 7 j (bE xs)]⟩) (.v ⟨0,I,[],⟨rfl,⟨by omega,hI,rfl,rfl⟩⟩,rfl⟩ (hs:=t37) (hr:=t1)) ?_;rintro m sl h' ⟨j,J,xs,⟨hm,⟨hj,hJ,hal,hA⟩⟩,hst⟩;obtain ⟨rfl,rfl⟩:=St.mk.inj hst;clear hst;have hz7:(bE xs).length=j*7:=by rw[cM,hal];omega
  refine c0z ?_;refine u2z ?_ ?_
  ·intro e1 qe1;refine c58z ?_;refine u2z ?_ ?_
   ·intro e2 qe2;refine .c6 [0,3,5,6,9,10] ?_;refine c145z ?_;refine .ch rfl rfl (XA hc hJ hL vars hN f hp) ?_;refine c28z ?_;refine .c6 [0,3,5,6,9,10] ?_;refine c8.nilsO (β:=e.n+2) (bE (xs++[(⟨true,(u4 c f.params vars J).1,l4⟩:Ar)])) t67 (by rw[yL];exact (oX.refl _).app QW) ?_;simp only[fQ,List.set_cons_succ,List.set_cons_zero];refine .rz ?_;exact ⟨_,by omega,.v ⟨(j+1),(u4 c f.params vars J).2,(xs++[(⟨true,(u4 c f.params vars J).1,l4⟩:Ar)]),⟨rfl,⟨by omega,(pW hc hJ).2,by simp[hal],M4 hA (args_t (by omega) (by assumption))⟩⟩,rfl⟩ (he:=t149) (hl:=t27) (hk:=t173) (hs:=t37) (hr:=t1)⟩
   intro e2 qe2;refine .c6 [0,3,5,6,9,10] ?_;refine .r ?_;refine .e 3 ?_;refine .ch rfl rfl (Z8 hc hJ hL vars hN) ?_;refine c28z ?_;refine c8.nilsO (β:=e.n+2) (bE (xs++[(⟨false,l9,(g9 c vars J).1⟩:Ar)])) t67 (by rw[yL];exact (oX.refl _).app IH) ?_;simp only[fQ,List.set_cons_succ,List.set_cons_zero];refine .rz ?_;exact ⟨_,by omega,.v ⟨(j+1),(g9 c vars J).2,(xs++[(⟨false,l9,(g9 c vars J).1⟩:Ar)]),⟨rfl,⟨by omega,(jJ hJ).2,by simp[hal],M4 hA (args_f (by omega) (by assumption))⟩⟩,rfl⟩ (he:=t149) (hl:=t27) (hk:=t173) (hs:=t37) (hr:=t1)⟩
  intro e1 qe1;refine c6z ?_;refine .c6 [9] ?_;refine c29z ?_;exact ⟨hB _ _ _ _,_,.vec xs.length (bE xs),rfl,t74,gZ,by (show iQ _ (hB c e J left++_) 6 (.own (e.n+2) j 0 j)=_;rw[cE,dK,if_neg (by omega),hal];exact iR fC (by omega) (by rw[cM,hal];omega) (by omega) frz_A),by refine ⟨?_,?_⟩<;>(rw[hA,List.drop_of_length_le (by omega)];simp only[aB,List.append_nil])⟩
end
end Go.Proofs.YtonbocmibeikmaaGreat
end
section
namespace Go.Proofs.YtonbocmibeikmaaGreat
open Go.Ab Go.Un
theorem c_argsA {c:Core}{e:Frame}{left I:Int}{l:c5}(hc:OkC c)(hI:OkI c.L I)(hL:c.L.length<4611686018427387904)(vars:List BA)(hN:vars.length<1000)(f g:Fu)(hp:f.params.length≤2)(hq:g.params.length≤2):CH 129 [.ptr 5 0 0,.agg (dZ f),.agg (dZ g),.vec vars.length (aH vars)] (hB c e I left++l) (.vec (aB c f.params vars g.params I).1.length (bE (aB c f.params vars g.params I).1)) (hB c e (aB c f.params vars g.params I).2 left++l):=c_args (e:=⟨e.b0,e.b1,e.b2,e.z,e.m,e.g,e.rest++l⟩) hc hI hL vars hN f g hp hq
theorem sealC_n {l:List BA}:p6 pH (aH l)=some (aH l):=by
 induction l with
 | nil=>rfl
 | cons x l ih=>
  have e:pH (.str x)=some (.str x):=rfl;simp only[aH,List.map_cons,p6,e]at ih ⊢;rw[ih]
variable {β:Nat}
theorem UB {H:c5}{b:Blk}(h:H[β]?=some b):H.set β b=H:=by obtain ⟨h1,h2⟩:=List.getElem?_eq_some_iff.1 h;rw[←h2];exact List.set_getElem_self h1
variable {g:Nat}
theorem O9 {f:FuncId}{args args':List AV}{H:c5}{Q:AV→c5→Prop}{vs:List BA}(hb:H[β]?=some ⟨g,false,9,1,aH vs,vs.length⟩)(ha:CI β g 0 vs.length (aH vs) args' args)(r:CallA Tryz.prog cfg f args' H Q):CallA Tryz.prog cfg f args H Q:=by
 have e:H.set β (dJ ⟨g,false,9,1,aH vs,vs.length⟩ (0+vs.length*1))=H:=by rw[show dJ ⟨g,false,9,1,aH vs,vs.length⟩ (0+vs.length*1)=⟨g,false,9,1,aH vs,vs.length⟩ from by simp[dJ]];exact UB hb
 refine CallA.FP (β:=β) (off:=0) (len:=vs.length) (cs:=aH vs) hb rfl (by simp[aL]) ?_ ha (by rw[e];exact r);simp only[List.drop_zero,Nat.mul_one];rw[List.take_of_length_le t164];exact sealC_n
theorem raise {c:Code}{sl:List AV}{h:c5}{Q:Exit→St→Prop}{k:Nat}{b:Blk}(hb:h[β]?=some b)(hk:b.frz≤k)(r:c8 Tryz.prog cfg c ⟨sl,h.set β ⟨b.gen,b.virt,b.elem,b.esz,b.cells,k⟩⟩ Q):c8 Tryz.prog cfg c ⟨sl,h⟩ Q:=by
 refine c8.step _ (fun B φ w i=>?_) r;have:=pL k i hb;have e:dJ b k=⟨b.gen,b.virt,b.elem,b.esz,b.cells,k⟩:=by simp only[dJ,Nat.max_eq_right hk]
 rw[e]at this;exact this
section
variable {c:Core}{e:Frame}{I left:Int}{l:c5}{fb:Blk}{gv:Nat}{vs:List BA}
theorem hB_v:(hB c e I left++(fb::⟨gv,false,9,1,aH vs,vs.length⟩::l))[e.n+1]?=some ⟨gv,false,9,1,aH vs,vs.length⟩:=fC
theorem nS (hc:OkC c)(hI:OkI c.L I)(hL:c.L.length<4611686018427387904)(hN:vs.length<1000):CH 128 [.ptr 5 0 0,.own (e.n+1) gv 0 vs.length] (hB c e I left++(fb::⟨gv,false,9,1,aH vs,vs.length⟩::l)) (.agg (s9 (g9 c vs I).1)) (hB c e (g9 c vs I).2 left++(fb::⟨gv,false,9,1,aH vs,vs.length⟩::l)):=
 O9 (args':=[.ptr 5 0 0,.vec vs.length (aH vs)]) hB_v ⟨.inl rfl,.inr ⟨rfl,rfl⟩,trivial⟩ (Z8 hc hI hL vs hN)
theorem BH (hc:OkC c)(hI:OkI c.L I)(hL:c.L.length<4611686018427387904)(hN:vs.length<1000)(f:Fu)(hp:f.params.length≤2):CH 127 [.ptr 5 0 0,.agg (dZ f),.own (e.n+1) gv 0 vs.length] (hB c e I left++(fb::⟨gv,false,9,1,aH vs,vs.length⟩::l)) (.agg (X7 (u4 c f.params vs I).1)) (hB c e (u4 c f.params vs I).2 left++(fb::⟨gv,false,9,1,aH vs,vs.length⟩::l)):=
 O9 (args':=[.ptr 5 0 0,.agg (dZ f),.vec vs.length (aH vs)]) hB_v ⟨.inl rfl,.inl rfl,.inr ⟨rfl,rfl⟩,trivial⟩ (XA hc hI hL vs hN f hp)
theorem LR (hc:OkC c)(hI:OkI c.L I)(hL:c.L.length<4611686018427387904)(hN:vs.length<1000)(f g:Fu)(hp:f.params.length≤2)(hq:g.params.length≤2):CH 129 [.ptr 5 0 0,.agg (dZ f),.agg (dZ g),.own (e.n+1) gv 0 vs.length] (hB c e I left++(fb::⟨gv,false,9,1,aH vs,vs.length⟩::l)) (.vec (aB c f.params vs g.params I).1.length (bE (aB c f.params vs g.params I).1)) (hB c e (aB c f.params vs g.params I).2 left++(fb::⟨gv,false,9,1,aH vs,vs.length⟩::l)):=
 O9 (args':=[.ptr 5 0 0,.agg (dZ f),.agg (dZ g),.vec vs.length (aH vs)]) hB_v ⟨.inl rfl,.inl rfl,.inl rfl,.inr ⟨rfl,rfl⟩,trivial⟩ (c_argsA hc hI hL vs hN f g hp hq)
def M5 (c:Core)(f:Fu)(fu:Nat)(left:Int):Prop:=∀{e:Frame} (I l':Int) (vs all:List BA) (d m:Int),OkI c.L I→0≤l'→l'<left→0≤d→d≤100→0≤m→m≤100→(∀x∈vs,x∈all)→Fr l'.toNat all→vs.length+l'.toNat≤500→
 CallA Tryz.prog cfg 86 [.ptr 5 0 0,.agg (dZ f),.vec vs.length (aH vs),.int .i64 d,.int .i64 m] (hB c e I l') (fun y' h'=>y'=.vec (g0 c f.params fu vs d m I l').1.len (o5 (g0 c f.params fu vs d m I l').1)∧h'=hB c e (g0 c f.params fu vs d m I l').2.1 (g0 c f.params fu vs d m I l').2.2)
theorem M5.V {f:Fu}{fu:Nat}{left0:Int}(h:M5 c f fu left0)(l':Int)(all:List BA)(d m:Int)(hI:OkI c.L I)(h1:0≤l')(h2:l'<left0)(h3:0≤d)(h4:d≤100)(h5:0≤m)(h6:m≤100)(h7:∀x∈vs,x∈all)(h8:Fr l'.toNat all)(h9:vs.length+l'.toNat≤500) :
  CallA Tryz.prog cfg 86 [.ptr 5 0 0,.agg (dZ f),.own (e.n+1) gv 0 vs.length,.int .i64 d,.int .i64 m] (hB c e I l'++(fb::⟨gv,false,9,1,aH vs,vs.length⟩::l)) (fun y' h'=>y'=.vec (g0 c f.params fu vs d m I l').1.len (o5 (g0 c f.params fu vs d m I l').1)∧h'=hB c e (g0 c f.params fu vs d m I l').2.1 (g0 c f.params fu vs d m I l').2.2++(fb::⟨gv,false,9,1,aH vs,vs.length⟩::l)):=
 O9 (args':=[.ptr 5 0 0,.agg (dZ f),.vec vs.length (aH vs),.int .i64 d,.int .i64 m]) hB_v ⟨.inl rfl,.inl rfl,.inr ⟨rfl,rfl⟩,.inl rfl,.inl rfl,trivial⟩ (h (e:=⟨e.b0,e.b1,e.b2,e.z,e.m,e.g,e.rest++(fb::⟨gv,false,9,1,aH vs,vs.length⟩::l)⟩) I l' vs all d m hI h1 h2 h3 h4 h5 h6 h7 h8 h9)
def gO (g n:Nat):Nat:=if n=0 then g else g+1
theorem UC (hn:vs.length<1000):j6 cfg 9 (hB c e I left++[fb,⟨0,false,9,1,[],0⟩]) (.own (e.n+1) 0 0 0) (.vec vs.length (aH vs))=some (.own (e.n+1) (gO 0 vs.length) 0 vs.length,hB c e I left++[fb,⟨gO 0 vs.length,false,9,1,aH vs,0⟩]):=by
 have e1:cfg.sz 9=1:=rfl;have e2:(cfg.ti 9).bytes=16:=rfl;have hm:vs.length≤maxLen:=by
  have:(1000:Nat)≤maxLen:=by decide
  omega
 have hb:vs.length*16≤140737488355328:=by omega
 cases vs with
 | nil=>simp[j6,rd,lenOf,e1,e2,fC,gO,aH]
 | cons x vs=>
  have h0:(aH (x::vs)).length=vs.length+1:=by simp[aH]
  simp only[List.length_cons]at hm hb;simp[j6,rd,lenOf,e1,e2,fC,gO,h0,hm,hb,fQ]
variable {t:Blk}
theorem app_vs {O p:Blk}{x:BA}(hn:vs.length<1000):j6 cfg 9 (hB c e I left++[fb,⟨gv,false,9,1,aH vs,vs.length⟩,O,t,p,⟨0,false,9,1,[.str x],0⟩]) (.own (e.n+1) gv 0 vs.length) (.own (e.n+5) 0 0 1)=some (.own (e.n+1) (gv+1) 0 (vs.length+1),hB c e I left++[fb,⟨gv+1,false,9,1,aH (vs++[x]),vs.length⟩,O,t,p,⟨0,false,9,1,[.str x],0⟩]):=by
 have e1:cfg.sz 9=1:=rfl;have e2:(cfg.ti 9).bytes=16:=rfl;have hm:vs.length+1≤maxLen:=by
  have:(1001:Nat)≤maxLen:=by decide
  omega
 have hb:(vs.length+1)*16≤140737488355328:=by omega
 have ht:List.take vs.length (aH vs)=aH vs:=List.take_of_length_le t164;have hnl:¬vs.length+1≤vs.length:=by omega
 simp[j6,rd,lenOf,e1,e2,fC,aL,hm,hb,fQ,ht,hnl,kG]
variable {n:Nat}{zs:List AV}
theorem UE {vb t:Blk}{g:Nat}{x1 x2 x3 x4 x5 x6 x7 x8 x9 x10 x11:AV}(hz:zs.length=n*11)(hn:n<1000) :
  j6 cfg 190 (hB c e I left++[fb,vb,o9 190 11 g zs,t,⟨0,false,190,11,[x1,x2,x3,x4,x5,x6,x7,x8,x9,x10,x11],0⟩]) (.own (e.n+2) g 0 n) (.own (e.n+4) 0 0 1)=some (.own (e.n+2) (g+1) 0 (n+1),hB c e I left++[fb,vb,o9 190 11 (g+1) (zs++[x1,x2,x3,x4,x5,x6,x7,x8,x9,x10,x11]),t,⟨0,false,190,11,[x1,x2,x3,x4,x5,x6,x7,x8,x9,x10,x11],0⟩]):=by
 have hb:(hB c e I left++[fb,vb,o9 190 11 g zs,t,⟨0,false,190,11,[x1,x2,x3,x4,x5,x6,x7,x8,x9,x10,x11],0⟩])[e.n+2]?=some (o9 190 11 g zs):=fC;rw[u9 (C:=cfg) (K:=11) (m:=1) (new:=[x1,x2,x3,x4,x5,x6,x7,x8,x9,x10,x11]) hb rfl (by omega) hz rfl (by omega) t138 rfl (by decide) (by omega),fQ];rfl
theorem UF {vb t u:Blk}{g:Nat}{x1 x2 x3 x4 x5 x6 x7 x8 x9 x10 x11:AV}(hz:zs.length=n*11)(hn:n<1000) :
  j6 cfg 190 (hB c e I left++[fb,vb,o9 190 11 g zs,t,u,⟨0,false,190,11,[x1,x2,x3,x4,x5,x6,x7,x8,x9,x10,x11],0⟩]) (.own (e.n+2) g 0 n) (.own (e.n+5) 0 0 1)=some (.own (e.n+2) (g+1) 0 (n+1),hB c e I left++[fb,vb,o9 190 11 (g+1) (zs++[x1,x2,x3,x4,x5,x6,x7,x8,x9,x10,x11]),t,u,⟨0,false,190,11,[x1,x2,x3,x4,x5,x6,x7,x8,x9,x10,x11],0⟩]):=by
 have hb:(hB c e I left++[fb,vb,o9 190 11 g zs,t,u,⟨0,false,190,11,[x1,x2,x3,x4,x5,x6,x7,x8,x9,x10,x11],0⟩])[e.n+2]?=some (o9 190 11 g zs):=fC;rw[u9 (C:=cfg) (K:=11) (m:=1) (new:=[x1,x2,x3,x4,x5,x6,x7,x8,x9,x10,x11]) hb rfl (by omega) hz rfl (by omega) t138 rfl (by decide) (by omega),fQ];rfl
theorem BI {vb t u v:Blk}{g:Nat}{x1 x2 x3 x4 x5 x6 x7 x8 x9 x10 x11:AV}(hz:zs.length=n*11)(hn:n<1000) :
  j6 cfg 190 (hB c e I left++[fb,vb,o9 190 11 g zs,t,u,v,⟨0,false,190,11,[x1,x2,x3,x4,x5,x6,x7,x8,x9,x10,x11],0⟩]) (.own (e.n+2) g 0 n) (.own (e.n+6) 0 0 1)=some (.own (e.n+2) (g+1) 0 (n+1),hB c e I left++[fb,vb,o9 190 11 (g+1) (zs++[x1,x2,x3,x4,x5,x6,x7,x8,x9,x10,x11]),t,u,v,⟨0,false,190,11,[x1,x2,x3,x4,x5,x6,x7,x8,x9,x10,x11],0⟩]):=by
 have hb:(hB c e I left++[fb,vb,o9 190 11 g zs,t,u,v,⟨0,false,190,11,[x1,x2,x3,x4,x5,x6,x7,x8,x9,x10,x11],0⟩])[e.n+2]?=some (o9 190 11 g zs):=fC;rw[u9 (C:=cfg) (K:=11) (m:=1) (new:=[x1,x2,x3,x4,x5,x6,x7,x8,x9,x10,x11]) hb rfl (by omega) hz rfl (by omega) t138 rfl (by decide) (by omega),fQ];rfl
variable {m:Nat}{cs:List AV}
theorem LS {vb t u s:Blk}{g:Nat}(hz:zs.length=n*11)(hcs:cs.length=m*11)(hn:n<1000)(hm:m<1000) :
  j6 cfg 190 (hB c e I left++[fb,vb,o9 190 11 g zs,t,u,s]) (.own (e.n+2) g 0 n) (.vec m cs)=some (.own (e.n+2) (gO g m) 0 (n+m),hB c e I left++[fb,vb,o9 190 11 (gO g m) (zs++cs),t,u,s]):=by
 have hb:(hB c e I left++[fb,vb,o9 190 11 g zs,t,u,s])[e.n+2]?=some (o9 190 11 g zs):=fC;by_cases h0:m=0
 ·subst h0;obtain rfl:cs=[]:=List.length_eq_zero_iff.1 (by simpa using hcs);have e1:cfg.sz 190=11:=rfl;have e2:(cfg.ti 190).bytes=192:=rfl;have hmx:n≤maxLen:=by
   have:(1000:Nat)≤maxLen:=by decide
   omega
  have hbd:n*192≤140737488355328:=by omega
  simp[j6,rd,lenOf,e1,e2,hb,W7,gO,hmx,hbd]
 ·rw[u9 (C:=cfg) (K:=11) (m:=m) (new:=cs) hb rfl (by omega) hz hcs (by omega) rfl rfl (by decide) (by omega),fQ];simp only[gO,h0,if_false];rfl
theorem UG {vb t u s:Blk}{g:Nat}{y1 y2 y3 y4 y5 y6 y7 y8 y9 y10 y11:AV}(hz:zs.length=n*11)(hcs:cs.length=m*11)(hn:n<900)(hm:m<1000) :
  j6 cfg 190 (hB c e I left++[fb,vb,o9 190 11 g (zs++[y1,y2,y3,y4,y5,y6,y7,y8,y9,y10,y11]),t,u,s]) (.own (e.n+2) g 0 (n+1)) (.vec m cs)=some (.own (e.n+2) (gO g m) 0 (n+1+m),hB c e I left++[fb,vb,o9 190 11 (gO g m) ((zs++[y1,y2,y3,y4,y5,y6,y7,y8,y9,y10,y11])++cs),t,u,s]):=
 LS (by rw[List.length_append,hz];simp;omega) hcs (by omega) hm
theorem UH {vb t u v:Blk}{g:Nat}{y1 y2 y3 y4 y5 y6 y7 y8 y9 y10 y11 x1 x2 x3 x4 x5 x6 x7 x8 x9 x10 x11:AV}(hz:zs.length=n*11)(hcs:cs.length=m*11)(hn:n<400)(hm:m<400) :
  j6 cfg 190 (hB c e I left++[fb,vb,o9 190 11 g (zs++y1::y2::y3::y4::y5::y6::y7::y8::y9::y10::y11::cs),t,u,v,⟨0,false,190,11,[x1,x2,x3,x4,x5,x6,x7,x8,x9,x10,x11],0⟩]) (.own (e.n+2) g 0 (n+1+m)) (.own (e.n+6) 0 0 1)=some (.own (e.n+2) (g+1) 0 (n+1+m+1),hB c e I left++[fb,vb,o9 190 11 (g+1) ((zs++y1::y2::y3::y4::y5::y6::y7::y8::y9::y10::y11::cs)++[x1,x2,x3,x4,x5,x6,x7,x8,x9,x10,x11]),t,u,v,⟨0,false,190,11,[x1,x2,x3,x4,x5,x6,x7,x8,x9,x10,x11],0⟩]):=
 BI (by rw[List.length_append,hz];simp only[List.length_cons,hcs];omega) (by omega)
end
theorem XB {n:Nat}:∀(s:Sl),∀x∈o5 s,Refs n x
 | .nil,x,hx=>by simp[o5]at hx
 | .cons k nm e r as' th el rest,x,hx=>by
  simp only[o5,bN,List.cons_append,List.nil_append,List.mem_cons]at hx;rcases hx with rfl | rfl | rfl | rfl | rfl | rfl | rfl | rfl | rfl | rfl | rfl | hx
  ·exact .int _ _
  ·exact .str _
  ·exact .int _ _
  ·exact .int _ _
  ·exact .str _
  ·exact .vec _ _
  ·exact .str _
  ·exact .vec _ _
  ·exact .vec _ _
  ·exact .vec _ _
  ·exact .vec _ _
  ·exact XB rest x hx
theorem frz_S {n d:Nat}{H:c5}:∀(s:Sl),p6 (lP n H (d+1)) (o5 s)=some (o5 s)
 | .nil=>rfl
 | .cons k nm e r as' th el rest=>by have ih:=frz_S (n:=n) (d:=d) (H:=H) rest;simp only[o5,bN,List.cons_append,List.nil_append,p6,tC,pR,mY,ih]
theorem aV {k:Int}{nm:BA}{x:Ex}{r:Rf}{xs:List Ar}{th el:Sl}{a b c d f:AV}(ha:a=.vec x.args.length (n4 x.args)∨(a=.nils∧x.args=[]))(hb:b=.vec r.idx.length (n4 r.idx)∨(b=.nils∧r.idx=[]))(hc:c=.vec xs.length (bE xs)∨(c=.nils∧xs=[]))
  (hd:d=.vec th.len (o5 th)∨(d=.nils∧th=.nil)) (hf:f=.vec el.len (o5 el)∨(f=.nils∧el=.nil)) :
  oX (o5 (row k nm x r xs th el)) [.int .i64 k,.str nm,.int .i64 x.op,.int .i64 x.num,.str x.name,a,.str r.name,b,c,d,f]:=by
 simp only[row,o5,bN,List.cons_append,List.nil_append];refine ⟨.inl rfl,.inl rfl,.inl rfl,.inl rfl,.inl rfl,?_,.inl rfl,?_,?_,?_,?_,trivial⟩
 ·rcases ha with rfl | ⟨rfl,h⟩
  ·exact .inl rfl
  ·rw[h];exact .inr ⟨rfl,rfl⟩
 ·rcases hb with rfl | ⟨rfl,h⟩
  ·exact .inl rfl
  ·rw[h];exact .inr ⟨rfl,rfl⟩
 ·rcases hc with rfl | ⟨rfl,h⟩
  ·exact .inl rfl
  ·rw[h];exact .inr ⟨rfl,rfl⟩
 ·rcases hd with rfl | ⟨rfl,h⟩
  ·exact .inl rfl
  ·rw[h];exact .inr ⟨rfl,rfl⟩
 ·rcases hf with rfl | ⟨rfl,h⟩
  ·exact .inl rfl
  ·rw[h];exact .inr ⟨rfl,rfl⟩
theorem kO {k:Int}{nm:BA}{x:Ex}{r:Rf}{xs:List Ar}{th el:Sl}:o5 (row k nm x r xs th el)=[.int .i64 k,.str nm,.int .i64 x.op,.int .i64 x.num,.str x.name,.vec x.args.length (n4 x.args),.str r.name,.vec r.idx.length (n4 r.idx),.vec xs.length (bE xs),.vec th.len (o5 th),.vec el.len (o5 el)]:=by simp only[row,o5,bN,List.cons_append,List.nil_append]
theorem wrap8 {n:Int}(h1:0≤n)(h2:n<256):IntKind.wrap .u8 n=n:=by unfold IntKind.wrap;have e1:(2:Int)^IntKind.bits .u8=256:=rfl;have e3:IntKind.signed .u8=false:=rfl;simp only[e1,e3,Bool.false_and,Bool.false_eq_true,if_false];omega
theorem vnm_eq {l:Int}(h0:0≤l)(h1:l<24):(⟨#[118]⟩:BA)++(⟨#[UInt8.ofNat (97+l.tmod 26).toNat,UInt8.ofNat (97+(l.tdiv 26).tmod 26).toNat]⟩:BA)=vnm l.toNat:=by
 obtain ⟨n,rfl⟩:=Int.eq_ofNat_of_zero_le h0;have key:∀n:Fin 24,(⟨#[118]⟩:BA)++(⟨#[UInt8.ofNat (97+((n.1:Nat):Int).tmod 26).toNat,UInt8.ofNat (97+(((n.1:Nat):Int).tdiv 26).tmod 26).toNat]⟩:BA)=vnm n.1:=by decide +kernel
 exact key ⟨n,by omega⟩
theorem tm26 {l:Int}(h0:0≤l):0≤l.tmod 26∧l.tmod 26<26:=⟨Int.tmod_nonneg _ h0,Int.tmod_lt_of_pos _ (by omega)⟩
theorem td26 {l:Int}(h0:0≤l)(h1:l<24):l.tdiv 26=0:=by
 obtain ⟨n,rfl⟩:=Int.eq_ofNat_of_zero_le h0;have key:∀n:Fin 24,(((n.1:Nat):Int).tdiv 26)=0:=by decide
 exact key ⟨n,by omega⟩
end Go.Proofs.YtonbocmibeikmaaGreat
end
