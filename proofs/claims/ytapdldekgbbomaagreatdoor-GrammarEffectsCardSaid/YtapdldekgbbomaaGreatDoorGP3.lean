/- My own texts, put together by a program of mine. -/
import Derived.Test.YtapdldekgbbomaaGreatDoorGP2
set_option linter.unusedSimpArgs false
set_option linter.unusedVariables false
set_option maxRecDepth 100000
set_option maxHeartbeats 4000000
section
namespace Go.Un
open Go.Ab
variable {c:UInt8}
theorem MV (h:isL c=true):isW c=true:=by simp[isW,h]
theorem isW_D (h:isD c=true):isW c=true:=by simp[isW,h]
theorem M1 (h:wD c=true):isW c=false:=by simp only[wD,Bool.or_eq_true,beq_iff_eq]at h;simp only[isW,isL,isD,Bool.or_eq_false_iff,Bool.and_eq_false_iff,decide_eq_false_iff_not];omega
theorem SH (h:isL c=true):isD c=false:=by simp only[isL,Bool.or_eq_true,Bool.and_eq_true,decide_eq_true_eq]at h;simp only[isD,Bool.and_eq_false_iff,decide_eq_false_iff_not];omega
theorem vE (h:c∈ME):wD c=false∧isL c=false∧isD c=false:=by simp only[ME,List.mem_cons,List.not_mem_nil,or_false]at h;rcases h with rfl | rfl | rfl | rfl | rfl | rfl | rfl | rfl | rfl | rfl | rfl | rfl | rfl | rfl | rfl | rfl | rfl<;>decide
theorem vF {d:UInt8}(h:(c,d)∈AT):wD c=false∧isL c=false∧isD c=false:=by simp only[AT,List.mem_cons,List.not_mem_nil,or_false,Prod.mk.injEq]at h;rcases h with ⟨rfl,_⟩ | ⟨rfl,_⟩ | ⟨rfl,_⟩ | ⟨rfl,_⟩ | ⟨rfl,_⟩ | ⟨rfl,_⟩<;>decide
variable {s:Bs}{n:Nat}
theorem LX.sp_inv (h:LX (c::s) n)(hc:wD c=true):LX s n:=by
 have hw:=M1 hc;generalize e:c::s=t at h;cases h with
 | nil=>cases e
 | space _ h=>cases e;exact h
 | word hc' _ _ _ _=>cases e;rw[MV hc']at hw;cases hw
 | num hc' _ _ _ _=>cases e;rw[isW_D hc']at hw;cases hw
 | one hc' _ _=>cases e;rw[(vE hc').1]at hc;cases hc
 | two hc' _=>cases e;rw[(vF hc').1]at hc;cases hc
theorem LX.MW (h:LX (c::s) n)(hc:isL c=true):∃w r m,s=w++r∧(∀d∈w,isW d=true)∧w.length<16∧NW r∧n=m+1∧LX r m:=by
 generalize e:c::s=t at h;cases h with
 | nil=>cases e
 | space hc' h=>cases e;have:=M1 hc';rw[MV hc]at this;cases this
 | word hc' h1 h2 h3 h4=>cases e;exact ⟨_,_,_,rfl,h1,h2,h3,rfl,h4⟩
 | num hc' _ _ _ _=>cases e;rw[SH hc]at hc';cases hc'
 | one hc' _ _=>cases e;rw[(vE hc').2.1]at hc;cases hc
 | two hc' _=>cases e;rw[(vF hc').2.1]at hc;cases hc
theorem LX.num_inv (h:LX (c::s) n)(hc:isD c=true):∃w r m,s=w++r∧(∀d∈w,isD d=true)∧wE (c::w)<9223372036854775808∧NW r∧n=m+1∧LX r m:=by
 generalize e:c::s=t at h;cases h with
 | nil=>cases e
 | space hc' h=>cases e;have:=M1 hc';rw[isW_D hc]at this;cases this
 | word hc' h1 h2 h3 h4=>cases e;rw[SH hc']at hc;cases hc
 | num hc' h1 h2 h3 h4=>cases e;exact ⟨_,_,_,rfl,h1,h2,h3,rfl,h4⟩
 | one hc' _ _=>cases e;rw[(vE hc').2.2]at hc;cases hc
 | two hc' _=>cases e;rw[(vF hc').2.2]at hc;cases hc
theorem LX.F5 (h:LX (c::s) n)(h1:wD c=false)(h2:isL c=false)(h3:isD c=false):(∃d r m,s=d::r∧(c,d)∈AT∧n=m+1∧LX r m)∨(∃m,c∈ME∧(∀d,s.head?=some d→(c,d)∉AT∧(c,d)≠(47,47))∧n=m+1∧LX s m):=by
 generalize e:c::s=t at h;cases h with
 | nil=>cases e
 | space hc' h=>cases e;rw[h1]at hc';cases hc'
 | word hc' _ _ _ _=>cases e;rw[h2]at hc';cases hc'
 | num hc' _ _ _ _=>cases e;rw[h3]at hc';cases hc'
 | one hc' h5 h6=>cases e;exact .inr ⟨_,hc',h5,rfl,h6⟩
 | two hc' h6=>cases e;exact .inl ⟨_,_,_,rfl,hc',rfl,h6⟩
def bat (L:Bs)(i:Nat):UInt8:=L.getD i 0
variable {L:Bs}{i:Nat}
theorem cK (h:i<L.length):L.drop i=bat L i::L.drop (i+1):=by rw[List.drop_eq_getElem_cons h];simp[bat,List.getD,h]
variable {k:Nat}
theorem MX {u v:Bs}(h:L.drop i=u++v)(hk:k<u.length):bat L (i+k)=u.getD k 0:=by
 have:(L.drop i).getD k 0=bat L (i+k):=by simp[bat,List.getD]
 rw[←this,h];simp[List.getD,List.getElem?_append_left hk]
theorem zG {u v:Bs}(h:L.drop i=u++v):L.drop (i+u.length)=v:=by rw[←List.drop_drop,h,List.drop_left]
theorem LX.BD (h:LX (L.drop i) n)(hi:i+1<L.length)(h1:(bat L i).toNat=47)(h2:(bat L (i+1)).toNat=47):False:=by
 have e1:bat L i=47:=UInt8.toNat_inj.1 h1;have e2:bat L (i+1)=47:=UInt8.toNat_inj.1 h2;rw[cK (by omega),e1]at h;rcases h.F5 (by decide) (by decide) (by decide) with ⟨d,r,m,e,hm,_⟩ | ⟨m,_,h5,_⟩
 ·rw[cK hi,e2]at e;cases e;exact absurd hm (by decide)
 ·exact (h5 47 (by rw[cK hi,e2];rfl)).2 rfl
theorem LX.FC (h:LX (L.drop i) n)(hi:i<L.length)(hc:wD (bat L i)=true):LX (L.drop (i+1)) n:=by rw[cK hi]at h;exact h.sp_inv hc
structure Span (L:Bs)(p:UInt8→Bool)(i e:Nat):Prop where
 lt:i<e
 le:e≤L.length
 all:∀j,i≤j→j<e→p (bat L j)=true
 stop:e<L.length→p (bat L e)=false
theorem Span.of {p:UInt8→Bool}{w r:Bs}(hd:L.drop i=c::w++r)(hc:p c=true)(hw:∀d∈w,p d=true)(hr:∀d,r.head?=some d→p d=false):Span L p i (i+(w.length+1)):=by
 have hl:(L.drop i).length=w.length+1+r.length:=by rw[hd];simp;omega
 rw[List.length_drop]at hl;have hrr:L.drop (i+(w.length+1))=r:=by have:=zG (u:=c::w) (v:=r) (by rw[hd]);simpa using this
 refine ⟨by omega,by omega,fun j h1 h2=>?_,fun h=>?_⟩
 ·obtain ⟨k,rfl⟩:∃k,j=i+k:=⟨j-i,by omega⟩;rw[MX (u:=c::w) (v:=r) hd t81];cases k with
  | zero=>exact hc
  | succ k=>
   have hk:k<w.length:=by omega
   have:(c::w).getD (k+1) 0=w[k]:=by simp[List.getD,hk]
   rw[this];exact hw _ (List.getElem_mem hk)
 ·refine hr _ ?_;rw[←hrr,cK h];rfl
theorem LX.FD (h:LX (L.drop i) n)(hi:i<L.length)(hc:isL (bat L i)=true):∃e m,Span L isW i e∧e≤i+16∧n=m+1∧LX (L.drop e) m:=by
 rw[cK hi]at h;obtain ⟨w,r,m,e,h1,h2,h3,rfl,h4⟩:=h.MW hc;have hd:L.drop i=bat L i::w++r:=by rw[cK hi,e];rfl
 refine ⟨_,m,Span.of hd (MV hc) h1 h3,by omega,rfl,?_⟩;have:=zG (u:=bat L i::w) (v:=r) (by rw[hd]);rw[List.length_cons]at this;rw[this];exact h4
theorem LX.MY (h:LX (L.drop i) n)(hi:i<L.length)(hc:isD (bat L i)=true):∃e m,Span L isD i e∧wE ((L.drop i).take (e-i))<9223372036854775808∧n=m+1∧LX (L.drop e) m:=by
 rw[cK hi]at h;obtain ⟨w,r,m,e,h1,h2,h3,rfl,h4⟩:=h.num_inv hc;have hd:L.drop i=bat L i::w++r:=by rw[cK hi,e];rfl
 refine ⟨_,m,Span.of hd hc h1 fun d hd=>?_,?_,rfl,?_⟩
 ·have:=h3 d hd;simp only[isW,Bool.or_eq_false_iff]at this;exact this.2
 ·rw[show i+(w.length+1)-i=(bat L i::w).length from by simp,hd,List.take_left];exact h2
 ·have:=zG (u:=bat L i::w) (v:=r) (by rw[hd]);rw[List.length_cons]at this;rw[this];exact h4
def sgn (L:Bs)(i:Nat):Nat:=if i+1<L.length∧(bat L i,bat L (i+1))∈AT then 2 else if bat L i∈ME then 1 else 0
theorem LX.FE (h:LX (L.drop i) n)(hi:i<L.length)(h1:wD (bat L i)=false)(h2:isL (bat L i)=false)(h3:isD (bat L i)=false):0<sgn L i∧i+sgn L i≤L.length∧∃m,n=m+1∧LX (L.drop (i+sgn L i)) m:=by
 rw[cK hi]at h;rcases h.F5 h1 h2 h3 with ⟨d,r,m,e,hm,rfl,h4⟩ | ⟨m,hm,h5,rfl,h4⟩
 ·have hl:(L.drop (i+1)).length=r.length+1:=by rw[e];rfl
  rw[List.length_drop]at hl;have hd:bat L (i+1)=d:=by rw[cK (by omega)]at e;injection e
  have hr:L.drop (i+2)=r:=by rw[cK (by omega)]at e;injection e
  rw[sgn,if_pos ⟨by omega,by rw[hd];exact hm⟩];exact ⟨by omega,by omega,m,rfl,by rw[hr];exact h4⟩
 ·rw[sgn,if_neg (fun hx=>(h5 (bat L (i+1)) (by rw[cK hx.1];rfl)).1 hx.2),if_pos hm];exact ⟨by omega,by omega,m,rfl,h4⟩
variable {l:Bs}
theorem F6 (h:k<l.length):wE (l.take (k+1))=10*wE (l.take k)+((bat l k).toNat-48):=by rw[List.take_succ_eq_append_getElem h,E8];simp[bat,List.getD,h]
theorem FF:∀{k m:Nat},k≤m→wE (l.take k)≤wE (l.take m):=by
 intro k m hm;induction hm with
 | refl=>exact Nat.le_refl _
 | @step m _ ih=>
  by_cases h:m<l.length
  ·rw[F6 h];omega
  ·rw[List.take_of_length_le (i:=m+1) (by omega)];rw[List.take_of_length_le (i:=m) (by omega)]at ih;exact ih
def tN (l:Bs):List AV:=l.map fun c=>.int .u8 (c.toNat:Int)
theorem nS (l:Bs):(tN l).length=l.length:=List.length_map _
theorem read_b (h:i<l.length):List.take 1 (List.drop i (tN l))=[AV.int .u8 ((bat l i).toNat:Int)]:=by unfold tN;rw[←List.map_drop,←List.map_take,List.drop_eq_getElem_cons h,List.take_succ_cons,List.take_zero];simp[bat,List.getD,h]
theorem SI:List.take k (List.drop i (tN l))=tN ((l.drop i).take k):=by unfold tN;rw[List.map_take,List.map_drop]
theorem M3:∀l:Bs,jM (tN l)=some l
 | []=>rfl
 | c::l=>by show (jM (tN l)).map _=_;rw[M3 l];simp
end Go.Un
end
section
namespace Go.Proofs.YtapdldekgbbomaaGreatDoor
open Go.Ab Go.Un
theorem BE {n:Int}(h1:0≤n)(h2:n<256):IntKind.wrap .u8 n=n:=by rw[IntKind.wrap_u8];omega
theorem F7 {f:FuncId}{args:List AV}{s:AV}(ha:args.all (aA 0 9)=true)(r:l6 Tryz.prog cfg f args [] fun y _=>VB y=s)(h:c8):l6 Tryz.prog cfg f args h fun y h'=>y=s∧h'=h:=by intro B φ w cargs i hs hr;have hst:∀k,k<w.heap.size→J2 [] φ w k:=fun k hk=>⟨hk,fun β b hb=>by simp at hb⟩;have i0:Pic cfg.eK w.heap.size [] φ w:=⟨fun β b hb=>by simp at hb,fun β β' b b' hb=>by simp at hb,fun β b hb=>by simp at hb,fun β b hb=>by simp at hb,Nat.le_refl _,fun g=>(i.eK g).mono fun k j hk=>⟨rfl,(hst k hk.1).P6 j⟩⟩;refine (r w.heap.size φ w cargs i0 hs (fun j v x h1 h2=>DT (hr j v x h1 h2) (dL 9 x (List.all_eq_true.1 ha x (List.mem_of_getElem? h2))))).mono fun e w' hp=>?_;obtain ⟨v,y,h',φ',rfl,h1,h2,h3,hq⟩:=hp;have hk:∀k,k<w.heap.size→w'.heap[k]?=w.heap[k]?:=fun k hk=>(h2.fJ k (hst k hk)).1;have ev:Ev h φ w h φ w':=⟨h2.os,h2.tape,h2.output,h2.size,fun k hs=>⟨hk k hs.1,Nat.lt_of_lt_of_le hs.1 h2.size,hs.2⟩,fun k j hs=>⟨World.cell?_of_block (hk k hs.1),Nat.lt_of_lt_of_le hs.1 h2.size,hs.2⟩,Nat.le_refl _,fun β b b' e1 e2=>by rw[e1]at e2;cases e2;exact ⟨Nat.le_refl _,fun _=>⟨rfl,rfl,rfl⟩⟩⟩;refine ⟨v,_,h,φ,rfl,⟨fun β b hb hv=>?_,i.inj,i.base,i.cL,Nat.le_trans i.room h2.size,fun g=>ev.B6 (i.eK g)⟩,ev,yN h3,hq,rfl⟩;obtain ⟨cur,q1,q2,q3,q4⟩:=i.blk β b hb hv;exact ⟨cur,(hk _ (Array.getElem?_eq_some_iff.1 q1).1).trans q1,q2,q3,fun j v x a d=>⟨(q4 j v x a d).1,ev.rel (q4 j v x a d).2⟩⟩
def hasB (l:List BA)(s:BA):Bool:=l.any fun x=>x.toList==s.toList
variable {l:List BA}{s:BA}{i:Nat}
theorem has_t (hi:i<l.length)(h:((l.getD i ByteArray.empty).toList==s.toList)=true):hasB l s=true:=List.any_eq_true.2 ⟨_,j7 hi,h⟩
theorem has_f (hi:l.length≤i)(h:∀d,d<i→((l.getD d ByteArray.empty).toList==s.toList)=false):hasB l s=false:=by refine List.any_eq_false.2 fun x hx=>?_;obtain ⟨d,h1,rfl⟩:=cJ (d:=ByteArray.empty) hx;rw[h d (by omega)];decide
theorem MZ (h:∀d,d<i→((l.getD d ByteArray.empty).toList==s.toList)=false)(e:((l.getD i ByteArray.empty).toList==s.toList)=false):∀d,d<i+1→((l.getD d ByteArray.empty).toList==s.toList)=false:=fun d hd=>by
  by_cases hdi:d=i
  · rw[hdi];exact e
  · exact h d (by omega)
def SJ:List BA:=[⟨#[118,97,114]⟩,⟨#[109,117,116,101,120]⟩,⟨#[114,109,117,116,101,120]⟩,⟨#[102,117,110,99]⟩,⟨#[108,111,99,107]⟩,⟨#[117,110,108,111,99,107]⟩,⟨#[103,111]⟩,⟨#[105,102]⟩,⟨#[101,108,115,101]⟩,⟨#[119,104,105,108,101]⟩,⟨#[114,101,116,117,114,110]⟩]
def twoN:List BA:=[⟨#[60,61]⟩,⟨#[62,61]⟩,⟨#[61,61]⟩,⟨#[33,61]⟩,⟨#[38,38]⟩,⟨#[124,124]⟩]
def Fz:List BA:=[⟨#[40]⟩,⟨#[41]⟩,⟨#[123]⟩,⟨#[125]⟩,⟨#[91]⟩,⟨#[93]⟩,⟨#[44]⟩,⟨#[59]⟩,⟨#[61]⟩,⟨#[43]⟩,⟨#[45]⟩,⟨#[42]⟩,⟨#[47]⟩,⟨#[37]⟩,⟨#[60]⟩,⟨#[62]⟩,⟨#[33]⟩]
def tP (s:BA):Bool:=hasB SJ s
variable {a:UInt8}
theorem eq2 {x y b:UInt8}:((⟨#[x,y]⟩:BA).toList==(⟨[a,b].toArray⟩:BA).toList)=(decide (a=x)&&decide (b=y)):=by rw[ByteArray.toList_eq,ByteArray.toList_eq];show ([x,y]==[a,b])=_;rw[Bool.eq_iff_iff];simp only[beq_iff_eq,List.cons.injEq,and_true,Bool.and_eq_true,decide_eq_true_eq];exact and_congr eq_comm eq_comm
theorem eq1 {x:UInt8}:((⟨#[x]⟩:BA).toList==(⟨[a].toArray⟩:BA).toList)=decide (a=x):=by rw[ByteArray.toList_eq,ByteArray.toList_eq];show ([x]==[a])=_;rw[Bool.eq_iff_iff];simp only[beq_iff_eq,List.cons.injEq,and_true,decide_eq_true_eq];exact eq_comm
theorem lM {b:UInt8}:hasB twoN ⟨[a,b].toArray⟩=decide ((a,b)∈AT):=by simp only[hasB,twoN,AT,List.any_cons,List.any_nil,eq2,Bool.or_false,List.mem_cons,List.not_mem_nil,or_false,Prod.mk.injEq,Bool.decide_or,Bool.decide_and]
theorem lN:hasB Fz ⟨[a].toArray⟩=decide (a∈ME):=by simp only[hasB,Fz,ME,List.any_cons,List.any_nil,eq1,Bool.or_false,List.mem_cons,List.not_mem_nil,or_false,Bool.decide_or]
variable {L:Bs}
theorem Q5 (h:i+1<L.length):(L.drop i).take 2=[bat L i,bat L (i+1)]:=by rw[cK (by omega),cK h];rfl
theorem take_one (h:i<L.length):(L.drop i).take 1=[bat L i]:=by rw[cK h];rfl
theorem str_at (h:i<s.size):s[i]?=some (bat (L8 s) i):=by
  rw[lH]at h;have:s[i]?=s.data.toList[i]?:=by rw[Array.getElem?_toList];rfl
  rw[this];have h2:i<s.data.toList.length:=h;rw[List.getElem?_eq_getElem h2];simp only[bat,L8,List.getD,List.getElem?_eq_getElem h2,Option.getD_some]
theorem name_at (h:isName (L8 s))(hi:i<s.size):isW (bat (L8 s) i)=true∧(i=0→isL (bat (L8 s) i)=true):=by
  obtain ⟨c,w,e,h1,h2,h3⟩:=h;rw[lH,e]at hi;rw[e];cases i with
  | zero=>exact ⟨MV h1,fun _=>h1⟩
  | succ i=>
    have hi':i<w.length:=by simpa using hi
    refine ⟨?_,fun h=>by omega⟩;have:bat (c::w) (i+1)=w[i]:=by simp[bat,List.getD,hi']
    rw[this];exact h2 _ (List.getElem_mem hi')
theorem fC (h:isName (L8 s)):1≤s.size∧s.size≤16:=by refine ⟨?_,aG h⟩;obtain ⟨c,w,e,_⟩:=h;rw[lH,e];simp
def skF (L:Bs):Nat→Nat→Nat
  | 0,i=>i
  | f+1,i=>if i<L.length∧wD (bat L i)=true then skF L f (i+1) else i
def sk (L:Bs)(i:Nat):Nat:=skF L (L.length-i) i
theorem vG (h:i<L.length)(hs:wD (bat L i)=true):sk L i=sk L (i+1):=by unfold sk;obtain ⟨f,hf⟩:∃f,L.length-i=f+1:=⟨L.length-i-1,by omega⟩;rw[hf,skF,if_pos ⟨h,hs⟩,show L.length-(i+1)=f from by omega]
theorem FG (h:¬(i<L.length∧wD (bat L i)=true)):sk L i=i:=by
  unfold sk;cases hf:L.length-i with
  | zero=>rfl
  | succ f=>rw[skF,if_neg h]
theorem SK (h:L.length≤i):sk L i=i:=FG fun h'=>by omega
theorem FH (h:wD (bat L i)=false):sk L i=i:=FG fun h'=>by rw[h]at h';cases h'.2
theorem zH {L:Bs}:∀{f i n:Nat},L.length-i=f→LX (L.drop i) n→i≤L.length→i≤sk L i∧sk L i≤L.length∧LX (L.drop (sk L i)) n∧(sk L i<L.length→wD (bat L (sk L i))=false)
  | 0,i,n,hf,h,hi=>by rw[SK (by omega)];exact ⟨Nat.le_refl _,hi,h,fun h=>by omega⟩
  | f+1,i,n,hf,h,hi=>by
    by_cases hs:wD (bat L i)=true
    · rw[vG (by omega) hs]
      obtain ⟨a,b,c,d⟩:=zH (f:=f) (i:=i+1) (by omega) (h.FC (by omega) hs) (by omega);exact ⟨by omega,b,c,d⟩
    · rw[FH (by simpa using hs)]
      exact ⟨Nat.le_refl _,hi,h,fun _=>by simpa using hs⟩
variable {c:UInt8}
theorem F8 (h:(c.toNat:Int)=32∨(c.toNat:Int)=9∨(c.toNat:Int)=10∨(c.toNat:Int)=13):wD c=true:=by simp only[wD,Bool.or_eq_true,beq_iff_eq];omega
theorem nosp_of (h1:¬(c.toNat:Int)=32)(h2:¬(c.toNat:Int)=9)(h3:¬(c.toNat:Int)=10)(h4:¬(c.toNat:Int)=13):wD c=false:=by simp only[wD,Bool.or_eq_false_iff,beq_eq_false_iff_ne,ne_eq];omega
variable {e:Nat}
theorem M4 {p:UInt8→Bool}{j:Nat}(h:Span L p i e)(h2:j≤e)(hj:j<L.length)(hp:p (bat L j)=true):j<e:=by
  by_cases he:j=e
  · subst he
    rw[h.stop hj]at hp;cases hp
  · omega
theorem tQ {p:UInt8→Bool}{j:Nat}(h:Span L p i e)(h1:i≤j)(h2:j≤e)(hp:j<L.length→p (bat L j)=false):j=e:=by
  by_cases he:j<e
  · have:=h.le
    rw[h.all j h1 he]at hp;cases hp (by omega)
  · omega
theorem valD_nn {l:Bs}(h:i<l.length)(hd:∀d∈l,isD d=true):48≤(bat l i).toNat∧(bat l i).toNat≤57:=by have:=hd (bat l i) (j7 h);simpa only[isD,Bool.and_eq_true,decide_eq_true_eq] using this
theorem tn2:((i:Int)+2).toNat=i+2:=by omega
theorem tn1:((i:Int)+1).toNat=i+1:=by omega
theorem SL:tN [c]=[.int .u8 ((c.toNat:Nat):Int)]:=rfl
theorem takeL {k:Nat}(h:i+k≤L.length):(List.take k (List.drop i L)).length=k:=by rw[List.length_take,List.length_drop];omega
variable {H:c8}{n:Nat}
theorem SM {k:Nat}{cs:List AV}:rd H k (.vec n cs)=some cs:=rfl
theorem spanD (h:Span L isD i e):∀d∈(L.drop i).take (e-i),isD d=true:=by
  intro d hd;obtain ⟨j,hj,rfl⟩:=List.mem_iff_getElem.1 hd;have hj2:j<e-i:=by rw[List.length_take]at hj;omega
  have hle:=h.le;have:=h.all (i+j) (by omega) (by omega);have e2:((L.drop i).take (e-i))[j]=bat L (i+j):=by rw[List.getElem_take,List.getElem_drop];simp[bat,List.getD,show i+j<L.length by omega]
  rw[e2];exact this
attribute [local go_sem] nS aS Int.natCast_nonneg Int.natCast_inj List.length_map wrap64 BE read_b sE tn1 tn2 str_at
variable {h:c8}
theorem zI (c:UInt8):CB 90 [.int .u8 ((c.toNat:Nat):Int)] h (.bool (isL c)):=by
  refine .bz Tryz.f90 21 ?_;refine .z ?_;refine c17z ?_;refine .spl 5 rfl rfl (fun e1=>?_) (fun e1=>?_)
  ·try simp only[e1]
   have qe1:=fact e1;refine .k 4 [(2,5)] ?_;refine .spl 9 rfl rfl (fun e2=>?_) (fun e2=>?_)
   ·try simp only[e2]
    have qe2:=fact e2;refine .k 8 [(6,9),(9,12)] ?_;refine c240z ?_;exact ⟨[],_,(List.append_nil _).symm,t67,t56⟩
   try simp only[e2]
   have qe2:=fact e2;refine .k 3 [(6,9)] ?_;refine .spl 12 rfl rfl (fun e3=>?_) (fun e3=>?_)
   ·try simp only[e3]
    have qe3:=fact e3;refine .k 5 [(6,9),(9,12)] ?_;refine .spl 17 rfl rfl (fun e4=>?_) (fun e4=>?_)
    ·try simp only[e4]
     have qe4:=fact e4;refine c240z ?_;exact ⟨[],_,(List.append_nil _).symm,t67,t56⟩
    try simp only[e4]
    have qe4:=fact e4;refine c240z ?_;exact ⟨[],_,(List.append_nil _).symm,t67,t56⟩
   try simp only[e3]
   have qe3:=fact e3;refine .k 8 [(6,9),(9,12),(14,17)] ?_;refine c235z ?_;exact ⟨[],_,(List.append_nil _).symm,t67,t56⟩
  try simp only[e1]
  have qe1:=fact e1;refine .k 7 [(2,5),(6,9)] ?_;refine .spl 12 rfl rfl (fun e5=>?_) (fun e5=>?_)
  ·try simp only[e5]
   have qe5:=fact e5;refine .k 5 [(6,9),(9,12)] ?_;refine .spl 17 rfl rfl (fun e6=>?_) (fun e6=>?_)
   ·try simp only[e6]
    have qe6:=fact e6;refine c240z ?_;exact ⟨[],_,(List.append_nil _).symm,t67,t56⟩
   try simp only[e6]
   have qe6:=fact e6;refine c240z ?_;exact ⟨[],_,(List.append_nil _).symm,t67,t56⟩
  try simp only[e5]
  have qe5:=fact e5;refine .k 8 [(6,9),(9,12),(14,17)] ?_;refine c235z ?_;exact ⟨[],_,(List.append_nil _).symm,t67,t56⟩
theorem zJ (c:UInt8):CB 91 [.int .u8 ((c.toNat:Nat):Int)] h (.bool (isD c)):=by
  refine .bz Tryz.f91 9 ?_;refine .z ?_;refine c17z ?_;refine .spl 5 rfl rfl (fun e1=>?_) (fun e1=>?_)
  ·try simp only[e1]
   have qe1:=fact e1;refine .m [(2,5)] ?_;refine c3z ?_;exact ⟨[],_,(List.append_nil _).symm,t67,t156⟩
  try simp only[e1]
  have qe1:=fact e1;refine .m [(2,5)] ?_;refine c3z ?_;exact ⟨[],_,(List.append_nil _).symm,t67,t156⟩
section
attribute [local go_sem] mQ
theorem c_has (l:List BA)(s:BA)(hl:l.length<1000):CB 110 [.vec l.length (aQ l),.str s] h (.bool (hasB l s)):=by
  refine .bz Tryz.f110 18 ?_;refine c26z ?_;refine .jZ (fun m st=>∃(i:Nat),(m=l.length-i∧(∀d,d<i→((l.getD d ByteArray.empty).toList==s.toList)=false)∧i≤l.length)∧st=⟨mkS 18 [(0,AV.vec l.length (aQ l)),(1,AV.str s),(5,AV.int .i64 ((i:Nat):Int))],h⟩) _ (.v ⟨0,⟨rfl,t106,by omega⟩,rfl⟩) ?_;rintro m sl h' ⟨i,⟨hm,hI,hi⟩,hst⟩;obtain ⟨rfl,rfl⟩:=St.mk.inj hst;refine c1z ?_;refine u2z ?_ ?_
  ·intro e1 qe1;refine c207z ?_;refine u2z ?_ ?_
   ·intro e2 qe2;refine c228z ?_;exact ⟨[],_,(List.append_nil _).symm,t67,t164⟩
   intro e2 qe2;refine c8z ?_;refine c172z ?_;exact ⟨_,by omega,.v ⟨(i+1),⟨rfl,MZ hI (by assumption),by omega⟩,rfl⟩⟩
  intro e1 qe1;refine c173z ?_;exact ⟨[],_,(List.append_nil _).symm,t67,t164⟩
end
theorem frz_n {d:Nat}:s5 (mC n H (d+1)) (aQ l)=some (aQ l):=(aO.map (fun _=>.str):aO (aQ l)).frz _ _ _
variable {g:Nat}
theorem U2 {β:Nat}(l:List BA)(s:BA)(hb:H[β]?=some ⟨g,false,9,1,aQ l,0⟩)(hl:l.length<1000):l6 Tryz.prog cfg 110 [.own β g 0 l.length,.str s] H (fun y h'=>y=.bool (hasB l s)∧h'=H):=by
  have e:LU 0 H (.own β g 0 l.length)=some (.vec l.length (aQ l)):=by show mC 0 H 6 (.own β g 0 l.length)=_;rw[gQ,hb];simp only[Nat.zero_le,and_self,if_true,Bool.false_eq_true,if_false,Nat.zero_add,Nat.mul_one,aS,Nat.le_refl,List.drop_zero];rw[List.take_of_length_le t195,frz_n]
  have ha:KB 0 H [.vec l.length (aQ l),.str s] [.own β g 0 l.length,.str s]:=And.intro (.inr e) (And.intro (.inr rfl) trivial);exact l6.borrow ha ((c_has l s hl).mono fun _ _ h=>h.1)
theorem c_res0 (s:BA):CB 92 [.str s] [] (.bool (tP s)):=by refine .bz Tryz.f92 6 ?_;refine .z ?_;refine c39z ?_;refine .ca rfl rfl (U2 SJ s rfl (by decide)) ?_;refine .n ?_;exact .ret (.ex (hq:=by rfl))
theorem WN (s:BA):l6 Tryz.prog cfg 92 [.str s] h (fun y h'=>y=.bool (tP s)∧h'=h):=F7 rfl ((c_res0 s).mono fun _ _ h=>by rw[h.1];rfl) h
theorem c_resF (hr:tP s=false):l6 Tryz.prog cfg 92 [.str s] h (fun y h'=>y=.bool false∧h'=h):=by rw[←hr];exact WN s
theorem nB (s:BA)(hs:isName (L8 s))(hr:tP s=false):CB 67 [.str s] h (.bool true):=by
  refine .bz Tryz.f67 39 ?_;have hsz:=fC hs;refine c26z ?_;refine .jZ (fun m st=>∃(i:Nat),(m=s.size-i∧i≤s.size)∧st=⟨mkS 39 [(0,AV.str s),(3,AV.int .i64 ((i:Nat):Int))],h⟩) _ (.v ⟨0,⟨rfl,by omega⟩,rfl⟩) ?_;rintro m sl h' ⟨i,⟨hm,hi⟩,hst⟩;obtain ⟨rfl,rfl⟩:=St.mk.inj hst;refine c1z ?_;refine u2z ?_ ?_
  ·intro e1 qe1;refine c9z ?_;have hna:=name_at hs (i:=i) (by omega);refine c17z ?_;refine .ca rfl rfl (zI _) ?_;refine .e 2 ?_;refine .spl 15 rfl rfl (fun e2=>?_) (fun e2=>?_)
   ·try simp only[e2]
    have qe2:=fact e2;refine .k 3 [(5,15)] ?_;refine .spl 18 rfl rfl (fun e3=>?_) (fun e3=>?_)
    ·try simp only[e3]
     have qe3:=fact e3;refine .m [(5,15),(8,18)] ?_;refine c46z ?_;refine c3z ?_;exact ⟨[],_,(List.append_nil _).symm,t67,t116⟩
    try simp only[e3]
    have qe3:=fact e3;refine .k 3 [(8,18)] ?_;refine .ca rfl rfl (zJ _) ?_;refine .m [(5,15),(8,18)] ?_;refine u2z ?_ ?_
    ·intro e4 qe4;refine c228z ?_;exact ⟨[],_,(List.append_nil _).symm,t67,t116⟩
    intro e4 qe4;refine c8z ?_;refine .c7 [0,3] ?_;refine .rz ?_;exact ⟨_,by omega,.v ⟨(i+1),⟨rfl,by omega⟩,rfl⟩⟩
   try simp only[e2]
   have qe2:=fact e2;refine .k 8 [(5,15),(8,18)] ?_;refine .m [(5,15)] ?_;refine c47z ?_;refine .c7 [0,3] ?_;refine .rz ?_;exact ⟨_,by omega,.v ⟨(i+1),⟨rfl,by omega⟩,rfl⟩⟩
  intro e1 qe1;refine c10z ?_;refine c28z ?_;refine .spl 29 rfl rfl (fun e5=>?_) (fun e5=>by exfalso;simp only[decide_eq_false_iff_not]at e5;omega);try simp only[e5]
  have qe5:=fact e5;refine .k 5 [(3,29)] ?_;refine .spl 34 rfl rfl (fun e6=>?_) (fun e6=>by exfalso;simp only[decide_eq_false_iff_not]at e6;omega);try simp only[e6]
  have qe6:=fact e6;refine .k 1 [(8,34)] ?_;refine .ca rfl rfl (c_resF hr) ?_;refine .m [(8,34)] ?_;refine c3z ?_;exact ⟨[],_,(List.append_nil _).symm,t67,t116⟩
theorem SN (L:Bs)(i n:Nat)(hx:LX (L.drop i) n)(hi:i≤L.length)(hl:L.length<1000000):CB 97 [.vec L.length (tN L),.int .i64 (i:Int)] h (.int .i64 ((sk L i:Nat):Int)):=by
  refine .bz Tryz.f97 74 ?_;refine .z ?_;refine .sb ?_;refine .jZ (fun m st=>∃(j:Nat),(m=L.length-j∧(LX (L.drop j) n∧j≤L.length∧sk L j=sk L i))∧st=⟨mkS 74 [(0,AV.vec L.length (tN L)),(1,AV.int .i64 ((j:Nat):Int))],h⟩) _ (.v ⟨i,⟨rfl,⟨hx,hi,rfl⟩⟩,rfl⟩) ?_;rintro m sl h' ⟨j,⟨hm,⟨hX,hj,hk⟩⟩,hst⟩;obtain ⟨rfl,rfl⟩:=St.mk.inj hst;refine c1z ?_;refine u2z ?_ ?_
  ·intro e1 qe1;refine .sk ?_;refine .block ?_;refine .block ?_;refine c126z ?_;refine .spl 16 rfl rfl (fun e2=>?_) (fun e2=>?_)
   ·try simp only[e2]
    have qe2:=fact e2;refine .k 8 [(5,16),(12,23)] ?_;refine .k 8 [(12,23),(19,30)] ?_;refine .m [(19,30)] ?_;refine .T ?_;refine .c7 [0,1] ?_;refine .rz ?_;exact ⟨_,by omega,.v ⟨(j+1),⟨rfl,⟨hX.FC (by omega) (F8 (by omega)),by omega,(vG (by omega) (F8 (by omega))).symm.trans hk⟩⟩,rfl⟩⟩
   try simp only[e2]
   have qe2:=fact e2;refine .k 7 [(5,16)] ?_;refine .spl 23 rfl rfl (fun e3=>?_) (fun e3=>?_)
   ·try simp only[e3]
    have qe3:=fact e3;refine .k 8 [(12,23),(19,30)] ?_;refine .m [(19,30)] ?_;refine .T ?_;refine .c7 [0,1] ?_;refine .rz ?_;exact ⟨_,by omega,.v ⟨(j+1),⟨rfl,⟨hX.FC (by omega) (F8 (by omega)),by omega,(vG (by omega) (F8 (by omega))).symm.trans hk⟩⟩,rfl⟩⟩
   try simp only[e3]
   have qe3:=fact e3;refine .k 7 [(12,23)] ?_;refine .spl 30 rfl rfl (fun e4=>?_) (fun e4=>?_)
   ·try simp only[e4]
    have qe4:=fact e4;refine .m [(19,30)] ?_;refine .T ?_;refine .c7 [0,1] ?_;refine .rz ?_;exact ⟨_,by omega,.v ⟨(j+1),⟨rfl,⟨hX.FC (by omega) (F8 (by omega)),by omega,(vG (by omega) (F8 (by omega))).symm.trans hk⟩⟩,rfl⟩⟩
   try simp only[e4]
   have qe4:=fact e4;refine .m [(19,30)] ?_;refine u2z ?_ ?_
   ·intro e5 qe5;refine .c7 [0,1] ?_;refine .rz ?_;exact ⟨_,by omega,.v ⟨(j+1),⟨rfl,⟨hX.FC (by omega) (F8 (by omega)),by omega,(vG (by omega) (F8 (by omega))).symm.trans hk⟩⟩,rfl⟩⟩
   intro e5 qe5;refine .c7 [0,1] ?_;refine c126z ?_;refine .spl 45 rfl rfl (fun e6=>?_) (fun e6=>?_)
   ·try simp only[e6]
    have qe6:=fact e6;refine .k 7 [(5,45)] ?_;refine .spl 52 rfl rfl (fun e7=>?_) (fun e7=>?_)
    ·try simp only[e7]
     have qe7:=fact e7;refine .m [(12,52)] ?_;refine .spl 39 rfl rfl (fun e8=>by exfalso;simp only[beq_iff_eq]at *;exact hX.BD (by omega) (by omega) (by omega)) (fun e8=>?_);try simp only[e8]
     have qe8:=fact e8;refine .F ?_;refine .c7 [1] ?_;refine c15z ?_;exact ⟨[],_,(List.append_nil _).symm,t67,t101⟩
    try simp only[e7]
    have qe7:=fact e7;refine .m [(12,52)] ?_;refine .F ?_;refine .c7 [1] ?_;refine c15z ?_;exact ⟨[],_,(List.append_nil _).symm,t67,t101⟩
   try simp only[e6]
   have qe6:=fact e6;refine .k 8 [(5,45),(12,52)] ?_;refine .m [(12,52)] ?_;refine .F ?_;refine .c7 [1] ?_;refine c15z ?_;exact ⟨[],_,(List.append_nil _).symm,t67,t101⟩
  intro e1 qe1;refine .exit ?_;have hje:j=L.length:=by omega
  change g7 ..;refine c15z ?_;exact ⟨[],_,(List.append_nil _).symm,t67,t101⟩
theorem fill6L:(twoN).length=6:=rfl
theorem fill6M:(6≤maxLen)=True:=by simp;decide
theorem fill17L:(Fz).length=17:=rfl
theorem fill17M:(17≤maxLen)=True:=by simp;decide
section
attribute [local go_sem] rX eB Option.bind_eq_bind SI SL SM takeL M3 Nat.add_sub_cancel_left Q5 take_one lM lN fill6L fill6M fill17L fill17M
theorem c_sign0 (L:Bs)(i:Nat)(hi:i<L.length)(hl:L.length<1000000):CB 99 [.vec L.length (tN L),.int .i64 (i:Int)] [] (.int .i64 ((sgn L i:Nat):Int)):=by
  refine .bz Tryz.f99 28 ?_;refine c20z ?_;refine c126z ?_;refine .spl 10 rfl rfl (fun e1=>?_) (fun e1=>?_)
  ·try simp only[e1]
   have qe1:=fact e1;try simp only[lN,lM,decide_eq_true_eq,decide_eq_false_iff_not]at qe1
   refine .k 7 [(5,10)] ?_;refine .ca rfl rfl (U2 twoN _ rfl (by decide)) ?_;refine .n ?_;refine .spl 19 rfl rfl (fun e2=>?_) (fun e2=>?_)
   ·try simp only[e2]
    have qe2:=fact e2;try simp only[lN,lM,decide_eq_true_eq,decide_eq_false_iff_not]at qe2
    refine c46z ?_;exact .ret (.ex (hq:=t38))
   try simp only[e2]
   have qe2:=fact e2;try simp only[lN,lM,decide_eq_true_eq,decide_eq_false_iff_not]at qe2
   refine c14z ?_;refine .seq ?_;refine .c7 [0,1] ?_;refine .s ?_;refine .e 7 ?_;refine .ca rfl rfl (U2 Fz _ (by first | rfl | simp) (by decide)) ?_;refine .nil ?_;refine .spl 27 rfl rfl (fun e3=>?_) (fun e3=>?_)
   ·try simp only[e3]
    have qe3:=fact e3;try simp only[lN,lM,decide_eq_true_eq,decide_eq_false_iff_not]at qe3
    refine c46z ?_;exact .ret (.ex (hq:=t38))
   try simp only[e3]
   have qe3:=fact e3;try simp only[lN,lM,decide_eq_true_eq,decide_eq_false_iff_not]at qe3
   refine c14z ?_;refine c4z ?_;exact .ret (.ex (hq:=t38))
  try simp only[e1]
  have qe1:=fact e1;try simp only[lN,lM,decide_eq_true_eq,decide_eq_false_iff_not]at qe1
  refine .k 8 [(5,10)] ?_;refine .n ?_;refine c14z ?_;refine .seq ?_;refine .c7 [0,1] ?_;refine .s ?_;refine .e 7 ?_;refine .ca rfl rfl (U2 Fz _ (by first | rfl | simp) (by decide)) ?_;refine .nil ?_;refine .spl 27 rfl rfl (fun e4=>?_) (fun e4=>?_)
  ·try simp only[e4]
   have qe4:=fact e4;try simp only[lN,lM,decide_eq_true_eq,decide_eq_false_iff_not]at qe4
   refine c46z ?_;exact .ret (.ex (hq:=t38))
  try simp only[e4]
  have qe4:=fact e4;try simp only[lN,lM,decide_eq_true_eq,decide_eq_false_iff_not]at qe4
  refine c14z ?_;refine c4z ?_;exact .ret (.ex (hq:=t38))
end
theorem c_sign (L:Bs)(i:Nat)(hi:i<L.length)(hl:L.length<1000000):l6 Tryz.prog cfg 99 [.vec L.length (tN L),.int .i64 (i:Int)] h (fun y h'=>y=.int .i64 ((sgn L i:Nat):Int)∧h'=h):=F7 rfl ((c_sign0 L i hi hl).mono fun _ _ h=>by rw[h.1];rfl) h
theorem c_numv (l:Bs)(hd:∀d∈l,isD d=true)(hv:wE l<9223372036854775808)(hl:l.length<1000000):CB 98 [.vec l.length (tN l)] h (.int .i64 ((wE l:Nat):Int)):=by
  refine l6.body (Q:=fun y'=>y'=.int .i64 ((wE l:Nat):Int)) u9 fn98 rfl ?_;simp only[ntm98,List.length_cons,List.length_nil,Nat.reduceAdd,Nat.reduceSub,List.replicate,List.cons_append,List.nil_append];refine c6z ?_;refine n9.pre 1 t15 ?_;refine c253z ?_;refine n9.pre 1 t15 ?_;refine c261z ?_;refine n9.pre 1 t15 ?_;refine c5z ?_;refine g7.block ?_;refine g7.jZ (fun m st=>∃(i:Nat),(m=l.length-i∧i≤l.length)∧st=⟨[.vec l.length (tN l),.any,.any,.int .i64 ((wE (l.take i):Nat):Int),.int .i64 ((i:Nat):Int),.any,.any,.any,.any,.any,.any,.any,.any,.any,.any,.any,.any,.any,.any,.any,.any,.any,.any,.any,.any,.any,.any,.any],h⟩) _ ⟨[.vec l.length (tN l),.any,.any,.int .i64 ((wE (l.take 0):Nat):Int),.int .i64 ((0:Nat):Int),.any,.any,.any,.any,.any,.any,.any,.any,.any,.any,.any,.any,.any,.any,.any,.any,.any,.any,.any,.any,.any,.any,.any],⟨(.inl t108),(.inr rfl),(.inr rfl),(.inl t108),(.inl t108),(.inr rfl),(.inr rfl),(.inr rfl),(.inr rfl),(.inr rfl),(.inr rfl),(.inr rfl),(.inr rfl),(.inr rfl),(.inr rfl),(.inr rfl),(.inr rfl),(.inr rfl),(.inr rfl),(.inr rfl),(.inr rfl),(.inr rfl),(.inr rfl),(.inr rfl),(.inr rfl),(.inr rfl),(.inr rfl),(.inr rfl),trivial⟩,0,⟨rfl,by omega⟩,rfl⟩ ?_;rintro m sl h' ⟨i,⟨hm,hi⟩,hst⟩;obtain ⟨rfl,rfl⟩:=St.mk.inj hst;refine c124z ?_;refine n9.pre 4 t15 ?_;refine c5z ?_;refine g7.split 9 rfl (fun e1=>?_) (fun e1=>?_)
  · try simp only[e1]
    have qe1:=e1;try replace qe1:=s8z qe1
    refine g7.wG rfl ?_;refine c59z ?_;refine c227z ?_;refine g7.seq ?_;have hdd:=valD_nn (i:=i) (by omega) hd;have hvt:=F6 (l:=l) (k:=i) (by omega);have hvm:=FF (l:=l) (k:=i+1) (m:=l.length) (by omega);rw[List.take_length]at hvm;have htd:(9223372036854775807-(((bat l i).toNat:Int)-48)).tdiv 10=(9223372036854775807-(((bat l i).toNat:Int)-48)) / 10:=Int.tdiv_eq_ediv_of_nonneg (by omega);have htd2:((9223372036854775807-(((bat l i).toNat:Int)-48)).tdiv 10:Int)<9223372036854775808∧0≤(9223372036854775807-(((bat l i).toNat:Int)-48)).tdiv 10:=by rw[htd];omega
    refine g7.region u9 ?_;refine n9.pre 7 t15 ?_;refine c261z ?_;refine n9.pre 5 t15 ?_;refine c5z ?_;refine g7.split 22 rfl (fun e2=>?_) (fun e2=>?_)
    · exfalso;rw[htd]at e2;simp only[decide_eq_true_eq,gt_iff_lt]at e2;omega
    · try simp only[e2]
      have qe2:=e2;try replace qe2:=s8z qe2
      refine c84z ?_;refine g7.region u9 ?_;refine n9.pre 5 t15 ?_;refine c5z ?_;refine g7.region u9 ?_;refine n9.pre 3 t15 ?_;refine n9.nil ?_;exact ⟨l.length-(i+1),by omega,[.vec l.length (tN l),.any,.any,.int .i64 ((wE (l.take (i+1)):Nat):Int),.int .i64 (((i+1):Nat):Int),.any,.any,.any,.any,.any,.any,.any,.any,.any,.any,.any,.any,.any,.any,.any,.any,.any,.any,.any,.any,.any,.any,.any],⟨(.inl t108),(.inr rfl),(.inr rfl),(.inl t108),(.inl t108),(.inr rfl),(.inr rfl),(.inr rfl),(.inr rfl),(.inr rfl),(.inr rfl),(.inr rfl),(.inr rfl),(.inr rfl),(.inr rfl),(.inr rfl),(.inr rfl),(.inr rfl),(.inr rfl),(.inr rfl),(.inr rfl),(.inr rfl),(.inr rfl),(.inr rfl),(.inr rfl),(.inr rfl),(.inr rfl),(.inr rfl),trivial⟩,(i+1),⟨rfl,by omega⟩,rfl⟩
  · try simp only[e1]
    have qe1:=e1;try replace qe1:=s8z qe1
    refine g7.J4 rfl ?_;refine g7.exit ?_;obtain rfl:i=l.length:=by omega
    rw[List.take_length] at*;change g7 _ _ _ _ _;refine c6z ?_;refine n9.pre 2 t15 ?_;refine c64z ?_;refine Ends.mk (by simp only[res98,vZ,jX,kY];first | rfl | (simp (maxSteps:=2000000) (disch:=omega) only [go_sem,Nat.reduceBEq,Nat.reduceAdd,Nat.reduceSub,Nat.reduceLeDiff,Nat.reduceMul,reduceIte,reduceCtorEq,Int.reduceNeg,Int.reduceToNat,Nat.reduceLT,Int.reduceLE,Int.reduceLT,Int.reduceAdd,Int.reduceSub,Int.reduceMul,rW,if_false,show ((10:Int)=0)=False from by simp,if_pos,if_neg];rfl)) ?_;exact ⟨[],_,(List.append_nil _).symm,t67,by rfl⟩
theorem app_tok {a:Blk}{l:c8}{zs:List AV}{x y z u:AV}(hz:zs.length=n*4)(hn:n<10000):j5 cfg 182 (p8 182 4 g zs::a::⟨0,false,182,4,[x,y,z,u],0⟩::l) (.own 0 g 0 n) (.own 2 0 0 1)=some (.own 0 (g+1) 0 (n+1),p8 182 4 (g+1) (zs++[x,y,z,u])::a::⟨0,false,182,4,[x,y,z,u],0⟩::l):=by rw[aC (C:=cfg) (K:=4) (m:=1) (new:=[x,y,z,u]) (zs:=zs) rfl rfl (by omega) hz rfl (by omega) t135 rfl (by decide) (by omega)];rfl
theorem NA {l:c8}{zs:List AV}{x y z u:AV}(hz:zs.length=n*4)(hn:n<10000):j5 cfg 182 (p8 182 4 g zs::⟨0,false,182,4,[x,y,z,u],0⟩::l) (.own 0 g 0 n) (.own 1 0 0 1)=some (.own 0 (g+1) 0 (n+1),p8 182 4 (g+1) (zs++[x,y,z,u])::⟨0,false,182,4,[x,y,z,u],0⟩::l):=by rw[aC (C:=cfg) (K:=4) (m:=1) (new:=[x,y,z,u]) (zs:=zs) rfl rfl (by omega) hz rfl (by omega) t135 rfl (by decide) (by omega)];rfl
theorem pY {k n p:Int}:aO [.int .i64 k,.str s,.int .i64 n,.int .i64 p]:=aO.cons .int (aO.cons .str (aO.cons .int (aO.cons .int .nil)))
theorem lO {a b:List AV}(h:aO a)(h':aO b):aO (a++b):=fun x hx=>(List.mem_append.1 hx).elim (h x) (h' x)
theorem SO (hs:Span L isD i e)(hv:wE ((L.drop i).take (e-i))<9223372036854775808)(hl:L.length<1000000):l6 Tryz.prog cfg 98 [.vec (e-i) (tN ((L.drop i).take (e-i)))] h (fun y h'=>y=.int .i64 ((wE ((L.drop i).take (e-i)):Nat):Int)∧h'=h):=by
  have hle:=hs.le;have e1:e-i=((L.drop i).take (e-i)).length:=by rw[List.length_take,List.length_drop];omega
  have:=c_numv (h:=h) _ (spanD hs) hv (by omega);rwa[←e1]at this
section
attribute [local go_sem] rX eB Option.bind_eq_bind SI SL SM takeL M3 Nat.add_sub_cancel_left app_tok NA take_one F3 qS wrap64 wF
theorem c_lex0 (L:Bs)(N:Nat)(hx:LX (L.drop 0) N)(hN:N≤4000)(hl:L.length≤262144):l6 Tryz.prog cfg 69 [.vec L.length (tN L)] [] (fun y' h'=>VB y'=.tup [.any,.int .i64 L.length,.int .i64 0]∧h'=[]):=by
  refine .bz Tryz.f69 124 ?_;have hs0:=zH rfl hx (by omega);refine c54z ?_;refine .spl 11 rfl rfl (fun e1=>by exfalso;simp only[decide_eq_true_eq,gt_iff_lt]at e1;omega) (fun e1=>?_);try simp only[e1]
  have qe1:=fact e1;refine c14z ?_;refine c199z ?_;refine .ca rfl rfl (SN L 0 N hx (by omega) (by omega)) ?_;refine c231z ?_;refine g7.yU 5 rfl ?_;refine .aW (fun m st=>∃(q:Nat) (k:Nat) (n:Nat) (zs:List AV),(m=L.length-q∧(k+n≤4000∧LX (L.drop q) n∧q≤L.length∧(q<L.length→wD (bat L q)=false)∧zs.length=k*4∧aO zs))∧st=⟨mkS 124 [(0,AV.vec L.length (tN L)),(5,AV.own 0 k 0 k),(6,AV.int .i64 ((q:Nat):Int))],[p8 182 4 k zs]⟩) (.v ⟨(sk L 0),0,N,[],⟨rfl,⟨by omega,hs0.2.2.1,hs0.2.1,hs0.2.2.2,rfl,aO.nil⟩⟩,rfl⟩) ?_;rintro m sl h' ⟨q,k,n,zs,⟨hm,⟨hkn,hX,hq,hsp,hz,hpl⟩⟩,hst⟩;obtain ⟨rfl,rfl⟩:=St.mk.inj hst;clear hst;refine .sb ?_;refine c1z ?_;refine u2z ?_ ?_
  ·intro e2 qe2;refine c174z ?_;refine c235z ?_;exact ⟨_,_,rfl,by (show gT 0 _ 6 (.tup [.own 0 (k+1) 0 (k+1),.int .i64 ((q:Nat):Int),.int .i64 0])=_;simp only[lF,cW,iN,s5,Nat.not_lt_zero,if_false];rw[eN (e:=182) (K:=4) (g:=k+1) (zs:=zs++_) rfl (by decide) t105 (by omega) (aO.frz (lO hpl pY) _ _ _)];rfl),by rw[show q=L.length from by omega];rfl⟩
  intro e2 qe2;refine .sk ?_;refine c184z ?_;refine .sb ?_;have hsp':=hsp (by omega);refine c28z ?_;refine .ca rfl rfl (zI _) ?_;refine .n ?_;refine u2z ?_ ?_
  ·intro e3 qe3;refine .sb ?_;obtain ⟨ee,mm,hspn,hle16,hnm,hX2⟩:=hX.FD (by omega) (by assumption);have hlt:=hspn.lt;refine .aW (fun m st=>∃(j:Nat),(m=ee-j∧(q≤j∧j≤ee))∧st=⟨mkS 124 [(0,AV.vec L.length (tN L)),(5,AV.own 0 k 0 k),(6,AV.int .i64 ((q:Nat):Int)),(7,AV.ptr 1 0 0),(8,AV.int .i64 ((j:Nat):Int))],[p8 182 4 k zs,⟨0,false,182,4,[.int .i64 0,.str ByteArray.empty,.int .i64 0,.int .i64 ((q:Nat):Int)],0⟩]⟩) (.v ⟨q,⟨rfl,⟨Nat.le_refl _,Nat.le_of_lt hspn.lt⟩⟩,rfl⟩) ?_;rintro m sl h' ⟨j,⟨hm,⟨hj1,hj2⟩⟩,hst⟩;obtain ⟨rfl,rfl⟩:=St.mk.inj hst;clear hst;have hle:=hspn.le;refine .seq ?_;refine c34z ?_;refine .spl 50 rfl rfl (fun e4=>?_) (fun e4=>?_)
   ·try simp only[e4]
    have qe4:=fact e4;refine .k 4 [(4,50)] ?_;refine .ca rfl rfl (zI _) ?_;refine .k 1 [(4,50)] ?_;refine .spl 56 rfl rfl (fun e5=>?_) (fun e5=>?_)
    ·try simp only[e5]
     have qe5:=fact e5;refine .m [(4,50),(10,56)] ?_;refine .T ?_;refine .sk ?_;refine .block ?_;refine .c7 [0,5,6,7,8] ?_;refine .rz ?_;have hje:=M4 hspn hj2 (by omega) t222;exact ⟨_,by omega,.v ⟨(j+1),⟨rfl,⟨by omega,by omega⟩⟩,rfl⟩ (he:=t203)⟩
    try simp only[e5]
    have qe5:=fact e5;refine .k 4 [(10,56)] ?_;refine .ca rfl rfl (zJ _) ?_;refine .m [(4,50)] ?_;refine u2z ?_ ?_
    ·intro e6 qe6;refine .sk ?_;refine .block ?_;refine .c7 [0,5,6,7,8] ?_;refine .rz ?_;have hje:=M4 hspn hj2 (by omega) t222;exact ⟨_,by omega,.v ⟨(j+1),⟨rfl,⟨by omega,by omega⟩⟩,rfl⟩ (he:=t203)⟩
    intro e6 qe6;refine .exit ?_;have hje:ee=j:=(tQ hspn hj1 hj2 (fun hlt=>by first | omega | assumption | simp_all [isW])).symm;subst hje;change g7 ..;refine c89z ?_;refine c34z ?_;refine .ca rfl rfl (WN _) ?_;refine .nil ?_;refine u2z ?_ ?_
    ·intro e7 qe7;refine c2z ?_;refine c262z ?_;refine .spl 111 rfl rfl (fun e8=>by exfalso;simp only[beq_iff_eq]at e8;omega) (fun e8=>?_);try simp only[e8]
     have qe8:=fact e8;refine c245z ?_;have hs1:=zH rfl hX2 (by omega);exact ⟨_,by omega,.v ⟨(sk L ee),(k+1),mm,(zs++[.int .i64 _,.str _,.int .i64 _,.int .i64 ((q:Nat):Int)]),⟨rfl,⟨by omega,hs1.2.2.1,hs1.2.1,hs1.2.2.2,t105,lO hpl pY⟩⟩,rfl⟩ (he:=by rfl) (hk:=t73)⟩
    intro e7 qe7;refine .z ?_;refine .spl 77 rfl rfl (fun e9=>by exfalso;simp only[decide_eq_true_eq,gt_iff_lt]at e9;omega) (fun e9=>?_);try simp only[e9]
    have qe9:=fact e9;refine c47z ?_;refine c262z ?_;refine .spl 111 rfl rfl (fun e10=>by exfalso;simp only[beq_iff_eq]at e10;omega) (fun e10=>?_);try simp only[e10]
    have qe10:=fact e10;refine c245z ?_;have hs1:=zH rfl hX2 (by omega);exact ⟨_,by omega,.v ⟨(sk L ee),(k+1),mm,(zs++[.int .i64 _,.str _,.int .i64 _,.int .i64 ((q:Nat):Int)]),⟨rfl,⟨by omega,hs1.2.2.1,hs1.2.1,hs1.2.2.2,t105,lO hpl pY⟩⟩,rfl⟩ (he:=by rfl) (hk:=t73)⟩
   try simp only[e4]
   have qe4:=fact e4;refine .k 8 [(4,50),(10,56)] ?_;refine .m [(4,50),(10,56)] ?_;refine .F ?_;refine .exit ?_;have hje:ee=j:=(tQ hspn hj1 hj2 (fun hlt=>by first | omega | assumption | simp_all [isW])).symm;subst hje;change g7 ..;refine c89z ?_;refine c34z ?_;refine .ca rfl rfl (WN _) ?_;refine .nil ?_;refine u2z ?_ ?_
   ·intro e11 qe11;refine c2z ?_;refine c262z ?_;refine .spl 111 rfl rfl (fun e12=>by exfalso;simp only[beq_iff_eq]at e12;omega) (fun e12=>?_);try simp only[e12]
    have qe12:=fact e12;refine c245z ?_;have hs1:=zH rfl hX2 (by omega);exact ⟨_,by omega,.v ⟨(sk L ee),(k+1),mm,(zs++[.int .i64 _,.str _,.int .i64 _,.int .i64 ((q:Nat):Int)]),⟨rfl,⟨by omega,hs1.2.2.1,hs1.2.1,hs1.2.2.2,t105,lO hpl pY⟩⟩,rfl⟩ (he:=by rfl) (hk:=t73)⟩
   intro e11 qe11;refine .z ?_;refine .spl 77 rfl rfl (fun e13=>by exfalso;simp only[decide_eq_true_eq,gt_iff_lt]at e13;omega) (fun e13=>?_);try simp only[e13]
   have qe13:=fact e13;refine c47z ?_;refine c262z ?_;refine .spl 111 rfl rfl (fun e14=>by exfalso;simp only[beq_iff_eq]at e14;omega) (fun e14=>?_);try simp only[e14]
   have qe14:=fact e14;refine c245z ?_;have hs1:=zH rfl hX2 (by omega);exact ⟨_,by omega,.v ⟨(sk L ee),(k+1),mm,(zs++[.int .i64 _,.str _,.int .i64 _,.int .i64 ((q:Nat):Int)]),⟨rfl,⟨by omega,hs1.2.2.1,hs1.2.1,hs1.2.2.2,t105,lO hpl pY⟩⟩,rfl⟩ (he:=by rfl) (hk:=t73)⟩
  intro e3 qe3;refine .c7 [0,5,6,7,8] ?_;refine c28z ?_;refine .ca rfl rfl (zJ _) ?_;refine .n ?_;refine u2z ?_ ?_
  ·intro e15 qe15;refine .sb ?_;obtain ⟨ee,mm,hspn,hvv,hnm,hX2⟩:=hX.MY (by omega) (by assumption);have hlt:=hspn.lt;refine .aW (fun m st=>∃(j:Nat),(m=ee-j∧(q≤j∧j≤ee))∧st=⟨mkS 124 [(0,AV.vec L.length (tN L)),(5,AV.own 0 k 0 k),(6,AV.int .i64 ((q:Nat):Int)),(7,AV.ptr 1 0 0),(8,AV.int .i64 ((j:Nat):Int))],[p8 182 4 k zs,⟨0,false,182,4,[.int .i64 0,.str ByteArray.empty,.int .i64 0,.int .i64 ((q:Nat):Int)],0⟩]⟩) (.v ⟨q,⟨rfl,⟨Nat.le_refl _,Nat.le_of_lt hspn.lt⟩⟩,rfl⟩) ?_;rintro m sl h' ⟨j,⟨hm,⟨hj1,hj2⟩⟩,hst⟩;obtain ⟨rfl,rfl⟩:=St.mk.inj hst;clear hst;have hle:=hspn.le;refine .seq ?_;refine c34z ?_;refine .spl 89 rfl rfl (fun e16=>?_) (fun e16=>?_)
   ·try simp only[e16]
    have qe16:=fact e16;refine .k 4 [(4,89)] ?_;refine .ca rfl rfl (zJ _) ?_;refine .n ?_;refine u2z ?_ ?_
    ·intro e17 qe17;refine .sk ?_;refine .block ?_;refine .c7 [0,5,6,7,8] ?_;refine .rz ?_;have hje:=M4 hspn hj2 (by omega) t222;exact ⟨_,by omega,.v ⟨(j+1),⟨rfl,⟨by omega,by omega⟩⟩,rfl⟩ (he:=t203)⟩
    intro e17 qe17;refine .exit ?_;have hje:ee=j:=(tQ hspn hj1 hj2 (fun hlt=>by first | omega | assumption | simp_all [isW])).symm;subst hje;change g7 ..;refine .c7 [0,5,6,7,8] ?_;refine c28z ?_;refine .ca rfl rfl (SO hspn hvv (by omega)) ?_;refine .n ?_;refine .z ?_;refine .spl 107 rfl rfl (fun e18=>by exfalso;simp only[decide_eq_true_eq]at e18;omega) (fun e18=>?_);try simp only[e18]
    have qe18:=fact e18;refine c47z ?_;refine c262z ?_;refine .spl 111 rfl rfl (fun e19=>by exfalso;simp only[beq_iff_eq]at e19;omega) (fun e19=>?_);try simp only[e19]
    have qe19:=fact e19;refine c245z ?_;have hs1:=zH rfl hX2 (by omega);exact ⟨_,by omega,.v ⟨(sk L ee),(k+1),mm,(zs++[.int .i64 _,.str _,.int .i64 _,.int .i64 ((q:Nat):Int)]),⟨rfl,⟨by omega,hs1.2.2.1,hs1.2.1,hs1.2.2.2,t105,lO hpl pY⟩⟩,rfl⟩ (he:=by rfl) (hk:=t73)⟩
   try simp only[e16]
   have qe16:=fact e16;refine .m [(4,89)] ?_;refine .F ?_;refine .exit ?_;have hje:ee=j:=(tQ hspn hj1 hj2 (fun hlt=>by first | omega | assumption | simp_all [isW])).symm;subst hje;change g7 ..;refine .c7 [0,5,6,7,8] ?_;refine c28z ?_;refine .ca rfl rfl (SO hspn hvv (by omega)) ?_;refine .n ?_;refine .z ?_;refine .spl 107 rfl rfl (fun e20=>by exfalso;simp only[decide_eq_true_eq]at e20;omega) (fun e20=>?_);try simp only[e20]
   have qe20:=fact e20;refine c47z ?_;refine c262z ?_;refine .spl 111 rfl rfl (fun e21=>by exfalso;simp only[beq_iff_eq]at e21;omega) (fun e21=>?_);try simp only[e21]
   have qe21:=fact e21;refine c245z ?_;have hs1:=zH rfl hX2 (by omega);exact ⟨_,by omega,.v ⟨(sk L ee),(k+1),mm,(zs++[.int .i64 _,.str _,.int .i64 _,.int .i64 ((q:Nat):Int)]),⟨rfl,⟨by omega,hs1.2.2.1,hs1.2.1,hs1.2.2.2,t105,lO hpl pY⟩⟩,rfl⟩ (he:=by rfl) (hk:=t73)⟩
  intro e15 qe15;obtain ⟨hsg1,hsg2,mm,hnm,hX2⟩:=hX.FE (by omega) hsp' t146 t146;refine c17z ?_;refine .ca rfl rfl (c_sign L q (by omega) (by omega)) ?_;refine .n ?_;refine c89z ?_;refine .z ?_;refine .spl 38 rfl rfl (fun e22=>by exfalso;simp only[beq_iff_eq]at e22;omega) (fun e22=>?_);try simp only[e22]
  have qe22:=fact e22;refine c47z ?_;refine c1z ?_;refine .spl 111 rfl rfl (fun e23=>by exfalso;simp only[beq_iff_eq]at e23;omega) (fun e23=>?_);try simp only[e23]
  have qe23:=fact e23;refine c245z ?_;have hs1:=zH rfl hX2 (by omega);exact ⟨_,by omega,.v ⟨(sk L (q+sgn L q)),(k+1),mm,(zs++[.int .i64 _,.str _,.int .i64 _,.int .i64 ((q:Nat):Int)]),⟨rfl,⟨by omega,hs1.2.2.1,hs1.2.1,hs1.2.2.2,t105,lO hpl pY⟩⟩,rfl⟩ (he:=by rfl) (hk:=t73)⟩
end
end Go.Proofs.YtapdldekgbbomaaGreatDoor
end
section
namespace Go.Proofs.YtapdldekgbbomaaGreatDoor
open Go.Ab Go.Un
theorem wrapU {n:Int}(h1:0≤n)(h2:n<18446744073709551616):IntKind.wrap .u64 n=n:=by rw[IntKind.wrap_u64];omega
theorem F9:∀(f n:Nat),n<10^f→0<f→wJ (f+1) n=wJ f n
  | 0,n,h,hf=>by omega
  | f+1,n,h,_=>by
    have e:wJ (f+1+1) n=if n<10 then [dig n] else wJ (f+1) (n / 10)++[dig n]:=rfl
    have e2:wJ (f+1) n=if n<10 then [dig n] else wJ f (n / 10)++[dig n]:=rfl
    rw[e,e2];split
    · rfl
    · rename_i hn
      have h1:n / 10<10^f:=by rw[Nat.pow_succ]at h;omega
      cases f with
      | zero=>simp at h1;omega
      | succ f=>rw[F9 (f+1) (n / 10) h1 (by omega)]
theorem G0 {n:Nat}(h:n<10000000000000000000)(h0:0<n / 10):wU n=wU (n / 10)++[dig n]:=by
  have e2:wU n=if n<10 then [dig n] else wJ 19 (n / 10)++[dig n]:=rfl
  rw[e2,if_neg (by omega)];unfold wU;rw[F9 19 (n / 10) (by omega) (by omega)]
theorem xA {n:Nat}(h:n<10):wU n=[dig n]:=by
  have e2:wU n=if n<10 then [dig n] else wJ 19 (n / 10)++[dig n]:=rfl
  rw[e2,if_pos h]
def Ce (n:Nat)(s:Bs):Bs:=if n=0 then s else wU n++s
theorem BF {n:Nat}(h:n<10000000000000000000):Ce (n / 10) [dig n]=wU n:=by
  unfold Ce;split
  · rw[xA (by omega)]
  · rw[G0 h (by omega)]
variable {s:Bs}
theorem FI {n:Nat}(h:n<10000000000000000000)(h0:0<n):Ce (n / 10) (dig n::s)=Ce n s:=by
  unfold Ce;rw[if_neg (by omega:¬n=0)];split
  · rw[xA (by omega)];rfl
  · rw[G0 h (by omega)];simp
theorem FJ {n:Nat}:UInt8.ofNat (((48:Int)+(((n%10:Nat)):Int)).toNat)=dig n:=by unfold dig;congr 1
theorem SP {n:Nat}:((n:Int)).tmod 10=((n%10:Nat):Int):=rfl
theorem SQ {n:Nat}:((n:Int)).tdiv 10=((n / 10:Nat):Int):=rfl
theorem SR {a:UInt8}:(⟨#[a]⟩:BA)++(⟨s.toArray⟩:BA)=⟨(a::s).toArray⟩:=by apply ByteArray.ext;simp[ByteArray.data_append]
theorem FK:(⟨s.toArray⟩:BA).size=s.length:=by rw[lH];rfl
attribute [local go_sem] nS aS p7 bT n6 Int.natCast_nonneg Int.natCast_inj List.length_map wrap64 BE wrapU gJ T8 F3 L9 T9 qS max2 mQ
theorem NB {n m:Nat}(h:n*10^s.length≤m):n / 10*10^(dig n::s).length≤m:=by rw[List.length_cons,Nat.pow_succ,Nat.mul_comm (10^s.length),←Nat.mul_assoc];exact Nat.le_trans (Nat.mul_le_mul_right _ (Nat.div_mul_le_self n 10)) h
theorem NC {n m:Nat}(h0:0<n)(h:n*10^s.length≤m)(hm:m<10000000000000000000):(dig n::s).length≤20:=by
  rw[List.length_cons];by_cases hs:s.length+1≤20
  · exact hs
  · have h1:10^20≤10^s.length:=Nat.pow_le_pow_right (by omega) (by omega)
    have h2:1*10^s.length≤n*10^s.length:=Nat.mul_le_mul_right _ h0;omega
theorem c_dig0 (m0:Nat)(hm0:m0<10000000000000000000):CB 113 [.int .u64 (m0:Int)] [] (.str ⟨(wU m0).toArray⟩):=by
  refine l6.body (Q:=fun y'=>y'=.str ⟨(wU m0).toArray⟩) u9 fn113 rfl ?_;simp only[ntm113,List.length_cons,List.length_nil,Nat.reduceAdd,Nat.reduceSub,List.replicate,List.cons_append,List.nil_append];refine c6z ?_;refine n9.pre 1 t16 ?_;refine c253z ?_;refine n9.pre 7 t16 ?_;refine c261z ?_;refine n9.pre 3 t16 ?_;refine c5z ?_;refine g7.block ?_;refine g7.aF ([⟨0,false,5,1,[.int .u8 (48+((m0%10:Nat):Int))],0⟩]) t208 ?_;refine g7.VC (fun m st=>∃(n:Nat) (s:Bs),(m=n∧(n<10000000000000000000∧Ce n s=wU m0∧s.length≤20∧n*10^s.length≤m0))∧st=⟨[.int .u64 ((n:Nat):Int),.any,.any,.str ⟨s.toArray⟩,.any,.any,.any,.any,.any,.any,.any,.any,.any,.any,.any,.any,.any,.any,.any,.any,.any,.any,.any,.any,.any],[⟨0,false,5,1,[.int .u8 (48+((m0%10:Nat):Int))],0⟩]⟩) ((m0 / 10)) ⟨[.int .u64 (((m0 / 10):Nat):Int),.any,.any,.str ⟨[dig m0].toArray⟩,.any,.any,.any,.any,.any,.any,.any,.any,.any,.any,.any,.any,.any,.any,.any,.any,.any,.any,.any,.any,.any],[⟨0,false,5,1,[.int .u8 (48+((m0%10:Nat):Int))],0⟩],[],(List.append_nil _).symm,Nat.le_refl _,z8.refl _,⟨(.inl t89),(.inr rfl),(.inr rfl),(.inl t89),(.inr rfl),(.inr rfl),(.inr rfl),(.inr rfl),(.inr rfl),(.inr rfl),(.inr rfl),(.inr rfl),(.inr rfl),(.inr rfl),(.inr rfl),(.inr rfl),(.inr rfl),(.inr rfl),(.inr rfl),(.inr rfl),(.inr rfl),(.inr rfl),(.inr rfl),(.inr rfl),(.inr rfl),trivial⟩,dK.get ⟨t4,t4,t4,t4,t4,t4,t4,t4,t4,t4,t4,t4,t4,t4,t4,t4,t4,t4,t4,t4,t4,t4,t4,t4,t4,trivial⟩,(m0 / 10),[dig m0],⟨rfl,⟨by omega,BF hm0,by simp,t81⟩⟩,rfl⟩ ?_;rintro m sl h' ⟨n,s,⟨hm,⟨hn,hP,hs,hM⟩⟩,hst⟩;obtain ⟨rfl,rfl⟩:=St.mk.inj hst;clear hst;refine c124z ?_;refine n9.pre 2 t16 ?_;refine c5z ?_;refine g7.split 13 rfl (fun e1=>?_) (fun e1=>?_)
  · try simp only[e1]
    have qe1:=e1;try replace qe1:=s8z qe1
    refine g7.wG rfl ?_;refine c59z ?_;refine c227z ?_;refine g7.region u9 ?_;refine n9.pre 9 t16 ?_;refine c5z ?_;refine g7.region u9 ?_;refine n9.pre 3 t16 ?_;refine n9.nil ?_;have hP2:=(FI (s:=s) hn (by omega)).trans hP;exact ⟨(n / 10),by omega,[.int .u64 (((n / 10):Nat):Int),.any,.any,.str ⟨(dig n::s).toArray⟩,.any,.any,.any,.any,.any,.any,.any,.any,.any,.any,.any,.any,.any,.any,.any,.any,.any,.any,.any,.any,.any],[⟨0,false,5,1,[.int .u8 (48+((m0%10:Nat):Int))],0⟩],_,by rfl,by simp,by exact z8.refl _,⟨(.inl t89),(.inr rfl),(.inr rfl),(.inl t89),(.inr rfl),(.inr rfl),(.inr rfl),(.inr rfl),(.inr rfl),(.inr rfl),(.inr rfl),(.inr rfl),(.inr rfl),(.inr rfl),(.inr rfl),(.inr rfl),(.inr rfl),(.inr rfl),(.inr rfl),(.inr rfl),(.inr rfl),(.inr rfl),(.inr rfl),(.inr rfl),(.inr rfl),trivial⟩,dK.get ⟨t4,t4,t4,t4,t4,t4,t4,t4,t4,t4,t4,t4,t4,t4,t4,t4,t4,t4,t4,t4,t4,t4,t4,t4,t4,trivial⟩,(n / 10),(dig n::s),⟨rfl,⟨by omega,hP2,NC (by omega) hM hm0,NB hM⟩⟩,rfl⟩
  · try simp only[e1]
    have qe1:=e1;try replace qe1:=s8z qe1
    refine g7.J4 rfl ?_;refine g7.exit ?_;change g7 _ _ _ _ _;refine c6z ?_;refine n9.pre 2 t16 ?_;refine c64z ?_;refine Ends.mk (by simp only[RX,vZ,jX,kY];first | rfl | (simp (maxSteps:=2000000) (disch:=omega) only [go_sem,Nat.reduceBEq,Nat.reduceAdd,Nat.reduceSub,Nat.reduceLeDiff,Nat.reduceMul,reduceIte,reduceCtorEq,Int.reduceNeg,Int.reduceToNat,Nat.reduceLT,Int.reduceLE,Int.reduceLT,Int.reduceAdd,Int.reduceSub,Int.reduceMul,SP,SQ,FJ,jM,rd,SR,FK,show ((10:Int)=0)=False from by simp,show (⟨#[dig m0]⟩:BA)=⟨[dig m0].toArray⟩ from rfl,rW,if_pos,if_neg];rfl)) ?_;exact ⟨_,_,(by first | rfl | exact (List.append_nil _).symm | (simp only[List.append_assoc,List.cons_append,List.nil_append];rfl)),by first | rfl | (simp only[gT,mC,s5,o7,fK];rfl),by (rw[←hP,show n=0 from by omega];rfl)⟩
variable {h:c8}
theorem ND (n:Nat)(hn:n<10000000000000000000):l6 Tryz.prog cfg 113 [.int .u64 (n:Int)] h (fun y h'=>y=.str ⟨(wU n).toArray⟩∧h'=h):=F7 rfl ((c_dig0 n hn).mono fun _ _ h=>by rw[h.1];rfl) h
theorem G1 (n:Int)(h0:0≤n)(hn:n<10000000000000000000):l6 Tryz.prog cfg 113 [.int .u64 n] h (fun y h'=>y=.str ⟨(wU n.toNat).toArray⟩∧h'=h):=by have:=ND (h:=h) n.toNat (by omega);rwa[Int.toNat_of_nonneg h0]at this
theorem c_num (n:Int)(h1:-9000000000000000000≤n)(h2:n<9000000000000000000):CB 100 [.int .i64 n] h (.str (AU n)):=by
  refine l6.body (Q:=fun y'=>y'=.str (AU n)) u9 fn100 rfl ?_;simp only[ntm100,List.length_cons,List.length_nil,Nat.reduceAdd,Nat.reduceSub,List.replicate,List.cons_append,List.nil_append];have hs1:(wU (-(n+1)+1).toNat).length≤20:=tF 20 _;refine c6z ?_;refine n9.pre 1 t25 ?_;refine c261z ?_;refine n9.pre 2 t25 ?_;refine c5z ?_;refine g7.split 4 rfl (fun e1=>?_) (fun e1=>?_)
  · try simp only[e1]
    have qe1:=e1;try replace qe1:=s8z qe1
    refine c230z ?_;refine n9.pre 5 t25 ?_;refine n9.UQ rfl rfl rfl hb113 (G1 _ (by omega) (by omega)) ?_;refine n9.pre 2 t25 ?_;refine c64z ?_;refine Ends.mk t87 ?_;exact ⟨[],_,(List.append_nil _).symm,t67,t161⟩
  · try simp only[e1]
    have qe1:=e1;try replace qe1:=s8z qe1
    refine c214z ?_;refine n9.pre 2 t25 ?_;refine n9.UQ rfl rfl rfl hb113 (G1 _ (by omega) (by omega)) ?_;refine n9.pre 1 t25 ?_;refine c64z ?_;refine Ends.mk t87 ?_;exact ⟨[],_,(List.append_nil _).symm,t67,t161⟩
theorem strE1:s9 cfg dO 20 120 [.int .i64 1] []=some (.int .i64 6,[]):=by kernel_rfl
theorem strE2:s9 cfg dO 20 120 [.int .i64 2] []=some (.int .i64 6,[]):=by kernel_rfl
theorem strE3:s9 cfg dO 20 120 [.int .i64 3] []=some (.int .i64 5,[]):=by kernel_rfl
theorem strE4:s9 cfg dO 20 120 [.int .i64 4] []=some (.int .i64 5,[]):=by kernel_rfl
theorem strE5:s9 cfg dO 20 120 [.int .i64 5] []=some (.int .i64 4,[]):=by kernel_rfl
theorem strE6:s9 cfg dO 20 120 [.int .i64 6] []=some (.int .i64 4,[]):=by kernel_rfl
theorem strE7:s9 cfg dO 20 120 [.int .i64 7] []=some (.int .i64 4,[]):=by kernel_rfl
theorem strE8:s9 cfg dO 20 120 [.int .i64 8] []=some (.int .i64 3,[]):=by kernel_rfl
theorem strE9:s9 cfg dO 20 120 [.int .i64 9] []=some (.int .i64 3,[]):=by kernel_rfl
theorem strE10:s9 cfg dO 20 120 [.int .i64 10] []=some (.int .i64 2,[]):=by kernel_rfl
theorem strE11:s9 cfg dO 20 120 [.int .i64 11] []=some (.int .i64 2,[]):=by kernel_rfl
theorem strE12:s9 cfg dO 20 120 [.int .i64 12] []=some (.int .i64 2,[]):=by kernel_rfl
theorem strE13:s9 cfg dO 20 120 [.int .i64 13] []=some (.int .i64 2,[]):=by kernel_rfl
theorem strE14:s9 cfg dO 20 120 [.int .i64 14] []=some (.int .i64 2,[]):=by kernel_rfl
theorem strE15:s9 cfg dO 20 120 [.int .i64 15] []=some (.int .i64 2,[]):=by kernel_rfl
theorem strE16:s9 cfg dO 20 120 [.int .i64 16] []=some (.int .i64 1,[]):=by kernel_rfl
theorem strE17:s9 cfg dO 20 120 [.int .i64 17] []=some (.int .i64 0,[]):=by kernel_rfl
theorem rK (o:Int)(h1:1≤o)(h2:o≤17):l6 Tryz.prog cfg 120 [.int .i64 o] h (fun y h'=>y=.int .i64 (iB o)∧h'=h):=by
  have key:∀(k v:Int),s9 cfg dO 20 120 [.int .i64 k] []=some (.int .i64 v,[])→iB k=v→l6 Tryz.prog cfg 120 [.int .i64 k] h (fun y h'=>y=.int .i64 (iB k)∧h'=h):=fun k v he hv=>by rw[hv];exact F7 rfl ((yJ u9 z7 20 _ _ _ _ _ he).mono fun _ _ h=>by rw[h.1];rfl) h
  have hcases:o=1∨o=2∨o=3∨o=4∨o=5∨o=6∨o=7∨o=8∨o=9∨o=10∨o=11∨o=12∨o=13∨o=14∨o=15∨o=16∨o=17:=by omega
  rcases hcases with rfl | rfl | rfl | rfl | rfl | rfl | rfl | rfl | rfl | rfl | rfl | rfl | rfl | rfl | rfl | rfl | rfl
  · exact key _ _ strE1 rfl
  · exact key _ _ strE2 rfl
  · exact key _ _ strE3 rfl
  · exact key _ _ strE4 rfl
  · exact key _ _ strE5 rfl
  · exact key _ _ strE6 rfl
  · exact key _ _ strE7 rfl
  · exact key _ _ strE8 rfl
  · exact key _ _ strE9 rfl
  · exact key _ _ strE10 rfl
  · exact key _ _ strE11 rfl
  · exact key _ _ strE12 rfl
  · exact key _ _ strE13 rfl
  · exact key _ _ strE14 rfl
  · exact key _ _ strE15 rfl
  · exact key _ _ strE16 rfl
  · exact key _ _ strE17 rfl
theorem NF {l:List Ex}{i:Nat}(h:i<l.length):List.take 1 (List.drop (i*4) (o8 l))=[AV.int .i64 (l.getD i n4).op]:=by have:=congrArg (fun x=>x.take 1) (read_es h);simp only[List.take_take,bZ]at this;simpa using this
variable {o:Int}
theorem pZ (h1:1≤o)(h2:o≤17):0≤iB o∧iB o≤6∧(iB o=6↔o=1∨o=2)∧(iB o=5↔o=3∨o=4):=by
  have hcases:o=1∨o=2∨o=3∨o=4∨o=5∨o=6∨o=7∨o=8∨o=9∨o=10∨o=11∨o=12∨o=13∨o=14∨o=15∨o=16∨o=17:=by omega
  rcases hcases with rfl | rfl | rfl | rfl | rfl | rfl | rfl | rfl | rfl | rfl | rfl | rfl | rfl | rfl | rfl | rfl | rfl<;>decide
variable {vars:List BA}
theorem GE.op:∀{d:Nat} {e:Ex},GE vars d e→1≤e.op∧e.op≤17
  | d,.leaf o n s,h=>by have h':=kF.1 h;simp only[Ex.op];omega
  | 0,.un o a,h=>h.elim
  | 0,.bin o a b,h=>h.elim
  | d+1,.un o a,h=>by have:=h.1;simp only[Ex.op];omega
  | d+1,.bin o a b,h=>by have:=h.1;simp only[Ex.op];omega
section
attribute [local go_sem] NF
theorem M5 (e:Ex)(k:Nat)(hk:k<e.args.length)(h1:1≤e.op∧e.op≤17)(h2:1≤(e.args.getD k n4).op∧(e.args.getD k n4).op≤17)(hl:e.args.length≤2):CB 121 [.agg [.int .i64 e.op,.int .i64 e.num,.str e.name,.vec e.args.length (o8 e.args)],.int .i64 (k:Int)] h (.bool (mM e k)):=by
  refine .bz Tryz.f121 29 ?_;refine .z ?_;refine .ss u9 (mkP 12 [0,1,0,7,15,31,63,0,128,511,1023,2047] []) ?_;refine .k 6 [] ?_;refine .ca rfl rfl (rK _ h2.1 h2.2) ?_;refine .k 2 [] ?_;refine .ca rfl rfl (rK _ h1.1 h1.2) ?_;refine .n [] ?_;refine .c7 [1,5,6] ?_;refine c28z ?_;refine .spl 20 rfl rfl (fun e1=>?_) (fun e1=>?_)
  ·try simp only[e1]
   have qe1:=fact e1;refine .k 8 [(3,20),(7,24)] ?_;refine .n ?_;exact .ret (.ex (hq:=t96))
  try simp only[e1]
  have qe1:=fact e1;refine .k 4 [(3,20)] ?_;refine .spl 24 rfl rfl (fun e2=>?_) (fun e2=>?_)
  ·try simp only[e2]
   have qe2:=fact e2;refine .m [(3,20),(7,24)] ?_;exact .ret (.ex (hq:=t96))
  try simp only[e2]
  have qe2:=fact e2;refine .m [(3,20),(7,24)] ?_;exact .ret (.ex (hq:=t96))
end
variable {a:Ex}
theorem U3 (h1:1≤o∧o≤17)(h2:1≤a.op∧a.op≤17):CB 121 [.agg [.int .i64 o,.int .i64 0,.str ByteArray.empty,.vec 1 (v9 a)],.int .i64 0] h (.bool (mM (.un o a) 0)):=by have:=M5 (h:=h) (.un o a) 0 t228 h1 h2 t228;simpa only[Ex.op,Ex.num,Ex.name,Ex.args,o8,List.flatMap_cons,List.flatMap_nil,List.append_nil,List.length_cons,List.length_nil,Nat.zero_add,Int.natCast_zero,Int.cast_ofNat_Int] using this
variable {b:Ex}
theorem G2 (h1:1≤o∧o≤17)(h2:1≤a.op∧a.op≤17):CB 121 [.agg [.int .i64 o,.int .i64 0,.str ByteArray.empty,.vec 2 (v9 a++v9 b)],.int .i64 0] h (.bool (mM (.bin o a b) 0)):=by have:=M5 (h:=h) (.bin o a b) 0 t228 h1 h2 t228;simpa only[Ex.op,Ex.num,Ex.name,Ex.args,o8,List.flatMap_cons,List.flatMap_nil,List.append_nil,List.length_cons,List.length_nil,Nat.zero_add,Nat.reduceAdd,Int.natCast_zero,Int.cast_ofNat_Int] using this
theorem vH (h1:1≤o∧o≤17)(h2:1≤b.op∧b.op≤17):CB 121 [.agg [.int .i64 o,.int .i64 0,.str ByteArray.empty,.vec 2 (v9 a++v9 b)],.int .i64 1] h (.bool (mM (.bin o a b) 1)):=by have:=M5 (h:=h) (.bin o a b) 1 t228 h1 h2 t228;simpa only[Ex.op,Ex.num,Ex.name,Ex.args,o8,List.flatMap_cons,List.flatMap_nil,List.append_nil,List.length_cons,List.length_nil,Nat.zero_add,Nat.reduceAdd,Int.natCast_one,Int.cast_ofNat_Int] using this
theorem fP:v9 (.un o a)=[.int .i64 o,.int .i64 0,.str ByteArray.empty,.vec 1 (v9 a)]:=rfl
theorem dG:v9 (.bin o a b)=[.int .i64 o,.int .i64 0,.str ByteArray.empty,.vec 2 (v9 a++v9 b)]:=rfl
theorem bW {n:Int}{s:BA}:v9 (.leaf o n s)=[.int .i64 o,.int .i64 n,.str s,.vec 0 []]:=rfl
theorem jT {l:List AV}:List.take 4 (v9 a++l)=v9 a:=by rw[←p7 a,List.take_left]
theorem jU {l:List AV}:List.drop 4 (v9 a++l)=l:=by rw[←p7 a,List.drop_left]
theorem nC {s:BA}:(s.toList==ByteArray.empty.toList)=decide (s.size=0):=by
  rw[ByteArray.toList_eq,ByteArray.toList_eq,Bool.eq_iff_iff];simp only[beq_iff_eq,decide_eq_true_eq];constructor
  · intro h
    have:=congrArg List.length h;simpa using this
  · intro h
    exact List.length_eq_zero_iff.1 (by simpa using h)
theorem eq_mk {s:BA}:(⟨#[]⟩:BA)=ByteArray.empty:=rfl
theorem nD:ByteArray.empty.size=0:=rfl
section
attribute [local go_sem] fP dG bW jT jU gJ nC eq_mk nD
theorem NG {vars:List BA}(n:Int)(hn:0≤n):CB 111 [.agg (v9 (.leaf 1 n ByteArray.empty))] h (.bool true):=by
  refine .bz Tryz.f111 77 ?_;have hst:iB 1=6:=rfl;refine c135z ?_;refine c112z ?_;refine c263z ?_;refine .spl 10 rfl rfl (fun e1=>?_) (fun e1=>by exfalso;first | omega | (replace e1:=s9z e1;omega) | (simp at e1;omega) | (simp at e1;done));try simp only[e1]
  have qe1:=fact e1;refine .T ?_;refine c269z ?_;refine .ss u9 (mkP 28 [0,1,3,7,15,31,63,127,255,511,1023,2047,4095,0,8192,24576,57855,123391,254463,516607,1040895,2089471,4186623,8380927,16769535,33546751,33554431,134217727] []) ?_;refine .k 4 [] ?_;refine .spl 15 rfl rfl (fun e2=>?_) (fun e2=>by exfalso;first | omega | (replace e2:=s9z e2;omega) | (simp at e2;omega) | (simp at e2;done));try simp only[e2]
  have qe2:=fact e2;refine .k 5 [(3,15)] ?_;refine .spl 20 rfl rfl (fun e3=>?_) (fun e3=>by exfalso;first | omega | (replace e3:=s9z e3;omega) | (simp at e3;omega) | (simp at e3;done));try simp only[e3]
  have qe3:=fact e3;refine .k 8 [(8,20)] ?_;refine .spl 28 rfl rfl (fun e4=>by exfalso;first | omega | (replace e4:=s9z e4;omega) | (simp at e4;omega) | (simp at e4;done)) (fun e4=>?_);try simp only[e4]
  have qe4:=fact e4;refine .k 8 [(16,28),(21,33)] ?_;refine .n [] ?_;refine .c7 [1,3,4,5] ?_;refine c17z ?_;refine .spl 40 rfl rfl (fun e5=>by exfalso;first | omega | (replace e5:=s9z e5;omega) | (simp at e5;omega) | (simp at e5;done)) (fun e5=>?_);try simp only[e5]
  have qe5:=fact e5;refine .m [(2,40)] ?_;refine c47z ?_;refine c93z ?_;refine c126z ?_;refine .spl 51 rfl rfl (fun e6=>by exfalso;first | omega | (replace e6:=s9z e6;omega) | (simp at e6;omega) | (simp at e6;done)) (fun e6=>?_);try simp only[e6]
  have qe6:=fact e6;refine .k 3 [(5,51)] ?_;refine .spl 54 rfl rfl (fun e7=>by exfalso;first | omega | (replace e7:=s9z e7;omega) | (simp at e7;omega) | (simp at e7;done)) (fun e7=>?_);try simp only[e7]
  have qe7:=fact e7;refine .k 8 [(8,54),(12,58)] ?_;refine .m [(5,51)] ?_;refine c14z ?_;refine c93z ?_;refine c151z ?_;refine .z ?_;exact .ret (.ex (hq:=by rfl))
end
section
attribute [local go_sem] fP dG bW jT jU gJ nC eq_mk nD
theorem NH {vars:List BA}(s:BA)(hn:isName (L8 s))(hr:tP s=false):CB 111 [.agg (v9 (.leaf 2 0 s))] h (.bool true):=by
  refine .bz Tryz.f111 77 ?_;have hst:iB 2=6:=rfl;have hsz:=(fC hn).1;refine c135z ?_;refine c112z ?_;refine c263z ?_;refine .spl 10 rfl rfl (fun e1=>?_) (fun e1=>by exfalso;first | omega | (replace e1:=s9z e1;omega) | (simp at e1;omega) | (simp at e1;done));try simp only[e1]
  have qe1:=fact e1;refine .T ?_;refine c269z ?_;refine .ss u9 (mkP 28 [0,1,3,7,15,31,63,127,255,511,1023,2047,4095,0,8192,24576,57855,123391,254463,516607,1040895,2089471,4186623,8380927,16769535,33546751,33554431,134217727] []) ?_;refine .k 4 [] ?_;refine .spl 15 rfl rfl (fun e2=>by exfalso;first | omega | (replace e2:=s9z e2;omega) | (simp at e2;omega) | (simp at e2;done)) (fun e2=>?_);try simp only[e2]
  have qe2:=fact e2;refine .k 8 [(3,15),(8,20)] ?_;refine .k 5 [] ?_;refine .spl 28 rfl rfl (fun e3=>?_) (fun e3=>by exfalso;first | omega | (replace e3:=s9z e3;omega) | (simp at e3;omega) | (simp at e3;done));try simp only[e3]
  have qe3:=fact e3;refine .k 5 [(16,28)] ?_;refine .spl 33 rfl rfl (fun e4=>?_) (fun e4=>by exfalso;first | omega | (replace e4:=s9z e4;omega) | (simp at e4;omega) | (simp at e4;done));try simp only[e4]
  have qe4:=fact e4;refine .k 2 [(21,33)] ?_;refine .ca rfl rfl (nB _ hn hr) ?_;refine .n [] ?_;refine .c7 [1,3,4,5] ?_;refine .zm [(2,40)] ?_;refine .spl 43 rfl rfl (fun e5=>by exfalso;first | omega | (replace e5:=s9z e5;omega) | (simp at e5;omega) | (simp at e5;done)) (fun e5=>?_);try simp only[e5]
  have qe5:=fact e5;refine c47z ?_;refine c93z ?_;refine c126z ?_;refine .spl 51 rfl rfl (fun e6=>by exfalso;first | omega | (replace e6:=s9z e6;omega) | (simp at e6;omega) | (simp at e6;done)) (fun e6=>?_);try simp only[e6]
  have qe6:=fact e6;refine .k 3 [(5,51)] ?_;refine .spl 54 rfl rfl (fun e7=>by exfalso;first | omega | (replace e7:=s9z e7;omega) | (simp at e7;omega) | (simp at e7;done)) (fun e7=>?_);try simp only[e7]
  have qe7:=fact e7;refine .k 8 [(8,54),(12,58)] ?_;refine .m [(5,51)] ?_;refine c14z ?_;refine c93z ?_;refine c151z ?_;refine .z ?_;exact .ret (.ex (hq:=by rfl))
end
section
attribute [local go_sem] fP dG bW jT jU gJ nC eq_mk nD
theorem NI {vars:List BA}(o:Int)(a:Ex)(ho:o=3∨o=4)(iha:∀(h:c8),CB 111 [.agg (v9 a)] h (.bool true)):CB 111 [.agg (v9 (.un o a))] h (.bool true):=by
  refine .bz Tryz.f111 77 ?_;have hst:=(pZ (o:=o) (by omega) (by omega)).2.2.2.2 ho;refine c135z ?_;refine c112z ?_;refine c263z ?_;refine .spl 10 rfl rfl (fun e1=>by exfalso;first | omega | (replace e1:=s9z e1;omega) | (simp at e1;omega) | (simp at e1;done)) (fun e1=>?_);try simp only[e1]
  have qe1:=fact e1;refine c158z ?_;refine .spl 44 rfl rfl (fun e2=>?_) (fun e2=>by exfalso;first | omega | (replace e2:=s9z e2;omega) | (simp at e2;omega) | (simp at e2;done));try simp only[e2]
  have qe2:=fact e2;refine .T ?_;refine .c7 [1] ?_;refine c2z ?_;refine .seq ?_;refine c126z ?_;refine .spl 51 rfl rfl (fun e3=>by exfalso;first | omega | (replace e3:=s9z e3;omega) | (simp at e3;omega) | (simp at e3;done)) (fun e3=>?_);try simp only[e3]
  have qe3:=fact e3;refine .k 3 [(5,51)] ?_;refine .spl 54 rfl rfl (fun e4=>?_) (fun e4=>by exfalso;first | omega | (replace e4:=s9z e4;omega) | (simp at e4;omega) | (simp at e4;done));try simp only[e4]
  have qe4:=fact e4;refine .k 4 [(8,54)] ?_;refine .spl 58 rfl rfl (fun e5=>by exfalso;first | omega | (replace e5:=s9z e5;omega) | (simp at e5;omega) | (simp at e5;done)) (fun e5=>?_);try simp only[e5]
  have qe5:=fact e5;refine .m [(5,51),(8,54),(12,58)] ?_;refine .spl 64 rfl rfl (fun e6=>by exfalso;first | omega | (replace e6:=s9z e6;omega) | (simp at e6;omega) | (simp at e6;done)) (fun e6=>?_);try simp only[e6]
  have qe6:=fact e6;refine c14z ?_;refine c93z ?_;refine c29z ?_;refine c232z ?_;refine c95z ?_;refine .n ?_;refine .spl 76 rfl rfl (fun e7=>by exfalso;first | omega | (replace e7:=s9z e7;omega) | (simp at e7;omega) | (simp at e7;done)) (fun e7=>?_);try simp only[e7]
  have qe7:=fact e7;refine c47z ?_;refine .c7 [1,3,6] ?_;refine .rz ?_;refine c43z ?_;refine c4z ?_;exact .ret (.ex (hq:=by rfl))
end
section
attribute [local go_sem] fP dG bW jT jU gJ nC eq_mk nD
theorem NJ {vars:List BA}(o:Int)(a b:Ex)(ho:5≤o∧o≤17)(iha:∀(h:c8),CB 111 [.agg (v9 a)] h (.bool true))(ihb:∀(h:c8),CB 111 [.agg (v9 b)] h (.bool true)):CB 111 [.agg (v9 (.bin o a b))] h (.bool true):=by
  refine .bz Tryz.f111 77 ?_;have hst:=pZ (o:=o) (by omega) (by omega);refine c135z ?_;refine c112z ?_;refine c263z ?_;refine .spl 10 rfl rfl (fun e1=>by exfalso;first | omega | (replace e1:=s9z e1;omega) | (simp at e1;omega) | (simp at e1;done)) (fun e1=>?_);try simp only[e1]
  have qe1:=fact e1;refine c158z ?_;refine .spl 44 rfl rfl (fun e2=>by exfalso;first | omega | (replace e2:=s9z e2;omega) | (simp at e2;omega) | (simp at e2;done)) (fun e2=>?_);try simp only[e2]
  have qe2:=fact e2;refine c47z ?_;refine c93z ?_;refine c126z ?_;refine .spl 51 rfl rfl (fun e3=>by exfalso;first | omega | (replace e3:=s9z e3;omega) | (simp at e3;omega) | (simp at e3;done)) (fun e3=>?_);try simp only[e3]
  have qe3:=fact e3;refine .k 3 [(5,51)] ?_;refine .spl 54 rfl rfl (fun e4=>?_) (fun e4=>by exfalso;first | omega | (replace e4:=s9z e4;omega) | (simp at e4;omega) | (simp at e4;done));try simp only[e4]
  have qe4:=fact e4;refine .k 4 [(8,54)] ?_;refine .spl 58 rfl rfl (fun e5=>by exfalso;first | omega | (replace e5:=s9z e5;omega) | (simp at e5;omega) | (simp at e5;done)) (fun e5=>?_);try simp only[e5]
  have qe5:=fact e5;refine .m [(5,51),(8,54),(12,58)] ?_;refine .spl 64 rfl rfl (fun e6=>by exfalso;first | omega | (replace e6:=s9z e6;omega) | (simp at e6;omega) | (simp at e6;done)) (fun e6=>?_);try simp only[e6]
  have qe6:=fact e6;refine c14z ?_;refine c93z ?_;refine c29z ?_;refine c255z ?_;refine .n ?_;refine .spl 76 rfl rfl (fun e7=>by exfalso;first | omega | (replace e7:=s9z e7;omega) | (simp at e7;omega) | (simp at e7;done)) (fun e7=>?_);try simp only[e7]
  have qe7:=fact e7;refine c47z ?_;refine .c7 [1,3,6] ?_;refine .rz ?_;refine c256z ?_;refine .n ?_;refine .spl 76 rfl rfl (fun e8=>by exfalso;first | omega | (replace e8:=s9z e8;omega) | (simp at e8;omega) | (simp at e8;done)) (fun e8=>?_);try simp only[e8]
  have qe8:=fact e8;refine c47z ?_;refine .c7 [1,3,6] ?_;refine .rz ?_;refine c43z ?_;refine c4z ?_;exact .ret (.ex (hq:=by rfl))
end
def aM (vars:List BA):Prop:=∀x∈vars,isName (L8 x)∧tP x=false
theorem aM.n (h:aM vars):Names vars:=fun x hx=>(h x hx).1
theorem zK {vars:List BA}(hv:aM vars):∀{d:Nat} {e:Ex},GE vars d e→∀(h:c8),CB 111 [.agg (v9 e)] h (.bool true)
  | d,.leaf o n s,hg,h=>by
    rcases kF.1 hg with ⟨rfl,h1,_,rfl⟩ | ⟨rfl,rfl,h1⟩
    · exact NG (vars:=vars) n h1
    · exact NH (vars:=vars) s (hv s h1).1 (hv s h1).2
  | 0,.un o a,hg,h=>hg.elim
  | 0,.bin o a b,hg,h=>hg.elim
  | d+1,.un o a,hg,h=>NI (vars:=vars) o a hg.1 (zK hv hg.2)
  | d+1,.bin o a b,hg,h=>NJ (vars:=vars) o a b hg.1 (zK hv hg.2.1) (zK hv hg.2.2)
def mx (a b:Int):Int:=if b > a then b else a
def hgt:Ex→Int
  | .leaf ..=>0
  | .un o a=>mx 0 (if mM (.un o a) 0 then hgt a+1 else hgt a)+1
  | .bin o a b=>mx (mx 0 (if mM (.bin o a b) 0 then hgt a+1 else hgt a)) (if mM (.bin o a b) 1 then hgt b+1 else hgt b)
theorem vI:∀e:Ex,0≤hgt e∧hgt e≤2*(e.dep:Int)
  | .leaf ..=>⟨Int.le_refl _,by simp[hgt,Ex.dep]⟩
  | .un o a=>by have:=vI a;simp only[hgt,mx,Ex.dep];constructor<;>(repeat' split)<;>omega
  | .bin o a b=>by have:=vI a;have:=vI b;simp only[hgt,mx,Ex.dep];constructor<;>(repeat' split)<;>omega
section
attribute [local go_sem] fP dG bW jT jU gJ nC eq_mk nD
theorem FL (o n:Int)(s:BA)(ho:o=1∨o=2):CB 112 [.agg (v9 (.leaf o n s))] h (.int .i64 (hgt (.leaf o n s))):=by
  refine .bz Tryz.f112 34 ?_;have hst:=(pZ (o:=o) (by omega) (by omega)).2.2.1.2 ho;refine c98z ?_;refine c60z ?_;refine c93z ?_;refine c246z ?_;refine .spl 30 rfl rfl (fun e1=>by exfalso;first | omega | (replace e1:=s9z e1;omega) | (simp at e1;omega) | (simp at e1;done)) (fun e1=>?_);try simp only[e1]
  have qe1:=fact e1;refine c142z ?_;exact .ret (.ex (hq:=by rfl))
end
section
attribute [local go_sem] fP dG bW jT jU gJ nC eq_mk nD
theorem FM (o:Int)(a:Ex)(ho:o=3∨o=4)(hd:a.dep≤1000)(hga:1≤a.op∧a.op≤17)(iha:∀(h:c8),CB 112 [.agg (v9 a)] h (.int .i64 (hgt a))):CB 112 [.agg (v9 (.un o a))] h (.int .i64 (hgt (.un o a))):=by
  refine .bz Tryz.f112 34 ?_;have hst:=(pZ (o:=o) (by omega) (by omega)).2.2.2.2 ho;have hha:=vI a;refine c98z ?_;refine c232z ?_;refine c95z ?_;refine c119z ?_;refine .ca rfl rfl (U3 (by omega) hga) ?_;refine .nil ?_;refine u2z ?_ ?_
  ·intro e1 qe1;refine c2z ?_;refine c161z ?_;refine c93z ?_;refine c246z ?_;refine .spl 30 rfl rfl (fun e2=>?_) (fun e2=>by exfalso;first | omega | (replace e2:=s9z e2;omega) | (simp at e2;omega) | (simp at e2;done));try simp only[e2]
   have qe2:=fact e2;refine .T ?_;refine c2z ?_;refine .z ?_;exact .ret (.ex (hq:=t83))
  intro e1 qe1;refine .sk ?_;refine c67z ?_;change g7 _ _ _ _ _;refine c264z ?_;refine c11z ?_;refine c10z ?_;refine .seq ?_;refine c246z ?_;refine .spl 30 rfl rfl (fun e3=>?_) (fun e3=>by exfalso;first | omega | (replace e3:=s9z e3;omega) | (simp at e3;omega) | (simp at e3;done));try simp only[e3]
  have qe3:=fact e3;refine .T ?_;refine .c7 [3] ?_;refine c2z ?_;refine .z ?_;exact .ret (.ex (hq:=t83))
end
section
attribute [local go_sem] fP dG bW jT jU gJ nC eq_mk nD
theorem FN (o:Int)(a b:Ex)(ho:5≤o∧o≤17)(hd:a.dep≤1000)(hd2:b.dep≤1000)(hga:1≤a.op∧a.op≤17)(hgb:1≤b.op∧b.op≤17)(iha:∀(h:c8),CB 112 [.agg (v9 a)] h (.int .i64 (hgt a)))(ihb:∀(h:c8),CB 112 [.agg (v9 b)] h (.int .i64 (hgt b))):CB 112 [.agg (v9 (.bin o a b))] h (.int .i64 (hgt (.bin o a b))):=by
  refine .bz Tryz.f112 34 ?_;have hst:=pZ (o:=o) (by omega) (by omega);have hha:=vI a;have hhb:=vI b;refine c98z ?_;refine c255z ?_;refine c119z ?_;refine .ca rfl rfl (G2 (by omega) hga) ?_;refine .nil ?_;refine u2z ?_ ?_
  ·intro e1 qe1;refine c2z ?_;refine c105z ?_;refine c256z ?_;refine c119z ?_;refine .ca rfl rfl (vH (by omega) hgb) ?_;refine .nil ?_;refine u2z ?_ ?_
   ·intro e2 qe2;refine c2z ?_;refine c161z ?_;refine c93z ?_;refine c246z ?_;refine .spl 30 rfl rfl (fun e3=>by exfalso;first | omega | (replace e3:=s9z e3;omega) | (simp at e3;omega) | (simp at e3;done)) (fun e3=>?_);try simp only[e3]
    have qe3:=fact e3;refine c142z ?_;exact .ret (.ex (hq:=t83))
   intro e2 qe2;refine .sk ?_;refine c67z ?_;change g7 _ _ _ _ _;refine c264z ?_;refine c11z ?_;refine c10z ?_;refine .seq ?_;refine c246z ?_;refine .spl 30 rfl rfl (fun e4=>by exfalso;first | omega | (replace e4:=s9z e4;omega) | (simp at e4;omega) | (simp at e4;done)) (fun e4=>?_);try simp only[e4]
   have qe4:=fact e4;refine c14z ?_;refine c193z ?_;exact .ret (.ex (hq:=t83))
  intro e1 qe1;refine .sk ?_;refine c67z ?_;change g7 _ _ _ _ _;refine c264z ?_;refine c113z ?_;refine c9z ?_;refine c129z ?_;refine c119z ?_;refine .ca rfl rfl (vH (by omega) hgb) ?_;refine .nil ?_;refine u2z ?_ ?_
  ·intro e5 qe5;refine c2z ?_;refine c161z ?_;refine c93z ?_;refine c246z ?_;refine .spl 30 rfl rfl (fun e6=>by exfalso;first | omega | (replace e6:=s9z e6;omega) | (simp at e6;omega) | (simp at e6;done)) (fun e6=>?_);try simp only[e6]
   have qe6:=fact e6;refine c142z ?_;exact .ret (.ex (hq:=t83))
  intro e5 qe5;refine .sk ?_;refine c67z ?_;change g7 _ _ _ _ _;refine c264z ?_;refine c11z ?_;refine c10z ?_;refine .seq ?_;refine c246z ?_;refine .spl 30 rfl rfl (fun e7=>by exfalso;first | omega | (replace e7:=s9z e7;omega) | (simp at e7;omega) | (simp at e7;done)) (fun e7=>?_);try simp only[e7]
  have qe7:=fact e7;refine c14z ?_;refine c193z ?_;exact .ret (.ex (hq:=t83))
end
theorem tR {vars:List BA}:∀{d:Nat} {e:Ex},d≤100→GE vars d e→∀(h:c8),CB 112 [.agg (v9 e)] h (.int .i64 (hgt e))
  | d,.leaf o n s,hd,hg,h=>by have h':=kF.1 hg;exact FL o n s (by omega)
  | 0,.un o a,hd,hg,h=>hg.elim
  | 0,.bin o a b,hd,hg,h=>hg.elim
  | d+1,.un o a,hd,hg,h=>FM o a hg.1 (by have:=hg.2.dep;omega) (GE.op hg.2) (tR (by omega) hg.2)
  | d+1,.bin o a b,hd,hg,h=>FN o a b hg.1 (by have:=hg.2.1.dep;omega) (by have:=hg.2.2.dep;omega) (GE.op hg.2.1) (GE.op hg.2.2) (tR (by omega) hg.2.1) (tR (by omega) hg.2.2)
theorem U4 (hv:aM vars){d:Nat}(hd:d≤12)(e:Ex)(hg:GE vars d e):CB 93 [.agg (v9 e)] h (.bool true):=by refine .bz Tryz.f93 10 ?_;have hh:=vI e;have hdp:=hg.dep;refine c199z ?_;refine .ca rfl rfl (zK hv hg _) ?_;refine .k 2 [(2,5)] ?_;refine .ca rfl rfl (tR (by omega) hg _) ?_;refine .m [(2,5)] ?_;exact .ret (.ex (hq:=by (exact congrArg AV.bool (decide_eq_true (by omega)))))
end Go.Proofs.YtapdldekgbbomaaGreatDoor
end
section
namespace Go.Proofs.YtapdldekgbbomaaGreatDoor
open Go.Ab Go.Un
theorem mx6:(6≤maxLen)=True:=by simp;decide
theorem mx3:(3≤maxLen)=True:=by simp;decide
def sgS (k:Int):List BA:=if k=0 then [(⟨#[124,124]⟩:BA)] else if k=1 then [(⟨#[38,38]⟩:BA)] else if k=2 then [(⟨#[61,61]⟩:BA),(⟨#[33,61]⟩:BA),(⟨#[60]⟩:BA),(⟨#[60,61]⟩:BA),(⟨#[62]⟩:BA),(⟨#[62,61]⟩:BA)] else if k=3 then [(⟨#[43]⟩:BA),(⟨#[45]⟩:BA)] else [(⟨#[42]⟩:BA),(⟨#[47]⟩:BA),(⟨#[37]⟩:BA)]
def sgO (k:Int):List Int:=if k=0 then [17] else if k=1 then [16] else if k=2 then [14,15,10,11,12,13] else if k=3 then [8,9] else [5,6,7]
theorem NK {k:Int}(h0:0≤k)(h4:k≤4):(sgS k).length=(sgO k).length∧(sgO k).length≤6:=by
  have hc:k=0∨k=1∨k=2∨k=3∨k=4:=by omega
  rcases hc with rfl | rfl | rfl | rfl | rfl<;>decide
variable {o:Int}
theorem NL (h:5≤o∧o≤17):∀i,i<(sgO (iB o)).length→(sgO (iB o)).getD i 0=o→(sgS (iB o)).getD i ByteArray.empty=L5 o:=by
  have hcases:o=5∨o=6∨o=7∨o=8∨o=9∨o=10∨o=11∨o=12∨o=13∨o=14∨o=15∨o=16∨o=17:=by omega
  rcases hcases with rfl | rfl | rfl | rfl | rfl | rfl | rfl | rfl | rfl | rfl | rfl | rfl | rfl<;>decide
theorem NM (h:5≤o∧o≤17):¬∀i,i<(sgO (iB o)).length→(sgO (iB o)).getD i 0≠o:=by
  have hcases:o=5∨o=6∨o=7∨o=8∨o=9∨o=10∨o=11∨o=12∨o=13∨o=14∨o=15∨o=16∨o=17:=by omega
  rcases hcases with rfl | rfl | rfl | rfl | rfl | rfl | rfl | rfl | rfl | rfl | rfl | rfl | rfl<;>decide
theorem tS (h:5≤o∧o≤17):0≤iB o∧iB o≤4:=by
  have hcases:o=5∨o=6∨o=7∨o=8∨o=9∨o=10∨o=11∨o=12∨o=13∨o=14∨o=15∨o=16∨o=17:=by omega
  rcases hcases with rfl | rfl | rfl | rfl | rfl | rfl | rfl | rfl | rfl | rfl | rfl | rfl | rfl<;>decide
variable {i:Nat}
theorem U5 {l:List Int}(h:∀d,d<i→l.getD d 0≠o)(e:l.getD i 0≠o):∀d,d<i+1→l.getD d 0≠o:=fun d hd=>by
  by_cases hdi:d=i
  · rw[hdi];exact e
  · exact h d (by omega)
theorem zL {a:Array UInt8}:(⟨a⟩:BA).size=a.size:=rfl
variable {h:c8}{a:Ex}{p:Bool}
theorem c_innU (hp:mM (.un o a) 0=p)(h1:1≤o∧o≤17)(h2:1≤a.op∧a.op≤17):CB 121 [.agg [.int .i64 o,.int .i64 0,.str ByteArray.empty,.vec 1 (v9 a)],.int .i64 0] h (.bool p):=by subst hp;exact U3 h1 h2
theorem c_inn0 {b:Ex}(hp:mM (.bin o a b) 0=p)(h1:1≤o∧o≤17)(h2:1≤a.op∧a.op≤17):CB 121 [.agg [.int .i64 o,.int .i64 0,.str ByteArray.empty,.vec 2 (v9 a++v9 b)],.int .i64 0] h (.bool p):=by subst hp;exact G2 h1 h2
theorem c_inn1 {b:Ex}(hp:mM (.bin o a b) 1=p)(h1:1≤o∧o≤17)(h2:1≤b.op∧b.op≤17):CB 121 [.agg [.int .i64 o,.int .i64 0,.str ByteArray.empty,.vec 2 (v9 a++v9 b)],.int .i64 1] h (.bool p):=by subst hp;exact vH h1 h2
attribute [local go_sem] j5 rd nS aS p7 bT dB n6 Int.natCast_nonneg Int.natCast_inj List.length_map wrap64 BE wrapU gJ T8 F3 L9 T9 qS max2 mQ mx6 mx3 zL aR fP dG bW jT jU nC eq_mk nD sE wY Nat.reduceMul
theorem c_signs (k:Int):CB 122 [.int .i64 k] h (.tup [.vec (sgS k).length (aQ (sgS k)),.vec (sgO k).length (l5 (sgO k))]):=by
  refine .bz Tryz.f122 23 ?_;refine c26z ?_;refine .z ?_;refine u2z ?_ ?_
  ·intro e1 qe1;refine .z ?_;exact .ret (.ex (hf:=t50) (hq:=t149))
  intro e1 qe1;refine .z ?_;refine u2z ?_ ?_
  ·intro e2 qe2;refine c4z ?_;exact .ret (.ex (hf:=t50) (hq:=t149))
  intro e2 qe2;refine .z ?_;refine u2z ?_ ?_
  ·intro e3 qe3;refine c4z ?_;exact .ret (.ex (hf:=t50) (hq:=t149))
  intro e3 qe3;refine .c7 [4] ?_;refine .z ?_;refine u2z ?_ ?_
  ·intro e4 qe4;refine .z ?_;exact .ret (.ex (hf:=t50) (hq:=t149))
  intro e4 qe4;refine c8z ?_;refine .z ?_;exact .ret (.ex (hf:=t50) (hq:=t149))
theorem c_text1 (n:Int)(h0:0≤n)(h1:n<4611686018427387904):CB 114 [.agg (v9 (.leaf 1 n ByteArray.empty))] h (.str (cS (.leaf 1 n ByteArray.empty))):=by refine .bz Tryz.f114 95 ?_;refine c98z ?_;refine c60z ?_;refine c247z ?_;refine .T ?_;refine c39z ?_;refine .ca rfl rfl (c_num _ (by omega) (by omega)) ?_;refine .n ?_;exact .ret (.ex (hq:=by (rw[AU,if_neg (by omega)];rfl)))
theorem c_text2 (n:Int)(s:BA):CB 114 [.agg (v9 (.leaf 2 n s))] h (.str (cS (.leaf 2 n s))):=by refine .bz Tryz.f114 95 ?_;refine c98z ?_;refine c60z ?_;refine .sb ?_;refine .c7 [1,3] ?_;refine c11z ?_;refine c113z ?_;refine c269z ?_;exact .ret (.ex (hq:=by rfl))
theorem c_textU (o:Int)(a:Ex)(ho:o=3∨o=4)(hga:1≤a.op∧a.op≤17)(iha:∀(h:c8),CB 114 [.agg (v9 a)] h (.str (cS a)))(hsa:(cS a).size<1000000):CB 114 [.agg (v9 (.un o a))] h (.str (cS (.un o a))):=by
  refine .bz Tryz.f114 95 ?_;refine c98z ?_;refine c232z ?_;refine c95z ?_;refine c119z ?_;refine .ca rfl rfl (c_innU rfl (by omega) hga) ?_;refine .nil ?_;refine u2z ?_ ?_
  ·intro e1 qe1;refine c2z ?_;refine c249z ?_;refine .spl 32 rfl rfl (fun e2=>by exfalso;first | omega | (replace e2:=s9z e2;omega) | (simp at e2;omega) | (simp at e2;done)) (fun e2=>?_);try simp only[e2]
   have qe2:=fact e2;refine c158z ?_;refine .spl 39 rfl rfl (fun e3=>by exfalso;first | omega | (replace e3:=s9z e3;omega) | (simp at e3;omega) | (simp at e3;done)) (fun e3=>?_);try simp only[e3]
   have qe3:=fact e3;refine .F ?_;refine c75z ?_;refine u2z ?_ ?_
   ·intro e4 qe4;refine .z ?_;exact .ret (.ex (hq:=t197))
   intro e4 qe4;refine .z ?_;refine .spl 53 rfl rfl (fun e5=>?_) (fun e5=>by exfalso;first | omega | (replace e5:=s9z e5;omega) | (simp at e5;omega) | (simp at e5;done));try simp only[e5]
   have qe5:=fact e5;refine .T ?_;refine c193z ?_;exact .ret (.ex (hq:=t197))
  intro e1 qe1;refine .sk ?_;refine c249z ?_;refine .spl 32 rfl rfl (fun e6=>by exfalso;first | omega | (replace e6:=s9z e6;omega) | (simp at e6;omega) | (simp at e6;done)) (fun e6=>?_);try simp only[e6]
  have qe6:=fact e6;refine c158z ?_;refine .spl 39 rfl rfl (fun e7=>by exfalso;first | omega | (replace e7:=s9z e7;omega) | (simp at e7;omega) | (simp at e7;done)) (fun e7=>?_);try simp only[e7]
  have qe7:=fact e7;refine .F ?_;refine c75z ?_;refine u2z ?_ ?_
  ·intro e8 qe8;refine .z ?_;exact .ret (.ex (hq:=t197))
  intro e8 qe8;refine .z ?_;refine .spl 53 rfl rfl (fun e9=>?_) (fun e9=>by exfalso;first | omega | (replace e9:=s9z e9;omega) | (simp at e9;omega) | (simp at e9;done));try simp only[e9]
  have qe9:=fact e9;refine .T ?_;refine c193z ?_;exact .ret (.ex (hq:=t197))
theorem FO (o:Int)(a b:Ex)(ho:5≤o∧o≤17)(hga:1≤a.op∧a.op≤17)(hgb:1≤b.op∧b.op≤17)(hp:mM (.bin o a b) 0=true)(hq:mM (.bin o a b) 1=true)(iha:∀(h:c8),CB 114 [.agg (v9 a)] h (.str (cS a)))(hsa:(cS a).size<1000000)(ihb:∀(h:c8),CB 114 [.agg (v9 b)] h (.str (cS b)))(hsb:(cS b).size<1000000):CB 114 [.agg (v9 (.bin o a b))] h (.str (cS (.bin o a b))):=by
  refine .bz Tryz.f114 95 ?_;have hst:=tS ho;have hsg:=NK hst.1 hst.2;have hsa2:=NL ho;have hse:=(uX ho).2;refine c98z ?_;refine c255z ?_;refine c153z ?_;refine .nil ?_;refine .T ?_;refine c2z ?_;refine c105z ?_;refine c256z ?_;refine c154z ?_;refine .nil ?_;refine .T ?_;refine c2z ?_;refine c249z ?_;refine .spl 32 rfl rfl (fun e1=>by exfalso;first | omega | (replace e1:=s9z e1;omega) | (simp at e1;omega) | (simp at e1;done)) (fun e1=>?_);try simp only[e1]
  have qe1:=fact e1;refine c158z ?_;refine .spl 39 rfl rfl (fun e2=>by exfalso;first | omega | (replace e2:=s9z e2;omega) | (simp at e2;omega) | (simp at e2;done)) (fun e2=>?_);try simp only[e2]
  have qe2:=fact e2;refine .F ?_;refine c75z ?_;refine .spl 45 rfl rfl (fun e3=>by exfalso;first | omega | (replace e3:=s9z e3;omega) | (simp at e3;omega) | (simp at e3;done)) (fun e3=>?_);try simp only[e3]
  have qe3:=fact e3;refine c158z ?_;refine .spl 53 rfl rfl (fun e4=>by exfalso;first | omega | (replace e4:=s9z e4;omega) | (simp at e4;omega) | (simp at e4;done)) (fun e4=>?_);try simp only[e4]
  have qe4:=fact e4;refine c47z ?_;refine c275z ?_;refine .n ?_;refine c7z ?_;refine .jZ (fun m st=>∃(i:Nat),(m=(sgO (iB o)).length-i∧((∀d,d<i→(sgO (iB o)).getD d 0≠o)∧i≤(sgO (iB o)).length))∧st=⟨mkS 95 [(1,AV.ptr h.length 0 0),(3,AV.own (h.length+2) 1 0 2),(6,AV.vec (sgS (iB o)).length (aQ (sgS (iB o)))),(7,AV.vec (sgO (iB o)).length (l5 (sgO (iB o)))),(8,AV.int .i64 ((i:Nat):Int))],h++[⟨0,false,100,4,[.int .i64 o,.int .i64 0,.str ByteArray.empty,.vec 2 (v9 a++v9 b)],0⟩,⟨0,false,9,1,[.str (⟨#[40]⟩++cS a++⟨#[41]⟩)],0⟩,⟨1,false,9,1,[.str (⟨#[40]⟩++cS a++⟨#[41]⟩),.str (⟨#[40]⟩++cS b++⟨#[41]⟩)],0⟩,⟨0,false,9,1,[.str (⟨#[40]⟩++cS b++⟨#[41]⟩)],0⟩]⟩) _ (.v ⟨0,⟨rfl,⟨t106,by omega⟩⟩,rfl⟩) ?_;rintro m sl h' ⟨i,⟨hm,⟨hI,hi⟩⟩,hst⟩;obtain ⟨rfl,rfl⟩:=St.mk.inj hst;refine c1z ?_;refine u2z ?_ ?_
  ·intro e5 qe5;refine c9z ?_;refine c143z ?_;refine u2z ?_ ?_
   ·intro e6 qe6;refine .c7 [3,6,8] ?_;have hsi:=hsa2 i (by omega) (by assumption);have hss:((sgS (iB o)).getD i ByteArray.empty).size≤2:=by rw[hsi];exact hse
    refine c71z ?_;refine .n [] ?_;exact .ret (.ex (hq:=t179))
   intro e6 qe6;refine c236z ?_;refine .rz ?_;exact ⟨_,by omega,.v ⟨(i+1),⟨rfl,⟨U5 hI (by assumption),by omega⟩⟩,rfl⟩⟩
  intro e5 qe5;refine .exit ?_;exfalso;exact NM ho (fun d hd=>hI d (by omega))
theorem FP (o:Int)(a b:Ex)(ho:5≤o∧o≤17)(hga:1≤a.op∧a.op≤17)(hgb:1≤b.op∧b.op≤17)(hp:mM (.bin o a b) 0=true)(hq:mM (.bin o a b) 1=false)(iha:∀(h:c8),CB 114 [.agg (v9 a)] h (.str (cS a)))(hsa:(cS a).size<1000000)(ihb:∀(h:c8),CB 114 [.agg (v9 b)] h (.str (cS b)))(hsb:(cS b).size<1000000):CB 114 [.agg (v9 (.bin o a b))] h (.str (cS (.bin o a b))):=by
  refine .bz Tryz.f114 95 ?_;have hst:=tS ho;have hsg:=NK hst.1 hst.2;have hsa2:=NL ho;have hse:=(uX ho).2;refine c98z ?_;refine c255z ?_;refine c153z ?_;refine .nil ?_;refine .T ?_;refine c2z ?_;refine c105z ?_;refine c256z ?_;refine c154z ?_;refine .nil ?_;refine c14z ?_;refine c249z ?_;refine .spl 32 rfl rfl (fun e1=>by exfalso;first | omega | (replace e1:=s9z e1;omega) | (simp at e1;omega) | (simp at e1;done)) (fun e1=>?_);try simp only[e1]
  have qe1:=fact e1;refine c158z ?_;refine .spl 39 rfl rfl (fun e2=>by exfalso;first | omega | (replace e2:=s9z e2;omega) | (simp at e2;omega) | (simp at e2;done)) (fun e2=>?_);try simp only[e2]
  have qe2:=fact e2;refine .F ?_;refine c75z ?_;refine .spl 45 rfl rfl (fun e3=>by exfalso;first | omega | (replace e3:=s9z e3;omega) | (simp at e3;omega) | (simp at e3;done)) (fun e3=>?_);try simp only[e3]
  have qe3:=fact e3;refine c158z ?_;refine .spl 53 rfl rfl (fun e4=>by exfalso;first | omega | (replace e4:=s9z e4;omega) | (simp at e4;omega) | (simp at e4;done)) (fun e4=>?_);try simp only[e4]
  have qe4:=fact e4;refine c47z ?_;refine c275z ?_;refine .n ?_;refine c7z ?_;refine .jZ (fun m st=>∃(i:Nat),(m=(sgO (iB o)).length-i∧((∀d,d<i→(sgO (iB o)).getD d 0≠o)∧i≤(sgO (iB o)).length))∧st=⟨mkS 95 [(1,AV.ptr h.length 0 0),(3,AV.own (h.length+2) 1 0 2),(6,AV.vec (sgS (iB o)).length (aQ (sgS (iB o)))),(7,AV.vec (sgO (iB o)).length (l5 (sgO (iB o)))),(8,AV.int .i64 ((i:Nat):Int))],h++[⟨0,false,100,4,[.int .i64 o,.int .i64 0,.str ByteArray.empty,.vec 2 (v9 a++v9 b)],0⟩,⟨0,false,9,1,[.str (⟨#[40]⟩++cS a++⟨#[41]⟩)],0⟩,⟨1,false,9,1,[.str (⟨#[40]⟩++cS a++⟨#[41]⟩),.str (cS b)],0⟩,⟨0,false,9,1,[.str (cS b)],0⟩]⟩) _ (.v ⟨0,⟨rfl,⟨t106,by omega⟩⟩,rfl⟩) ?_;rintro m sl h' ⟨i,⟨hm,⟨hI,hi⟩⟩,hst⟩;obtain ⟨rfl,rfl⟩:=St.mk.inj hst;refine c1z ?_;refine u2z ?_ ?_
  ·intro e5 qe5;refine c9z ?_;refine c143z ?_;refine u2z ?_ ?_
   ·intro e6 qe6;refine .c7 [3,6,8] ?_;have hsi:=hsa2 i (by omega) (by assumption);have hss:((sgS (iB o)).getD i ByteArray.empty).size≤2:=by rw[hsi];exact hse
    refine c71z ?_;refine .n [] ?_;exact .ret (.ex (hq:=t179))
   intro e6 qe6;refine c236z ?_;refine .rz ?_;exact ⟨_,by omega,.v ⟨(i+1),⟨rfl,⟨U5 hI (by assumption),by omega⟩⟩,rfl⟩⟩
  intro e5 qe5;refine .exit ?_;exfalso;exact NM ho (fun d hd=>hI d (by omega))
theorem FQ (o:Int)(a b:Ex)(ho:5≤o∧o≤17)(hga:1≤a.op∧a.op≤17)(hgb:1≤b.op∧b.op≤17)(hp:mM (.bin o a b) 0=false)(hq:mM (.bin o a b) 1=true)(iha:∀(h:c8),CB 114 [.agg (v9 a)] h (.str (cS a)))(hsa:(cS a).size<1000000)(ihb:∀(h:c8),CB 114 [.agg (v9 b)] h (.str (cS b)))(hsb:(cS b).size<1000000):CB 114 [.agg (v9 (.bin o a b))] h (.str (cS (.bin o a b))):=by
  refine .bz Tryz.f114 95 ?_;have hst:=tS ho;have hsg:=NK hst.1 hst.2;have hsa2:=NL ho;have hse:=(uX ho).2;refine c98z ?_;refine c255z ?_;refine c153z ?_;refine .nil ?_;refine c14z ?_;refine c105z ?_;refine c256z ?_;refine c154z ?_;refine .nil ?_;refine .T ?_;refine c2z ?_;refine c249z ?_;refine .spl 32 rfl rfl (fun e1=>by exfalso;first | omega | (replace e1:=s9z e1;omega) | (simp at e1;omega) | (simp at e1;done)) (fun e1=>?_);try simp only[e1]
  have qe1:=fact e1;refine c158z ?_;refine .spl 39 rfl rfl (fun e2=>by exfalso;first | omega | (replace e2:=s9z e2;omega) | (simp at e2;omega) | (simp at e2;done)) (fun e2=>?_);try simp only[e2]
  have qe2:=fact e2;refine .F ?_;refine c75z ?_;refine .spl 45 rfl rfl (fun e3=>by exfalso;first | omega | (replace e3:=s9z e3;omega) | (simp at e3;omega) | (simp at e3;done)) (fun e3=>?_);try simp only[e3]
  have qe3:=fact e3;refine c158z ?_;refine .spl 53 rfl rfl (fun e4=>by exfalso;first | omega | (replace e4:=s9z e4;omega) | (simp at e4;omega) | (simp at e4;done)) (fun e4=>?_);try simp only[e4]
  have qe4:=fact e4;refine c47z ?_;refine c275z ?_;refine .n ?_;refine c7z ?_;refine .jZ (fun m st=>∃(i:Nat),(m=(sgO (iB o)).length-i∧((∀d,d<i→(sgO (iB o)).getD d 0≠o)∧i≤(sgO (iB o)).length))∧st=⟨mkS 95 [(1,AV.ptr h.length 0 0),(3,AV.own (h.length+2) 1 0 2),(6,AV.vec (sgS (iB o)).length (aQ (sgS (iB o)))),(7,AV.vec (sgO (iB o)).length (l5 (sgO (iB o)))),(8,AV.int .i64 ((i:Nat):Int))],h++[⟨0,false,100,4,[.int .i64 o,.int .i64 0,.str ByteArray.empty,.vec 2 (v9 a++v9 b)],0⟩,⟨0,false,9,1,[.str (cS a)],0⟩,⟨1,false,9,1,[.str (cS a),.str (⟨#[40]⟩++cS b++⟨#[41]⟩)],0⟩,⟨0,false,9,1,[.str (⟨#[40]⟩++cS b++⟨#[41]⟩)],0⟩]⟩) _ (.v ⟨0,⟨rfl,⟨t106,by omega⟩⟩,rfl⟩) ?_;rintro m sl h' ⟨i,⟨hm,⟨hI,hi⟩⟩,hst⟩;obtain ⟨rfl,rfl⟩:=St.mk.inj hst;refine c1z ?_;refine u2z ?_ ?_
  ·intro e5 qe5;refine c9z ?_;refine c143z ?_;refine u2z ?_ ?_
   ·intro e6 qe6;refine .c7 [3,6,8] ?_;have hsi:=hsa2 i (by omega) (by assumption);have hss:((sgS (iB o)).getD i ByteArray.empty).size≤2:=by rw[hsi];exact hse
    refine c71z ?_;refine .n [] ?_;exact .ret (.ex (hq:=t179))
   intro e6 qe6;refine c236z ?_;refine .rz ?_;exact ⟨_,by omega,.v ⟨(i+1),⟨rfl,⟨U5 hI (by assumption),by omega⟩⟩,rfl⟩⟩
  intro e5 qe5;refine .exit ?_;exfalso;exact NM ho (fun d hd=>hI d (by omega))
theorem FR (o:Int)(a b:Ex)(ho:5≤o∧o≤17)(hga:1≤a.op∧a.op≤17)(hgb:1≤b.op∧b.op≤17)(hp:mM (.bin o a b) 0=false)(hq:mM (.bin o a b) 1=false)(iha:∀(h:c8),CB 114 [.agg (v9 a)] h (.str (cS a)))(hsa:(cS a).size<1000000)(ihb:∀(h:c8),CB 114 [.agg (v9 b)] h (.str (cS b)))(hsb:(cS b).size<1000000):CB 114 [.agg (v9 (.bin o a b))] h (.str (cS (.bin o a b))):=by
  refine .bz Tryz.f114 95 ?_;have hst:=tS ho;have hsg:=NK hst.1 hst.2;have hsa2:=NL ho;have hse:=(uX ho).2;refine c98z ?_;refine c255z ?_;refine c153z ?_;refine .nil ?_;refine c14z ?_;refine c105z ?_;refine c256z ?_;refine c154z ?_;refine .nil ?_;refine c14z ?_;refine c249z ?_;refine .spl 32 rfl rfl (fun e1=>by exfalso;first | omega | (replace e1:=s9z e1;omega) | (simp at e1;omega) | (simp at e1;done)) (fun e1=>?_);try simp only[e1]
  have qe1:=fact e1;refine c158z ?_;refine .spl 39 rfl rfl (fun e2=>by exfalso;first | omega | (replace e2:=s9z e2;omega) | (simp at e2;omega) | (simp at e2;done)) (fun e2=>?_);try simp only[e2]
  have qe2:=fact e2;refine .F ?_;refine c75z ?_;refine .spl 45 rfl rfl (fun e3=>by exfalso;first | omega | (replace e3:=s9z e3;omega) | (simp at e3;omega) | (simp at e3;done)) (fun e3=>?_);try simp only[e3]
  have qe3:=fact e3;refine c158z ?_;refine .spl 53 rfl rfl (fun e4=>by exfalso;first | omega | (replace e4:=s9z e4;omega) | (simp at e4;omega) | (simp at e4;done)) (fun e4=>?_);try simp only[e4]
  have qe4:=fact e4;refine c47z ?_;refine c275z ?_;refine .n ?_;refine c7z ?_;refine .jZ (fun m st=>∃(i:Nat),(m=(sgO (iB o)).length-i∧((∀d,d<i→(sgO (iB o)).getD d 0≠o)∧i≤(sgO (iB o)).length))∧st=⟨mkS 95 [(1,AV.ptr h.length 0 0),(3,AV.own (h.length+2) 1 0 2),(6,AV.vec (sgS (iB o)).length (aQ (sgS (iB o)))),(7,AV.vec (sgO (iB o)).length (l5 (sgO (iB o)))),(8,AV.int .i64 ((i:Nat):Int))],h++[⟨0,false,100,4,[.int .i64 o,.int .i64 0,.str ByteArray.empty,.vec 2 (v9 a++v9 b)],0⟩,⟨0,false,9,1,[.str (cS a)],0⟩,⟨1,false,9,1,[.str (cS a),.str (cS b)],0⟩,⟨0,false,9,1,[.str (cS b)],0⟩]⟩) _ (.v ⟨0,⟨rfl,⟨t106,by omega⟩⟩,rfl⟩) ?_;rintro m sl h' ⟨i,⟨hm,⟨hI,hi⟩⟩,hst⟩;obtain ⟨rfl,rfl⟩:=St.mk.inj hst;refine c1z ?_;refine u2z ?_ ?_
  ·intro e5 qe5;refine c9z ?_;refine c143z ?_;refine u2z ?_ ?_
   ·intro e6 qe6;refine .c7 [3,6,8] ?_;have hsi:=hsa2 i (by omega) (by assumption);have hss:((sgS (iB o)).getD i ByteArray.empty).size≤2:=by rw[hsi];exact hse
    refine c71z ?_;refine .n [] ?_;exact .ret (.ex (hq:=t179))
   intro e6 qe6;refine c236z ?_;refine .rz ?_;exact ⟨_,by omega,.v ⟨(i+1),⟨rfl,⟨U5 hI (by assumption),by omega⟩⟩,rfl⟩⟩
  intro e5 qe5;refine .exit ?_;exfalso;exact NM ho (fun d hd=>hI d (by omega))
theorem c_textB (o:Int)(a b:Ex)(ho:5≤o∧o≤17)(hga:1≤a.op∧a.op≤17)(hgb:1≤b.op∧b.op≤17)(iha:∀(h:c8),CB 114 [.agg (v9 a)] h (.str (cS a)))(hsa:(cS a).size<1000000)(ihb:∀(h:c8),CB 114 [.agg (v9 b)] h (.str (cS b)))(hsb:(cS b).size<1000000):CB 114 [.agg (v9 (.bin o a b))] h (.str (cS (.bin o a b))):=by
  cases hp:mM (.bin o a b) 0<;>cases hq:mM (.bin o a b) 1
  · exact FR o a b ho hga hgb hp hq iha hsa ihb hsb
  · exact FQ o a b ho hga hgb hp hq iha hsa ihb hsb
  · exact FP o a b ho hga hgb hp hq iha hsa ihb hsb
  · exact FO o a b ho hga hgb hp hq iha hsa ihb hsb
theorem M6:∀{d:Nat},d≤3→B1 d<1000000
  | 0,_=>by decide
  | 1,_=>by decide
  | 2,_=>by decide
  | 3,_=>by decide
theorem vJ {vars:List BA}(hv:Names vars):∀{d:Nat} {e:Ex},d≤3→GE vars d e→∀(h:c8),CB 114 [.agg (v9 e)] h (.str (cS e))
  | d,.leaf o n s,hd,hg,h=>by
    rcases kF.1 hg with ⟨rfl,h1,h2,rfl⟩ | ⟨rfl,rfl,h1⟩
    · exact c_text1 n h1 h2
    · exact c_text2 0 s
  | 0,.un o a,hd,hg,h=>hg.elim
  | 0,.bin o a b,hd,hg,h=>hg.elim
  | d+1,.un o a,hd,hg,h=>c_textU o a hg.1 (GE.op hg.2) (vJ hv (by omega) hg.2) (Nat.lt_of_le_of_lt (cX hv hg.2).2 (M6 (by omega)))
  | d+1,.bin o a b,hd,hg,h=>c_textB o a b hg.1 (GE.op hg.2.1) (GE.op hg.2.2) (vJ hv (by omega) hg.2.1) (Nat.lt_of_le_of_lt (cX hv hg.2.1).2 (M6 (by omega))) (vJ hv (by omega) hg.2.2) (Nat.lt_of_le_of_lt (cX hv hg.2.2).2 (M6 (by omega)))
theorem FT {e:Ex}:o8 [e]=v9 e:=by simp[o8]
theorem FU (x:BA):CB 116 [.agg [.str x,.vec 0 []]] h (.str x):=by refine .bz Tryz.f116 19 ?_;refine c54z ?_;refine .T ?_;refine .z ?_;exact .ret (.ex (hq:=by rfl))
variable {vars:List BA}
theorem c_refT1 (hv:Names vars)(x:BA)(e:Ex)(hg:GE vars 1 e)(hx:x.size≤16):CB 116 [.agg [.str x,.vec 1 (v9 e)]] h (.str (x++KE++cS e++KF)):=by refine .bz Tryz.f116 19 ?_;have hse:=(cX hv hg).2;have hb:B1 1=48:=rfl;refine c54z ?_;refine c14z ?_;refine .ss u9 (mkP 11 [0,1,3,0,8,24,56,120,255,511,1023] []) ?_;refine .k 7 [] ?_;refine .ca rfl rfl (vJ hv (by omega) hg _) ?_;refine .n [] ?_;exact .ret (.ex (hq:=by rfl))
variable {E:Env}
theorem U6 (hE:tG E)(hv:Names vars){r:Rf}(g:GR E vars r):CB 116 [.agg (S6 r)] h (.str (KG r)):=by
  obtain ⟨x,idx⟩:=r;rcases g with ⟨m,hm,hn,⟨_,e,hi,he⟩ | ⟨_,hi⟩⟩ | ⟨p,hp,_,hn,hi⟩
  · have hx:=aG (hE.mn m hm)
    simp only at hn hi;rw[←hn]at hx;subst hi;have:=c_refT1 (h:=h) hv x e he hx;simp only[S6,List.length_singleton,FT];exact this
  · simp only at hi
    subst hi;exact FU x
  · simp only at hi
    subst hi;exact FU x
variable {xs:List Ar}
theorem NN (h:(xs.getD i eC).mu=true)(h0:0<i):fF xs (i+1)=fF xs i++mN++cA++KG (xs.getD i eC).r:=by rw[fF,if_pos h,if_pos h0]
theorem NO (h:(xs.getD i eC).mu=true)(h0:¬0<i):fF xs (i+1)=fF xs i++cA++KG (xs.getD i eC).r:=by rw[fF,if_pos h,if_neg h0]
theorem NP (h:(xs.getD i eC).mu=false)(h0:0<i):fF xs (i+1)=fF xs i++mN++cS (xs.getD i eC).e:=by rw[fF,if_neg t229,if_pos h0]
theorem NQ (h:(xs.getD i eC).mu=false)(h0:¬0<i):fF xs (i+1)=fF xs i++cS (xs.getD i eC).e:=by rw[fF,if_neg t229,if_neg h0]
theorem vK {a:Ar}:CF a=[.bool a.mu,.str a.r.name,.vec a.r.idx.length (o8 a.r.idx),.int .i64 a.e.op,.int .i64 a.e.num,.str a.e.name,.vec a.e.args.length (o8 a.e.args)]:=by rw[CF,bZ]
variable {l:List Ar}
theorem NR (h:i<l.length):List.take 1 (List.drop (i*7) (bU l))=[AV.bool (l.getD i eC).mu]:=by have:=congrArg (fun x=>x.take 1) (uU h);simp only[List.take_take,vK]at this;simpa using this
theorem read_ar (h:i<l.length):List.take 2 (List.drop (i*7+1) (bU l))=S6 (l.getD i eC).r:=by have:=congrArg (fun x=>(x.drop 1).take 2) (uU h);simp only[vK,List.drop_take,List.take_take,List.drop_drop]at this;simpa [S6] using this
theorem read_ae (h:i<l.length):List.take 4 (List.drop (i*7+3) (bU l))=v9 (l.getD i eC).e:=by have:=congrArg (fun x=>(x.drop 3).take 4) (uU h);simp only[vK,List.drop_take,List.take_take,List.drop_drop]at this;rw[bZ];simpa using this
theorem BG (hE:tG E)(hv:Names vars)(h:∀a∈xs,(a.mu=true∧GR E vars a.r)∨(a.mu=false∧GE vars 2 a.e))(i:Nat)(hi:i≤xs.length):(fF xs i).size≤1+112*i:=(zB hE hv h i hi).2.1
theorem SS (h:∀a∈xs,(a.mu=true∧GR E vars a.r)∨(a.mu=false∧GE vars 2 a.e))(hi:i<xs.length):((xs.getD i eC).mu=true→GR E vars (xs.getD i eC).r)∧((xs.getD i eC).mu=false→GE vars 2 (xs.getD i eC).e):=by
  have hm:=h _ (j7 (d:=eC) hi);rcases hm with ⟨h1,h2⟩ | ⟨h1,h2⟩
  · exact ⟨fun _=>h2,fun h=>absurd (h1.symm.trans h) (by decide)⟩
  · exact ⟨fun h=>absurd (h1.symm.trans h) (by decide),fun _=>h2⟩
section
attribute [local go_sem] NR read_ar read_ae
theorem FV (hE:tG E)(hv:Names vars)(xs:List Ar)(ha:∀a∈xs,(a.mu=true∧GR E vars a.r)∨(a.mu=false∧GE vars 2 a.e))(hl:xs.length≤100):CB 115 [.vec xs.length (bU xs)] h (.str (SB xs)):=by
  refine .bz Tryz.f115 39 ?_;refine c98z ?_;refine .jZ (fun m st=>∃(i:Nat),(m=xs.length-i∧i≤xs.length)∧st=⟨mkS 39 [(0,AV.vec xs.length (bU xs)),(3,AV.str (fF xs i)),(4,AV.int .i64 ((i:Nat):Int))],h⟩) _ (.v ⟨0,⟨rfl,by omega⟩,rfl⟩ (hs:=t40)) ?_;rintro m sl h' ⟨i,⟨hm,hi⟩,hst⟩;obtain ⟨rfl,rfl⟩:=St.mk.inj hst;have hsz:=BG hE hv ha i hi;refine c1z ?_;refine u2z ?_ ?_
  ·intro e1 qe1;refine c9z ?_;refine c1z ?_;refine u2z ?_ ?_
   ·intro e2 qe2;refine c2z ?_;refine .c7 [0,3,4] ?_;have har:=SS ha (i:=i) (by omega);refine .z ?_;refine u2z ?_ ?_
    ·intro e3 qe3;have hrs:=((har.1 (by assumption)).pw hE hv).2;refine .r ?_;refine .e 7 ?_;refine .ca rfl rfl (U6 hE hv (har.1 (by assumption))) ?_;refine c265z ?_;refine .rz ?_;exact ⟨_,by omega,.v ⟨(i+1),⟨rfl,by omega⟩,rfl⟩ (hs:=t40)⟩
    intro e3 qe3;have hes:=(cX hv (har.2 (by assumption))).2;have hb:B1 2=104:=rfl;refine .r ?_;refine .e 6 ?_;refine .ca rfl rfl (vJ hv (by omega) (har.2 (by assumption)) _) ?_;refine c265z ?_;refine .rz ?_;exact ⟨_,by omega,.v ⟨(i+1),⟨rfl,by omega⟩,rfl⟩ (hs:=t40)⟩
   intro e2 qe2;refine .sk ?_;have har:=SS ha (i:=i) (by omega);refine .z ?_;refine u2z ?_ ?_
   ·intro e4 qe4;refine .c7 [0,3,4] ?_;have hrs:=((har.1 (by assumption)).pw hE hv).2;refine .r ?_;refine .e 7 ?_;refine .ca rfl rfl (U6 hE hv (har.1 (by assumption))) ?_;refine c265z ?_;refine .rz ?_;exact ⟨_,by omega,.v ⟨(i+1),⟨rfl,by omega⟩,rfl⟩ (hs:=t40)⟩
   intro e4 qe4;refine .c7 [0,3,4] ?_;have hes:=(cX hv (har.2 (by assumption))).2;have hb:B1 2=104:=rfl;refine .r ?_;refine .e 6 ?_;refine .ca rfl rfl (vJ hv (by omega) (har.2 (by assumption)) _) ?_;refine c265z ?_;refine .rz ?_;exact ⟨_,by omega,.v ⟨(i+1),⟨rfl,by omega⟩,rfl⟩ (hs:=t40)⟩
  intro e1 qe1;refine .exit ?_;obtain rfl:i=xs.length:=by omega
  change g7 ..;refine c15z ?_;exact ⟨[],_,(List.append_nil _).symm,t67,by rfl⟩
end
section
attribute [local go_sem] n4
theorem c_noE:CB 94 [.agg (v9 n4)] h (.bool true):=by refine .bz Tryz.f94 22 ?_;refine c61z ?_;refine .k 8 [(3,6)] ?_;refine .k 8 [(8,11),(13,16)] ?_;refine .m [(13,16)] ?_;exact .ret (.ex (hq:=by rfl))
end
theorem c_noR:CB 96 [.agg (S6 o5)] h (.bool true):=by show l6 _ _ _ [.agg [.str ByteArray.empty,.vec 0 []]] _ _;refine .bz Tryz.f96 12 ?_;refine c61z ?_;refine .k 8 [(3,6)] ?_;refine .n ?_;exact .ret (.ex (hq:=by rfl))
theorem SU (x:BA)(hx:isName (L8 x))(hr:tP x=false):CB 95 [.agg [.str x,.vec 0 []]] h (.bool true):=by refine .bz Tryz.f95 25 ?_;refine .z ?_;refine c39z ?_;refine .ca rfl rfl (nB _ hx hr) ?_;refine .k 8 [(3,6),(8,11)] ?_;refine .k 8 [(8,11),(13,16)] ?_;refine .m [(3,6),(8,11)] ?_;exact .ret (.ex (hq:=by rfl))
theorem c_okR1 (hv:aM vars)(x:BA)(hx:isName (L8 x))(hr:tP x=false)(e:Ex)(hg:GE vars 1 e):CB 95 [.agg [.str x,.vec 1 (v9 e)]] h (.bool true):=by refine .bz Tryz.f95 25 ?_;refine .z ?_;refine c39z ?_;refine .ca rfl rfl (nB _ hx hr) ?_;refine .k 8 [(3,6),(8,11)] ?_;refine .k 7 [(8,11),(13,16)] ?_;refine .ca rfl rfl (U4 hv (by omega) e hg) ?_;refine .m [(3,6),(8,11)] ?_;exact .ret (.ex (hq:=by rfl))
structure GRes (E:Env):Prop where
  mn:∀m∈E.c5,tP m.name=false
  pn:∀p∈E.params,tP p.name=false
theorem NS (hE:tG E)(hR:GRes E)(hv:aM vars){r:Rf}(g:GR E vars r):CB 95 [.agg (S6 r)] h (.bool true):=by
  obtain ⟨x,idx⟩:=r;rcases g with ⟨m,hm,hn,⟨_,e,hi,he⟩ | ⟨_,hi⟩⟩ | ⟨p,hp,_,hn,hi⟩
  · have h1:=hE.mn m hm
    have h2:=hR.mn m hm;simp only at hn hi;rw[←hn]at h1 h2;subst hi;have:=c_okR1 (h:=h) hv x h1 h2 e he;simp only[S6,List.length_singleton,FT];exact this
  · have h1:=hE.mn m hm
    have h2:=hR.mn m hm;simp only at hn hi;rw[←hn]at h1 h2;subst hi;exact SU x h1 h2
  · have h1:=hE.pn p hp
    have h2:=hR.pn p hp;simp only at hn hi;rw[←hn]at h1 h2;subst hi;exact SU x h1 h2
end Go.Proofs.YtapdldekgbbomaaGreatDoor
end
section
namespace Go.Un
open Go.Ab
theorem dQ:∀s:Sl,s.len≤s.wt
 | .nil=>Nat.le_refl _
 | .cons k n e r as1 th el rest=>by have:=dQ rest;simp only[Sl.len,Sl.wt];omega
section
variable {c:Core}{ps:List Pm}{blk:List BA→Int→Int→Int→Int→BR}{vs:List BA}{deep J l:Int}
theorem r_lock (h:(c6 c.L J 14).1<4):u0 c ps blk vs deep J l=(row 5 ByteArray.empty n4 (w7 c ps vs (c6 c.L J 14).2).1 [] .nil .nil,vs,(w7 c ps vs (c6 c.L J 14).2).2,l):=by unfold u0 jS;rw[if_pos h]
theorem NT (h0:¬(c6 c.L J 14).1<4)(h:(c6 c.L J 14).1<7):u0 c ps blk vs deep J l=(row 6 ByteArray.empty n4 (w7 c ps vs (c6 c.L J 14).2).1 [] .nil .nil,vs,(w7 c ps vs (c6 c.L J 14).2).2,l):=by unfold u0 jS;rw[if_neg h0,if_pos h]
theorem r_var (h:(c6 c.L J 14).1=7):u0 c ps blk vs deep J l=(row 1 (vnm l.toNat) (j8 c vs (c6 c.L J 14).2).1 o5 [] .nil .nil,vs++[vnm l.toNat],(j8 c vs (c6 c.L J 14).2).2,l):=by unfold u0 jS;rw[if_neg (by omega),if_neg (by omega),if_pos h]
theorem NU (h:(c6 c.L J 14).1=8)(h2:0<vs.length):u0 c ps blk vs deep J l=(row 2 (vs.getD (c6 c.L (c6 c.L J 14).2 vs.length).1.toNat ByteArray.empty) (j8 c vs (c6 c.L (c6 c.L J 14).2 vs.length).2).1 o5 [] .nil .nil,vs,(j8 c vs (c6 c.L (c6 c.L J 14).2 vs.length).2).2,l):=by unfold u0 jS;rw[if_neg (by omega),if_neg (by omega),if_neg (by omega),if_pos ⟨h,h2⟩]
theorem r_call (h:(c6 c.L J 14).1=9):u0 c ps blk vs deep J l=(row 3 (c.fs.getD (c6 c.L (c6 c.L J 14).2 c.fs.length).1.toNat j9).name n4 o5 (aK c ps vs (c.fs.getD (c6 c.L (c6 c.L J 14).2 c.fs.length).1.toNat j9).params (c6 c.L (c6 c.L J 14).2 c.fs.length).2).1 .nil .nil,vs,
   (aK c ps vs (c.fs.getD (c6 c.L (c6 c.L J 14).2 c.fs.length).1.toNat j9).params (c6 c.L (c6 c.L J 14).2 c.fs.length).2).2,l):=by
 unfold u0 jS;rw[if_neg (by omega),if_neg (by omega),if_neg (by omega),if_neg (by omega),if_pos (.inl h),if_neg (by omega)]
theorem r_go (h:(c6 c.L J 14).1=10):u0 c ps blk vs deep J l=(row 4 (c.fs.getD (c6 c.L (c6 c.L J 14).2 c.fs.length).1.toNat j9).name n4 o5 (aK c ps vs (c.fs.getD (c6 c.L (c6 c.L J 14).2 c.fs.length).1.toNat j9).params (c6 c.L (c6 c.L J 14).2 c.fs.length).2).1 .nil .nil,vs,
   (aK c ps vs (c.fs.getD (c6 c.L (c6 c.L J 14).2 c.fs.length).1.toNat j9).params (c6 c.L (c6 c.L J 14).2 c.fs.length).2).2,l):=by
 unfold u0 jS;rw[if_neg (by omega),if_neg (by omega),if_neg (by omega),if_neg (by omega),if_pos (.inr h),if_pos h]
variable {b:BR}
theorem r_if (h:(c6 c.L J 14).1=11)(h2:0<deep){d:BR}(hb:blk vs (deep-1) 3 (j8 c vs (c6 c.L J 14).2).2 l=b)(h3:(c6 c.L b.2.1 2).1=1)(hd:blk vs (deep-1) 3 (c6 c.L b.2.1 2).2 b.2.2=d):u0 c ps blk vs deep J l=(row 7 ByteArray.empty (j8 c vs (c6 c.L J 14).2).1 o5 [] b.1 d.1,vs,d.2.1,d.2.2):=by unfold u0 jS;rw[if_neg (by omega),if_neg (by omega),if_neg (by omega),if_neg (by omega),if_neg (by omega),if_pos ⟨h,h2⟩,hb];unfold ifK;rw[if_pos h3,hd]
theorem r_if2 (h:(c6 c.L J 14).1=11)(h2:0<deep)(hb:blk vs (deep-1) 3 (j8 c vs (c6 c.L J 14).2).2 l=b)(h3:¬(c6 c.L b.2.1 2).1=1):u0 c ps blk vs deep J l=(row 7 ByteArray.empty (j8 c vs (c6 c.L J 14).2).1 o5 [] b.1 .nil,vs,(c6 c.L b.2.1 2).2,b.2.2):=by unfold u0 jS;rw[if_neg (by omega),if_neg (by omega),if_neg (by omega),if_neg (by omega),if_neg (by omega),if_pos ⟨h,h2⟩,hb];unfold ifK;rw[if_neg h3]
theorem r_while (h:(c6 c.L J 14).1=12)(h2:0<deep)(hb:blk vs (deep-1) 3 (j8 c vs (c6 c.L J 14).2).2 l=b):u0 c ps blk vs deep J l=(row 8 ByteArray.empty (j8 c vs (c6 c.L J 14).2).1 o5 [] b.1 .nil,vs,b.2.1,b.2.2):=by unfold u0 jS;rw[if_neg (by omega),if_neg (by omega),if_neg (by omega),if_neg (by omega),if_neg (by omega),if_neg (by omega),if_pos ⟨h,h2⟩,hb]
theorem r_ret (h:(c6 c.L J 14).1=13)(h2:(c6 c.L (c6 c.L J 14).2 3).1=1):u0 c ps blk vs deep J l=(row 9 ByteArray.empty n4 o5 [] .nil .nil,vs,(c6 c.L (c6 c.L J 14).2 3).2,l):=by unfold u0 jS;rw[if_neg (by omega),if_neg (by omega),if_neg (by omega),if_neg (by omega),if_neg (by omega),if_neg (by omega),if_neg (by omega),if_pos ⟨h,h2⟩]
theorem NV (h:(c6 c.L J 14).1=13)(h2:¬(c6 c.L (c6 c.L J 14).2 3).1=1)(hb:blk vs 0 2 (w7 c ps vs (c6 c.L (c6 c.L J 14).2 3).2).2 l=b):u0 c ps blk vs deep J l=prK vs (w7 c ps vs (c6 c.L (c6 c.L J 14).2 3).2).1 b:=by unfold u0 jS;rw[if_neg (by omega),if_neg (by omega),if_neg (by omega),if_neg (by omega),if_neg (by omega),if_neg (by omega),if_neg (by omega),if_neg (by omega),if_pos h,hb]
theorem FW (h7:7<(c6 c.L J 14).1)(h13:¬(c6 c.L J 14).1=13)(h8:(c6 c.L J 14).1=8→vs.length=0)(h9:¬(c6 c.L J 14).1=9)(h10:¬(c6 c.L J 14).1=10)(h11:(c6 c.L J 14).1=11→deep≤0)(h12:(c6 c.L J 14).1=12→deep≤0)(hb:blk vs 0 2 (w7 c ps vs (c6 c.L J 14).2).2 l=b):u0 c ps blk vs deep J l=prK vs (w7 c ps vs (c6 c.L J 14).2).1 b:=by unfold u0 jS;rw[if_neg (by omega),if_neg (by omega),if_neg (by omega),if_neg (by omega),if_neg (by omega),if_neg (by omega),if_neg (by omega),if_neg (by omega),if_neg h13,hb]
end
variable {out:Sl}
theorem dH {c:Core}{ps:List Pm}{blk:List BA→Int→Int→Int→Int→BR}{n:Nat}{vs vs':List BA}{deep J l J' l':Int}{S:Sl}{R:BR}(h:iE c ps blk (n+1) vs deep out J l=R)(hl:0<l)(hr:u0 c ps blk vs deep J (l-1)=(S,vs',J',l')):iE c ps blk n vs' deep (out.app S) J' l'=R:=by rw[iE,if_neg (by omega),hr]at h;exact h
theorem U7 {c:Core}{ps:List Pm}{blk:List BA→Int→Int→Int→Int→BR}{n:Nat}{vs:List BA}{deep J l:Int}{R:BR}(h:iE c ps blk n vs deep out J l=R)(hl:n=0∨l≤0):R=(out,J,l):=by
 rw[←h];cases n with
 | zero=>rfl
 | succ n=>rw[iE,if_pos (by omega)]
theorem bX {c:Core}(hc:OkC c){ps:List Pm}{fu:Nat}(hfu:fu≤23){all vs vs':List BA}{left0 deep J l J' l':Int}{out S:Sl}(h0:left0≤fu+1)(hd:0≤deep)(ho:OkB (BB c ps) c.L all left0 (deep.toNat+1) (out,J,l))(hv:∀x∈vs,x∈aH out all)(hl:0<l)
  (hr:u0 c ps (g9 c ps fu) vs deep J (l-1)=(S,vs',J',l')):OkB (BB c ps) c.L all left0 (deep.toNat+1) (out.app S,J',l')∧l'≤l-1∧∀x∈vs',x∈aH (out.app S) all:=by
 have hl2:=ho.ol;have hw:=ho.wt;have hdp:=ho.dep;simp only at hl2 hw hdp;obtain ⟨r1,r2,r3⟩:=T7 hc (ps:=ps) (blk:=g9 c ps fu) (vars:=vs) (all:=aH out all) (deep:=deep) (I:=J) (left:=l-1) ho.oi ⟨by omega,by omega⟩ hd hv (ho.fr.mono t103) fun d most I all' l' a1 a2 a3 a4 a5 a6 a7=>iQ hc fu vs d most I all' l' a1 a2 a3 a4 (by omega) (by omega) a6 a7;rw[hr]at r1 r2 r3;have q1:=r1.ol;have q2:=r1.wt;have q3:=r1.dep;simp only at q1 q2 q3 r2 r3;refine ⟨⟨r1.oi,⟨q1.1,t103⟩,GS.app.2 ⟨ho.gs,r1.gs⟩,?_,?_,?_⟩,r2,?_⟩
 ·simp only[gI];exact r1.fr
 ·simp only[Sl.E6];omega
 ·simp only[zF];omega
 ·rw[gI];exact r3
def Cf (l:List Mx):Prop:=∀j,j<l.length→(l.getD j dC).name=mnm j∧0≤(l.getD j dC).size∧(l.getD j dC).size≤3∧((l.getD j dC).re=true→(l.getD j dC).size=0)
def Cg (l:List Gl):Prop:=∀j,j<l.length→(l.getD j mE).name=gnm j ∧ -10≤(l.getD j mE).init∧(l.getD j mE).init≤10
def NX (N n:Nat)(l:List Pm):Prop:=(n=N∧l=[])∨(N=1∧n=0∧l.map (·.name)=[pnm 1])∨(N=2∧n=1∧l.map (·.name)=[pnm 2])∨(N=2∧n=0∧l.map (·.name)=[pnm 2,pnm 1])
def NY (l:List Fu):Prop:=∀j,j<l.length→(l.getD j j9).name=fnm j∧(j=0→(l.getD j j9).params=[])∧
  ((l.getD j j9).params.map (·.name)=[]∨(l.getD j j9).params.map (·.name)=[pnm 1]∨(l.getD j j9).params.map (·.name)=[pnm 2,pnm 1])
variable {j:Nat}
theorem vL {α:Type}{l:List α}{x d:α}(h:j<(l++[x]).length):(j<l.length∧(l++[x]).getD j d=l.getD j d)∨(j=l.length∧(l++[x]).getD j d=x):=by
 simp at h;by_cases hj:j<l.length
 ·exact .inl ⟨hj,by simp[List.getD,List.getElem?_append_left hj]⟩
 ·obtain rfl:j=l.length:=by omega
  exact .inr ⟨rfl,by simp[List.getD]⟩
theorem Cf.snoc {l:List Mx}(h:Cf l){m:Mx}(h1:m.name=mnm l.length)(h2:0≤m.size∧m.size≤3)(h3:m.re=true→m.size=0):Cf (l++[m]):=fun j hj=>by
 rcases vL (d:=dC) hj with ⟨q,e⟩ | ⟨rfl,e⟩
 ·rw[e];exact h j q
 ·rw[e];exact ⟨h1,h2.1,h2.2,h3⟩
theorem Cg.snoc {l:List Gl}(h:Cg l){m:Gl}(h1:m.name=gnm l.length)(h2:-10≤m.init∧m.init≤10):Cg (l++[m]):=fun j hj=>by
 rcases vL (d:=mE) hj with ⟨q,e⟩ | ⟨rfl,e⟩
 ·rw[e];exact h j q
 ·rw[e];exact ⟨h1,h2⟩
theorem NY.snoc {l:List Fu}(h:NY l){f:Fu}(h1:f.name=fnm l.length)(h2:l.length=0→f.params=[])(h3:f.params.map (·.name)=[]∨f.params.map (·.name)=[pnm 1]∨f.params.map (·.name)=[pnm 2,pnm 1]):NY (l++[f]):=fun j hj=>by
 rcases vL (d:=j9) hj with ⟨q,e⟩ | ⟨rfl,e⟩
 ·rw[e];exact h j q
 ·rw[e];exact ⟨h1,h2,h3⟩
variable {N n:Nat}{l:List Pm}
theorem NX.step (h:NX N n l)(hn:0<n)(hN:N≤2){p:Pm}(hp:p.name=pnm n):NX N (n-1) (l++[p]):=by
 rcases h with ⟨rfl,rfl⟩ | ⟨_,h,_⟩ | ⟨rfl,rfl,h⟩ | ⟨_,h,_⟩
 ·have:n=1∨n=2:=by omega
  rcases this with rfl | rfl
  ·exact .inr (.inl ⟨rfl,rfl,by simp[hp]⟩)
  ·exact .inr (.inr (.inl ⟨rfl,rfl,by simp[hp]⟩))
 ·omega
 ·exact .inr (.inr (.inr ⟨rfl,rfl,by simp[h,hp]⟩))
 ·omega
theorem NX.fin (h:NX N n l)(hn:n=0∨l=[])(hN:N≤2):l.map (·.name)=[]∨l.map (·.name)=[pnm 1]∨l.map (·.name)=[pnm 2,pnm 1]:=by
 rcases h with ⟨rfl,rfl⟩ | ⟨_,_,h⟩ | ⟨_,h1,h⟩ | ⟨_,_,h⟩
 ·exact .inl rfl
 ·exact .inr (.inl h)
 ·rcases hn with hn | hn
  ·omega
  ·subst hn;exact .inl rfl
 ·exact .inr (.inr h)
theorem NX.len (h:NX N n l):l.length≤2:=by
 have:l.length=(l.map (·.name)).length:=by simp
 rcases h with ⟨rfl,rfl⟩ | ⟨_,_,h⟩ | ⟨_,_,h⟩ | ⟨_,_,h⟩
 ·simp
 all_goals rw[this,h];simp
def dI (l:List Pm):List BA:=(l.filter fun x=>!x.mu).map (·.name)
theorem G3 (h:j<l.length):dI (l.take (j+1))=dI (l.take j)++(if (l.getD j iO).mu then [] else [(l.getD j iO).name]):=by unfold dI;rw[List.take_add_one,List.filter_append,List.map_append];congr 1;simp only[List.getD_eq_getElem?_getD,List.getElem?_eq_getElem h,Option.toList_some,Option.getD_some,List.filter_cons,List.filter_nil];cases l[j].mu<;>rfl
def setBody (fs:List Fu)(i:Nat)(B:Sl):List Fu:=fs.set i { fs.getD i j9 with body:=B }
def oA (fs:List Fu):List (BA×List Pm):=fs.map fun f=>(f.name,f.params)
variable {fs:List Fu}{i:Nat}{B:Sl}
theorem lP:(setBody fs i B).length=fs.length:=by simp[setBody]
theorem lQ (h:i<fs.length):(setBody fs i B).getD j j9=if j=i then { fs.getD i j9 with body:=B } else fs.getD j j9:=by
 unfold setBody;by_cases e:j=i
 ·subst e;simp[List.getD,h]
 ·rw[if_neg e];simp[List.getD,List.getElem?_set_ne (Ne.symm e)]
theorem qA (h:i<fs.length):oA (setBody fs i B)=oA fs:=by
 refine List.ext_getElem (by simp[oA,setBody]) fun j h1 h2=>?_;have hj:j<fs.length:=by simpa [oA] using h2
 have e:=lQ (j:=j) (B:=B) h;have e1:(setBody fs i B).getD j j9=(setBody fs i B)[j]'(by rw[lP];exact hj):=by simp[List.getD,lP,hj]
 have e2:fs.getD j j9=fs[j]:=by simp[List.getD,hj]
 simp only[oA,List.getElem_map];rw[←e1,←e2,e];split
 ·rename_i q;subst q;rfl
 ·rfl
theorem NY.oA {l l':List Fu}(h:NY l)(e:oA l'=oA l):NY l':=fun j hj=>by
 have hl:l'.length=l.length:=by have:=congrArg List.length e;simpa [Un.oA] using this
 have e1:∀(m:List Fu),j<m.length→(Un.oA m).getD j (ByteArray.empty,[])=((m.getD j j9).name,(m.getD j j9).params):=fun m hm=>by simp[Un.oA,List.getD,hm]
 have h1:=e1 l' hj;have h2:=e1 l (by omega);rw[e,h2]at h1;injection h1 with h3 h4;have:=h j (by omega);rw[h3,h4]at this;exact this
structure He (gs:List Gl)(ms:List Mx)(fs:List Fu)(i:Nat)(left:Int):Prop where
 body:∀j,j<i→GS ⟨gs.map (·.name),ms,oA fs,(fs.getD j j9).params⟩ (fs.getD j j9).body (gs.map (·.name)++dI (fs.getD j j9).params)∧(fs.getD j j9).body.dep≤3
 wt:sQ fs i≤2*(24-left).toNat
 ol:0≤left∧left≤24
theorem xB {l l':List Fu}:∀i,(∀j,j<i→(l.getD j j9).body=(l'.getD j j9).body)→sQ l i=sQ l' i
 | 0,_=>rfl
 | i+1,h=>by rw[sQ,sQ,xB i fun j hj=>h j (by omega),h i (by omega)]
theorem He.step {gs:List Gl}{ms:List Mx}{fs:List Fu}{i:Nat}{left left':Int}{L:List Int}{B:Sl}{I':Int}(h:He gs ms fs i left)(hi:i<fs.length)
  (hb:OkB ⟨gs.map (·.name),ms,oA fs,(fs.getD i j9).params⟩ L (gs.map (·.name)++dI (fs.getD i j9).params) left 3 (B,I',left')):He gs ms (setBody fs i B) (i+1) left':=by
 have hol:=hb.ol;have hwt:=hb.wt;have h1:=h.ol;have h2:=h.wt;simp only at hol hwt;refine ⟨fun j hj=>?_,?_,by omega⟩
 ·rw[qA hi,lQ hi];by_cases e:j=i
  ·subst e;rw[if_pos rfl];exact ⟨hb.gs,hb.dep⟩
  ·rw[if_neg e];exact h.body j (by omega)
 ·have e1:sQ (setBody fs i B) i=sQ fs i:=xB i fun j hj=>by rw[lQ hi,if_neg (by omega)]
  rw[sQ,e1,lQ hi,if_pos rfl];simp only;omega
variable {gs:List Gl}
theorem prog_ok {ms:List Mx}{left:Int}(hg:Cg gs)(hgl:gs.length≤2)(hm:Cf ms)(hml:1≤ms.length∧ms.length≤4)(hf:NY fs)(hfl:1≤fs.length∧fs.length≤4)(hb:He gs ms fs fs.length left):GP ⟨gs,ms,fs⟩:=by have hw:=hb.wt;have hl:=hb.ol;refine ⟨⟨hgl,hg,hml,hm,hfl,hf⟩,fun i hi=>?_,by show sQ fs fs.length≤48;omega⟩;exact hb.body i hi
theorem BH {ps:List Pm}(hg:Cg gs)(hgl:gs.length≤2)(hp:ps.map (·.name)=[]∨ps.map (·.name)=[pnm 1]∨ps.map (·.name)=[pnm 2,pnm 1]):Fr 24 (gs.map (·.name)++dI ps):=by
 intro j hj hm;refine F1 j hj ?_;rcases List.mem_append.1 hm with hm | hm
 ·obtain ⟨g,hg1,hg2⟩:=List.mem_map.1 hm;obtain ⟨k,hk,rfl⟩:=cJ (d:=mE) hg1;rw[←hg2,(hg k hk).1];exact List.mem_append.2 (.inl (List.mem_map.2 ⟨k,List.mem_range.2 (by omega),rfl⟩))
 ·obtain ⟨p,hp1,hp2⟩:=List.mem_map.1 hm;have hp3:p.name∈ps.map (·.name):=List.mem_map.2 ⟨p,(List.mem_filter.1 hp1).1,rfl⟩;rw[hp2]at hp3;refine List.mem_append.2 (.inr (List.mem_append.2 (.inr (List.mem_append.2 (.inr ?_)))));rcases hp with e | e | e
  ·rw[e]at hp3;simp at hp3
  ·rw[e]at hp3;simp at hp3;rw[hp3];simp
  ·rw[e]at hp3;simpa using hp3
theorem okC_of {L:List Int}{ms:List Mx}{gF:Nat}{ar:Bool}(hm:Cf ms)(hml:1≤ms.length∧ms.length≤4)(hf:NY fs)(hfl:1≤fs.length∧fs.length≤4):OkC ⟨L,gs,ms,fs,gF,ar⟩:=by
 refine ⟨hml,fun i hi=>⟨(hm i hi).2.1,(hm i hi).2.2.1⟩,hfl,fun f hff=>?_⟩;obtain ⟨k,hk,rfl⟩:=cJ (d:=j9) hff;have h1:=(hf k hk).2.2;have h2:(fs.getD k j9).params.length=((fs.getD k j9).params.map (·.name)).length:=by simp
 rw[h2];rcases h1 with e | e | e<;>rw[e]<;>simp
end Go.Un
end
section
namespace Go.Proofs.YtapdldekgbbomaaGreatDoor
open Go.Ab Go.Un
theorem vM {s:BA}:tP s=SJ.any fun x=>L8 x==L8 s:=by simp only[tP,hasB,ByteArray.toList_eq];rfl
theorem FX:∀j,j<24→tP (vnm j)=false:=by
  intro j hj;rw[vM];have key:∀j,j<24→(SJ.any fun x=>L8 x==L8 (vnm j))=false:=by decide
  exact key j hj
theorem FY:∀j,j<2→tP (gnm j)=false:=by
  intro j hj;rw[vM];have key:∀j,j<2→(SJ.any fun x=>L8 x==L8 (gnm j))=false:=by decide
  exact key j hj
theorem FZ:∀j,j<4→tP (mnm j)=false:=by
  intro j hj;rw[vM];have key:∀j,j<4→(SJ.any fun x=>L8 x==L8 (mnm j))=false:=by decide
  exact key j hj
theorem GA:∀j,j<4→tP (fnm j)=false:=by
  intro j hj;rw[vM];have key:∀j,j<4→(SJ.any fun x=>L8 x==L8 (fnm j))=false:=by decide
  exact key j hj
theorem M7:∀j,j<3→tP (pnm j)=false:=by
  intro j hj;rw[vM];have key:∀j,j<3→(SJ.any fun x=>L8 x==L8 (pnm j))=false:=by decide
  exact key j hj
variable {pre th el rest:Sl}{k:Int}{n:BA}{e:Ex}{r:Rf}{xs:List Ar}
theorem zM:List.take 11 (List.drop (pre.len*11) (s3 (pre.app (.cons k n e r xs th el rest))))=[.int .i64 k,.str n,.int .i64 e.op,.int .i64 e.num,.str e.name,.vec e.args.length (o8 e.args),.str r.name,.vec r.idx.length (o8 r.idx),.vec xs.length (bU xs),.vec th.len (s3 th),.vec el.len (s3 el)]:=by rw[read_s rfl,rowS,bZ];rfl
variable {h:c8}{vars:List BA}
theorem zN (hv:aM vars)(hg:GE vars 2 e):CB 114 [.agg [.int .i64 e.op,.int .i64 e.num,.str e.name,.vec e.args.length (o8 e.args)]] h (.str (cS e)):=by rw[←bZ];exact vJ hv.n (by omega) hg h
theorem zO (hv:aM vars)(hg:GE vars 2 e):CB 93 [.agg [.int .i64 e.op,.int .i64 e.num,.str e.name,.vec e.args.length (o8 e.args)]] h (.bool true):=by rw[←bZ];exact U4 hv (by omega) e hg
theorem aM.snoc (h:aM vars){j:Nat}(hj:j<24):aM (vars++[vnm j]):=by
  intro x hx;rcases List.mem_append.1 hx with hx | hx
  · exact h x hx
  · replace hx:=s7z hx
    subst hx;exact ⟨tH,FX j hj⟩
theorem M8 {pre:Sl}{k:Int}{n:BA}{e:Ex}{r:Rf}{xs:List Ar}{th el rest:Sl}:(pre.app (.cons k n e r xs th el rest)).wt=pre.wt+(1+th.wt+el.wt+rest.wt):=by rw[Sl.E6,Sl.wt]
theorem aE {pre:Sl}{k:Int}{n:BA}{e:Ex}{r:Rf}{xs:List Ar}{th el rest:Sl}:(pre.app (.cons k n e r xs th el rest)).len=pre.len+(rest.len+1):=by rw[Go.Un.Sl.cN,Go.Un.Sl.len]
theorem fQ {k:Int}{n:BA}{e:Ex}{r:Rf}{xs:List Ar}{th el rest:Sl}:(Sl.cons k n e r xs th el rest).dep=max (max th.dep el.dep+1) rest.dep:=rfl
theorem eX:pre.app (.cons k n e r xs th el rest)=(pre.app (.cons k n e r xs th el .nil)).app rest:=by rw[Sl.E5];rfl
theorem NZ:(((pre.app (.cons k n e r xs th el .nil)).len:Nat):Int)=(pre.len:Int)+1:=by rw[Go.Un.Sl.cN];simp[Go.Un.Sl.len]
theorem xC {tabs:BA}(h:Cl (L8 tabs) 0):Cl (L8 (tabs++iD)) 0:=bL h F0
attribute [local go_sem] nS aS p7 bT dB bV n6 Int.natCast_nonneg Int.natCast_inj List.length_map wrap64 BE mQ zL aR nC eq_mk nD zM Nat.reduceMul
theorem OA {E:Env}(hE:tG E)(S:Sl)(ih:∀S':Sl,S'.wt<S.wt→∀(vars:List BA) (tabs:BA),aM vars→GS E S' vars→tabs.size+S'.dep≤10→Cl (L8 tabs) 0→∀h:c8,CB 101 [.vec S'.len (s3 S'),.str tabs] h (.str (mO S' tabs ByteArray.empty)))(vars:List BA)(tabs:BA)(hv0:aM vars)(hG0:GS E S vars)(hd:tabs.size+S.dep≤10)(ht:Cl (L8 tabs) 0)(hw:S.wt≤1000):CB 101 [.vec S.len (s3 S),.str tabs] h (.str (mO S tabs ByteArray.empty)):=by
  refine .bz Tryz.f101 133 ?_;have hlw:=dQ S;have hTs:=(kE hE S vars tabs ByteArray.empty 0 hv0.n hG0 hd ht Cl.nil).2;have hse:ByteArray.empty.size=0:=rfl;refine c98z ?_;refine .aW (fun m st=>∃(Z:Sl) (pre:Sl) (rst:Sl) (vs:List BA) (out:BA),(m=rst.len∧(Z=S∧S=pre.app rst∧GS E rst vs∧aM vs∧mO rst tabs out=mO S tabs ByteArray.empty∧tabs.size+rst.dep≤10))∧st=⟨mkS 133 [(0,AV.vec (Go.Un.Sl.len Z) (s3 Z)),(1,AV.str tabs),(5,AV.str out),(6,AV.int .i64 ((pre.len:Nat):Int))],h⟩) (.v ⟨S,Sl.nil,S,vars,ByteArray.empty,⟨rfl,⟨rfl,rfl,hG0,hv0,rfl,hd⟩⟩,rfl⟩ (hs:=t13)) ?_;rintro m sl h' ⟨Z,pre,rst,vs,out,⟨hm,⟨hZ,hS,hG,hv,hT,hdp⟩⟩,hst⟩;obtain ⟨rfl,rfl⟩:=St.mk.inj hst;clear hst;subst hZ;have hlen:=congrArg Go.Un.Sl.len hS;rw[Go.Un.Sl.cN]at hlen;have hos:out.size≤400000:=by have:=EK rst tabs out;rw[hT]at this;omega
  refine c1z ?_;refine u2z ?_ ?_
  ·intro e1 qe1;refine c9z ?_;obtain ⟨k,n,e,r,xs,th,el,rest,rfl⟩:=Go.Un.Sl.oP (s:=rst) (by omega);subst hS;have hwc:=@M8 pre k n e r xs th el rest;have hlc:=@aE pre k n e r xs th el rest;have hdc:=@fQ k n e r xs th el rest;rcases hG with ⟨rfl,⟨j,hj,rfl⟩,hn,he,rfl,rfl,rfl,rfl,hr⟩ | ⟨rfl,hn,he,rfl,rfl,rfl,rfl,hr⟩ | ⟨rfl | rfl,⟨f,hf,rfl,ha⟩,rfl,rfl,rfl,rfl,hr⟩ | ⟨rfl | rfl,rfl,rfl,hR,rfl,rfl,rfl,hr⟩ | ⟨rfl,rfl,he,rfl,rfl,hth,hel,hr⟩ | ⟨rfl,rfl,he,rfl,rfl,hth,rfl,hr⟩ | ⟨rfl,rfl,rfl,rfl,rfl,rfl,rfl,hr⟩
   ·have hes:=(cX hv.n he).2;have hb:B1 2=104:=rfl;have hns:=aG (tH (j:=j));refine c195z ?_;refine c113z ?_;refine .so u9 (mkP 12 [0,1,0,4,15,31,0,64,192,511,1023,2047] []) ?_;refine .k 8 [] ?_;refine .ca rfl rfl (zN hv he) ?_;refine c74z ?_;refine c130z ?_;have hT2:=hT;simp only[mO,show ((1:Int)=2)=False from by simp,show ((1:Int)=3)=False from by simp,show ((1:Int)=4)=False from by simp,show ((1:Int)=5)=False from by simp,show ((1:Int)=6)=False from by simp,show ((1:Int)=7)=False from by simp,show ((1:Int)=8)=False from by simp,if_true,if_false,true_or,or_true,or_false,false_or,or_self]at hT2;exact ⟨_,by omega,.v ⟨_,(pre.app (.cons 1 (vnm j) e o5 [] .nil .nil .nil)),rest,(vs++[vnm j]),_,⟨rfl,⟨rfl,eX,hr,(hv.snoc hj),hT2,by omega⟩⟩,rfl⟩ (he:=by rfl) (hs:=t13)⟩
   ·have hes:=(cX hv.n he).2;have hb:B1 2=104:=rfl;have hns:=aG (hv _ hn).1;refine c195z ?_;refine c11z ?_;refine c113z ?_;refine .c7 [0,1,5,6,7] ?_;refine .so u9 (mkP 11 [0,0,2,7,15,0,32,96,255,511,1023] []) ?_;refine .k 7 [] ?_;refine .ca rfl rfl (zN hv he) ?_;refine c74z ?_;refine c130z ?_;have hT2:=hT;simp only[mO,show ((2:Int)=1)=False from by simp,show ((2:Int)=3)=False from by simp,show ((2:Int)=4)=False from by simp,show ((2:Int)=5)=False from by simp,show ((2:Int)=6)=False from by simp,show ((2:Int)=7)=False from by simp,show ((2:Int)=8)=False from by simp,if_true,if_false,true_or,or_true,or_false,false_or,or_self]at hT2;exact ⟨_,by omega,.v ⟨_,(pre.app (.cons 2 n e o5 [] .nil .nil .nil)),rest,vs,_,⟨rfl,⟨rfl,eX,hr,hv,hT2,by omega⟩⟩,rfl⟩ (he:=by rfl) (hs:=t13)⟩
   ·have hns:=aG (hE.fn f hf);have has:=(L6 hE hv.n ha (hE.fp f hf)).2.1;have hxl:=(lJ hE hv.n ha).1;have hfl:=hE.fp f hf;refine c209z ?_;refine c113z ?_;refine .so u9 (mkP 10 [0,0,2,7,0,16,48,127,255,511] []) ?_;refine .k 6 [] ?_;refine .ca rfl rfl (FV hE hv.n xs (lJ hE hv.n ha).2 (by omega)) ?_;refine c74z ?_;refine c130z ?_;have hT2:=hT;simp only[mO,show ((3:Int)=1)=False from by simp,show ((3:Int)=2)=False from by simp,show ((3:Int)=4)=False from by simp,show ((3:Int)=5)=False from by simp,show ((3:Int)=6)=False from by simp,show ((3:Int)=7)=False from by simp,show ((3:Int)=8)=False from by simp,if_true,if_false,true_or,or_true,or_false,false_or,or_self]at hT2;exact ⟨_,by omega,.v ⟨_,(pre.app (.cons 3 f.1 n4 o5 xs .nil .nil .nil)),rest,vs,_,⟨rfl,⟨rfl,eX,hr,hv,hT2,by omega⟩⟩,rfl⟩ (he:=by rfl) (hs:=t13)⟩
   ·have hns:=aG (hE.fn f hf);have has:=(L6 hE hv.n ha (hE.fp f hf)).2.1;have hxl:=(lJ hE hv.n ha).1;have hfl:=hE.fp f hf;refine c209z ?_;refine c11z ?_;refine c113z ?_;refine .so u9 (mkP 11 [0,1,0,4,15,0,32,96,255,511,1023] []) ?_;refine .k 7 [] ?_;refine .ca rfl rfl (FV hE hv.n xs (lJ hE hv.n ha).2 (by omega)) ?_;refine c74z ?_;refine c130z ?_;have hT2:=hT;simp only[mO,show ((4:Int)=1)=False from by simp,show ((4:Int)=2)=False from by simp,show ((4:Int)=3)=False from by simp,show ((4:Int)=5)=False from by simp,show ((4:Int)=6)=False from by simp,show ((4:Int)=7)=False from by simp,show ((4:Int)=8)=False from by simp,if_true,if_false,true_or,or_true,or_false,false_or,or_self]at hT2;exact ⟨_,by omega,.v ⟨_,(pre.app (.cons 4 f.1 n4 o5 xs .nil .nil .nil)),rest,vs,_,⟨rfl,⟨rfl,eX,hr,hv,hT2,by omega⟩⟩,rfl⟩ (he:=by rfl) (hs:=t13)⟩
   ·have hrs:=(hR.pw hE hv.n).2;refine c209z ?_;refine c72z ?_;refine c113z ?_;refine c99z ?_;refine .ca rfl rfl (U6 hE hv.n hR) ?_;refine c30z ?_;refine c130z ?_;have hT2:=hT;simp only[mO,show ((5:Int)=1)=False from by simp,show ((5:Int)=2)=False from by simp,show ((5:Int)=3)=False from by simp,show ((5:Int)=4)=False from by simp,show ((5:Int)=6)=False from by simp,show ((5:Int)=7)=False from by simp,show ((5:Int)=8)=False from by simp,if_true,if_false,true_or,or_true,or_false,false_or,or_self]at hT2;exact ⟨_,by omega,.v ⟨_,(pre.app (.cons 5 ByteArray.empty n4 r [] .nil .nil .nil)),rest,vs,_,⟨rfl,⟨rfl,eX,hr,hv,hT2,by omega⟩⟩,rfl⟩ (he:=by rfl) (hs:=t13)⟩
   ·have hrs:=(hR.pw hE hv.n).2;refine c209z ?_;refine c72z ?_;refine c11z ?_;refine c113z ?_;refine .c7 [0,1,5,6,7] ?_;refine c99z ?_;refine .ca rfl rfl (U6 hE hv.n hR) ?_;refine c30z ?_;refine c130z ?_;have hT2:=hT;simp only[mO,show ((6:Int)=1)=False from by simp,show ((6:Int)=2)=False from by simp,show ((6:Int)=3)=False from by simp,show ((6:Int)=4)=False from by simp,show ((6:Int)=5)=False from by simp,show ((6:Int)=7)=False from by simp,show ((6:Int)=8)=False from by simp,if_true,if_false,true_or,or_true,or_false,false_or,or_self]at hT2;exact ⟨_,by omega,.v ⟨_,(pre.app (.cons 6 ByteArray.empty n4 r [] .nil .nil .nil)),rest,vs,_,⟨rfl,⟨rfl,eX,hr,hv,hT2,by omega⟩⟩,rfl⟩ (he:=by rfl) (hs:=t13)⟩
   ·have hes:=(cX hv.n he).2;have hb:B1 2=104:=rfl;have hts:(tabs++iD).size=tabs.size+1:=by rw[aR];rfl
    have hths:=(kE hE th vs (tabs++iD) ByteArray.empty 0 hv.n hth (by omega) (xC ht) Cl.nil).2;have hels:=(kE hE el vs (tabs++iD) ByteArray.empty 0 hv.n hel (by omega) (xC ht) Cl.nil).2;refine c209z ?_;refine c72z ?_;refine c72z ?_;refine .seq ?_;refine .c7 [0,1,5,6,7,23] ?_;refine c113z ?_;refine .sk ?_;refine .T ?_;refine c54z ?_;refine c14z ?_;refine .ss u9 (mkP 18 [0,0,3,0,8,24,63,127,0,256,0,1024,3896,8191,0,32767,65535,131071] []) ?_;refine .k 5 [] ?_;refine .ca rfl rfl (zN hv he) ?_;refine .k 6 [] ?_;refine .ca rfl rfl (ih th (by omega) vs (tabs++iD) hv hth (by omega) (xC ht) _) ?_;refine .n [] ?_;refine .c7 [0,1,5,6,7] ?_;refine .z ?_;refine u2z ?_ ?_
    ·intro e2 qe2;refine .r ?_;refine .e 6 ?_;refine .ca rfl rfl (ih el (by omega) vs (tabs++iD) hv hel (by omega) (xC ht) _) ?_;refine c30z ?_;refine c130z ?_;have hT2:=hT;have hel0:0<el.len:=by omega
     simp only[mO,show ((7:Int)=1)=False from by simp,show ((7:Int)=2)=False from by simp,show ((7:Int)=3)=False from by simp,show ((7:Int)=4)=False from by simp,show ((7:Int)=5)=False from by simp,show ((7:Int)=6)=False from by simp,show ((7:Int)=8)=False from by simp,if_true,if_false,true_or,or_true,or_false,false_or,or_self,if_pos hel0]at hT2;exact ⟨_,by omega,.v ⟨_,(pre.app (.cons 7 ByteArray.empty e o5 [] th el .nil)),rest,vs,_,⟨rfl,⟨rfl,eX,hr,hv,hT2,by omega⟩⟩,rfl⟩ (he:=by rfl) (hs:=t13)⟩
    intro e2 qe2;refine c8z ?_;refine c67z ?_;have hT2:=hT;have hel0:¬0<el.len:=by omega
    simp only[mO,show ((7:Int)=1)=False from by simp,show ((7:Int)=2)=False from by simp,show ((7:Int)=3)=False from by simp,show ((7:Int)=4)=False from by simp,show ((7:Int)=5)=False from by simp,show ((7:Int)=6)=False from by simp,show ((7:Int)=8)=False from by simp,if_true,if_false,true_or,or_true,or_false,false_or,or_self,if_neg hel0]at hT2;exact ⟨_,by omega,.v ⟨_,(pre.app (.cons 7 ByteArray.empty e o5 [] th el .nil)),rest,vs,_,⟨rfl,⟨rfl,eX,hr,hv,hT2,by omega⟩⟩,rfl⟩ (he:=by rfl) (hs:=t13)⟩
   ·have hes:=(cX hv.n he).2;have hb:B1 2=104:=rfl;have hts:(tabs++iD).size=tabs.size+1:=by rw[aR];rfl
    have hths:=(kE hE th vs (tabs++iD) ByteArray.empty 0 hv.n hth (by omega) (xC ht) Cl.nil).2;refine c209z ?_;refine c72z ?_;refine c72z ?_;refine .seq ?_;refine .c7 [0,1,5,6,7,23] ?_;refine c11z ?_;refine c2z ?_;refine .T ?_;refine c54z ?_;refine .T ?_;refine .c7 [0,1,5,6,7] ?_;refine c2z ?_;refine .ss u9 (mkP 18 [0,0,3,0,8,24,63,127,0,256,0,1024,3896,8191,0,32767,65535,131071] []) ?_;refine .k 5 [] ?_;refine .ca rfl rfl (zN hv he) ?_;refine .k 6 [] ?_;refine .ca rfl rfl (ih th (by omega) vs (tabs++iD) hv hth (by omega) (xC ht) _) ?_;refine .n [] ?_;refine .c7 [0,1,5,6,7] ?_;refine c11z ?_;refine c8z ?_;refine c67z ?_;have hT2:=hT;simp only[mO,show ((8:Int)=1)=False from by simp,show ((8:Int)=2)=False from by simp,show ((8:Int)=3)=False from by simp,show ((8:Int)=4)=False from by simp,show ((8:Int)=5)=False from by simp,show ((8:Int)=6)=False from by simp,show ((8:Int)=7)=False from by simp,if_true,if_false,true_or,or_true,or_false,false_or,or_self,Go.Un.Sl.len,Nat.lt_irrefl]at hT2;exact ⟨_,by omega,.v ⟨_,(pre.app (.cons 8 ByteArray.empty e o5 [] th .nil .nil)),rest,vs,_,⟨rfl,⟨rfl,eX,hr,hv,hT2,by omega⟩⟩,rfl⟩ (he:=by rfl) (hs:=t13)⟩
   ·skip;refine c209z ?_;refine c72z ?_;refine c72z ?_;refine .seq ?_;refine .c7 [0,1,5,6,7,23] ?_;refine c11z ?_;refine c2z ?_;refine c237z ?_;refine c2z ?_;refine .c7 [0,1,5,6] ?_;refine .rz ?_;have hT2:=hT;simp only[mO,show ((9:Int)=1)=False from by simp,show ((9:Int)=2)=False from by simp,show ((9:Int)=3)=False from by simp,show ((9:Int)=4)=False from by simp,show ((9:Int)=5)=False from by simp,show ((9:Int)=6)=False from by simp,show ((9:Int)=7)=False from by simp,show ((9:Int)=8)=False from by simp,if_true,if_false,true_or,or_true,or_false,false_or,or_self]at hT2;exact ⟨_,by omega,.v ⟨_,(pre.app (.cons 9 ByteArray.empty n4 o5 [] .nil .nil .nil)),rest,vs,_,⟨rfl,⟨rfl,eX,hr,hv,hT2,by omega⟩⟩,rfl⟩ (he:=by rfl) (hs:=t13)⟩
  intro e1 qe1;refine .exit ?_;obtain rfl:=Go.Un.Sl.yW (show rst.len=0 by omega);rw[mO]at hT;change g7 ..;refine .z ?_;exact .ret (.ex (hq:=by (exact congrArg AV.str hT)))
theorem GB {E:Env}(hE:tG E):∀(n:Nat) (S:Sl),S.wt≤n→n≤1000→∀(vars:List BA) (tabs:BA),aM vars→GS E S vars→tabs.size+S.dep≤10→Cl (L8 tabs) 0→∀h:c8,CB 101 [.vec S.len (s3 S),.str tabs] h (.str (mO S tabs ByteArray.empty))
  | n,S,hn,h1,vars,tabs,hv,hG,hd,ht,h=>by
    refine OA hE S (fun S' hS'=>?_) vars tabs hv hG hd ht (by omega);cases n with
    | zero=>omega
    | succ n=>exact GB hE n S' (by omega) (by omega)
end Go.Proofs.YtapdldekgbbomaaGreatDoor
end
section
namespace Go.Proofs.YtapdldekgbbomaaGreatDoor
open Go.Ab Go.Un
structure Frame where
  b0:Blk
  b1:Blk
  b2:Blk
  z:Blk
  m:Blk
  g:Blk
  rest:c8
def Frame.n (e:Frame):Nat:=e.rest.length+9
def hB (c:Core)(e:Frame)(I left:Int):c8:=
  e.b0::e.b1::e.b2::e.z::⟨0,false,78,2,[.vec c.L.length (l5 c.L),.int .i64 I],0⟩::
  ⟨0,false,112,6,[.ptr 4 0 0,.vec c.gs.length (s7 c.gs),.vec c.ms.length (j6 c.ms),.own 8 c.gF 0 c.fs.length,.int .i64 left,.bool c.ar],0⟩::
  e.m::e.g::⟨c.gF,false,122,3,p9 c.fs,0⟩::e.rest
section
variable {c:Core}{e:Frame}{I left k:Int}{l:c8}
theorem cU:(hB c e I left).length=e.n:=by simp[hB,Frame.n]
theorem hB_1:(hB c e I left)[4]?=some ⟨0,false,78,2,[.vec c.L.length (l5 c.L),.int .i64 I],0⟩:=rfl
theorem hB_2:(hB c e I left)[5]?=some ⟨0,false,112,6,[.ptr 4 0 0,.vec c.gs.length (s7 c.gs),.vec c.ms.length (j6 c.ms),.own 8 c.gF 0 c.fs.length,.int .i64 left,.bool c.ar],0⟩:=rfl
theorem hB_5:(hB c e I left)[8]?=some ⟨c.gF,false,122,3,p9 c.fs,0⟩:=rfl
theorem XE:(hB c e I left++l)[4]?=some ⟨0,false,78,2,[.vec c.L.length (l5 c.L),.int .i64 I],0⟩:=rfl
theorem XF:(hB c e I left++l)[5]?=some ⟨0,false,112,6,[.ptr 4 0 0,.vec c.gs.length (s7 c.gs),.vec c.ms.length (j6 c.ms),.own 8 c.gF 0 c.fs.length,.int .i64 left,.bool c.ar],0⟩:=rfl
theorem XG:(hB c e I left++l)[8]?=some ⟨c.gF,false,122,3,p9 c.fs,0⟩:=rfl
theorem XH:(hB c e I left++l).set 5 ⟨0,false,112,6,[.ptr 4 0 0,.vec c.gs.length (s7 c.gs),.vec c.ms.length (j6 c.ms),.own 8 c.gF 0 c.fs.length,.int .i64 k,.bool c.ar],0⟩=hB c e I k++l:=rfl
variable {j:Nat}
theorem fR:(hB c e I left++l)[e.n+j]?=l[j]?:=by rw[List.getElem?_append_right (by rw[cU];omega),cU,Nat.add_sub_cancel_left]
theorem zP:(hB c e I left++l)[e.n]?=l[0]?:=by rw[List.getElem?_append_right (by rw[cU];omega),cU,Nat.sub_self]
theorem gB {b:Blk}:(hB c e I left++l).set (e.n+j) b=hB c e I left++l.set j b:=by rw[List.set_append_right _ _ (by rw[cU];omega),cU,Nat.add_sub_cancel_left]
theorem M9 {b:Blk}:(hB c e I left++l).set e.n b=hB c e I left++l.set 0 b:=by rw[List.set_append_right _ _ (by rw[cU];omega),cU,Nat.sub_self]
variable {left':Int}
theorem iF {I':Int}:z8 (hB c e I left) (hB c e I' left'):=by
  refine z8.of ⟨.inl rfl,.inl rfl,.inl rfl,.inl rfl,.inr (dK.get ⟨.vec _ _,.int _ _,trivial⟩),.inr (dK.get ⟨.ptr _ _ _ ?_,.vec _ _,.vec _ _,.own _ _ _ _ ?_,.int _ _,.bool _,trivial⟩),.inl rfl,.inl rfl,.inl rfl,mY.refl _ _⟩
  · rw[cU];unfold Frame.n;omega
  · rw[cU];unfold Frame.n;omega
theorem zQ {I':Int}{l':c8}(hk:mY (e.n+l'.length) l l'):z8 (hB c e I left++l) (hB c e I' left'++l'):=
  iF.app (by rw[cU,cU]) (by rw[cU];exact hk)
end
theorem famB (c:Core)(e:Frame)(left:Int):aY 4 c.L e.n fun I=>hB c e I left:=⟨fun _=>rfl,fun _ _=>rfl,fun _=>cU⟩
theorem gK {c:Core}{e:Frame}{left:Int}(l:c8)(I n:Int)(hI:OkI c.L I)(hL:c.L.length<4611686018427387904)(hn:0<n)(hm:n≤4611686018427387904):CH 29 [.ptr 4 0 0,.int .i64 n] (hB c e I left++l) (.int .i64 (c6 c.L I n).1) (hB c e (c6 c.L I n).2 left++l):=nA (famB c e left) l I n hI hL hn hm
theorem N0 {c:Core}{e:Frame}{left:Int}(l:c8)(I v:Int)(hI:OkI c.L I)(hL:c.L.length<4611686018427387904)(names:List BA)(hN:names.length<1000)(hv:0≤v∧v<1000):CH 89 [.ptr 4 0 0,.vec names.length (aQ names),.int .i64 v] (hB c e I left++l) (.agg (v9 (dV c.L names v.toNat I).1)) (hB c e (dV c.L names v.toNat I).2 left++l):=by have h:=SG hL names hN v.toNat (by omega) ((famB c e left).app l) I hI;rw[Int.toNat_of_nonneg hv.1]at h;exact h
variable {i:Nat}
theorem qB {l:List Mx}(h:i<l.length):List.take 1 (List.drop (i*3+2) (j6 l))=[AV.int .i64 (l.getD i dC).size]:=by have:=congrArg (fun x=>x.drop 2) (L2 h);simp only[List.drop_take,List.drop_drop]at this;simpa using this
theorem OB {l:List Mx}(h:i<l.length):List.take 1 (List.drop (i*3) (j6 l))=[AV.str (l.getD i dC).name]:=by have:=congrArg (fun x=>x.take 1) (L2 h);simp only[List.take_take]at this;simpa using this
theorem U8 {l:List Pm}(h:i<l.length):List.take 1 (List.drop (i*2) (z9 l))=[AV.str (l.getD i iO).name]:=by have:=congrArg (fun x=>x.take 1) (EF h);simp only[List.take_take]at this;simpa using this
theorem lR {l:List Pm}(h:i<l.length):List.take 1 (List.drop (i*2+1) (z9 l))=[AV.bool (l.getD i iO).mu]:=by have:=congrArg (fun x=>x.drop 1) (EF h);simp only[List.drop_take,List.drop_drop]at this;simpa using this
variable {vars:List BA}{size:Int}
theorem idx_pos {c:Core}{I:Int}(h:c.ar=true)(h2:(c6 c.L I 3).1=1):gY c vars size I=dV c.L vars 1 (c6 c.L I 3).2:=by rw[gY,if_pos h,if_pos h2]
theorem idx_neg {c:Core}{I:Int}(h:c.ar=true)(h2:¬(c6 c.L I 3).1=1):gY c vars size I=(.leaf 1 (c6 c.L (c6 c.L I 3).2 size).1 ByteArray.empty,(c6 c.L (c6 c.L I 3).2 size).2):=by rw[gY,if_pos h,if_neg h2]
theorem idx_no {c:Core}{I:Int}(h:c.ar=false):gY c vars size I=(.leaf 1 (c6 c.L I size).1 ByteArray.empty,(c6 c.L I size).2):=by rw[gY,if_neg t229]
theorem wex_pos {c:Core}{I:Int}(h:c.ar=true):j8 c vars I=dV c.L vars (1+(c6 c.L I 2).1).toNat (c6 c.L I 2).2:=by rw[j8,if_pos h]
theorem wex_neg {c:Core}{I:Int}(h:c.ar=false):j8 c vars I=dV c.L vars 0 I:=by rw[j8,if_neg t229]
attribute [local go_sem] n6 aS q9 aZ p7 Int.natCast_nonneg Int.natCast_inj List.length_map cU hB_1 hB_2 hB_5 XE XF XG XH fR zP gB M9
theorem frz_E {n d:Nat}{H:c8}{a:Ex}:s5 (gT n H (d+1)) (v9 a)=some (v9 a):=by rw[bZ];rfl
theorem OC {r:Rf}:oY (CF ⟨true,r,n4⟩) (.bool true::(S6 r++[.int .i64 0,.int .i64 0,.str ByteArray.empty,.l7])):=⟨.inl rfl,.inl rfl,.inl rfl,.inl rfl,.inl rfl,.inl rfl,.inr ⟨rfl,rfl⟩,trivial⟩
theorem GC {x:Ex}:oY (CF ⟨false,o5,x⟩) (.bool false::.str ByteArray.empty::.l7::v9 x):=⟨.inl rfl,.inl rfl,.inr ⟨rfl,rfl⟩,oY.refl _⟩
theorem frz_A {n d:Nat}{H:c8}{l:List Ar}:s5 (mC n H (d+1)) (bU l)=some (bU l):=by
  induction l with
  | nil=>rfl
  | cons a l ih=>
    refine wZ ?_ ih;simp only[CF,s5,pP,pQ,nP,BC]
section
attribute [local go_sem] gJ
theorem c_index {c:Core}{e:Frame}{left I:Int}(hc:OkC c)(hI:OkI c.L I)(hL:c.L.length<4611686018427387904)(vars:List BA)(hN:vars.length<1000)(size:Int)(hs:0<size∧size≤3):CH 88 [.ptr 5 0 0,.vec vars.length (aQ vars),.int .i64 size] (hB c e I left) (.agg (v9 (gY c vars size I).1)) (hB c e (gY c vars size I).2 left):=by
  refine .wz Tryz.f88 32 ?_;have h3:=l8 hI (n:=3) (by omega);refine c20z ?_;refine c34z ?_;refine .spl 11 rfl rfl (fun e1=>?_) (fun e1=>?_)
  ·try simp only[e1]
   have qe1:=fact e1;refine .k 4 [(4,11)] ?_;refine .ch rfl rfl (gK _ _ 3 hI hL (by omega) (by omega)) ?_;refine .m [(4,11)] ?_;refine u2z ?_ ?_
   ·intro e2 qe2;refine .c7 [0,1,6] ?_;refine c34z ?_;refine .ch rfl rfl (N0 _ _ 1 h3.2.2 hL vars hN (by omega)) ?_;refine c235z ?_;exact ⟨hB _ _ _ _,_,_,rfl,t91,iF,t11,t94⟩
   intro e2 qe2;refine .sk ?_;refine .c7 [0,2,6] ?_;refine c34z ?_;refine .ch rfl rfl (gK _ _ size (by first | exact h3.2.2 | exact hI) hL (by omega) (by omega)) ?_;refine c235z ?_;exact ⟨hB _ _ _ _,_,_,rfl,t91,iF,t11,t94⟩
  try simp only[e1]
  have qe1:=fact e1;refine .m [(4,11)] ?_;refine c14z ?_;refine .c7 [0,2,6] ?_;refine c34z ?_;refine .ch rfl rfl (gK _ _ size (by first | exact h3.2.2 | exact hI) hL (by omega) (by omega)) ?_;refine c235z ?_;exact ⟨hB _ _ _ _,_,_,rfl,t91,iF,t11,t94⟩
end
section
attribute [local go_sem] gJ wrap64
theorem c_wexpr {c:Core}{e:Frame}{left I:Int}(hc:OkC c)(hI:OkI c.L I)(hL:c.L.length<4611686018427387904)(vars:List BA)(hN:vars.length<1000):CH 65 [.ptr 5 0 0,.vec vars.length (aQ vars)] (hB c e I left) (.agg (v9 (j8 c vars I).1)) (hB c e (j8 c vars I).2 left):=by
  refine .wz Tryz.f65 28 ?_;have h2:=l8 hI (n:=2) (by omega);refine c54z ?_;refine u2z ?_ ?_
  ·intro e1 qe1;refine c34z ?_;refine .ch rfl rfl (N0 _ _ 0 hI hL vars hN (by omega)) ?_;refine c235z ?_;exact ⟨hB _ _ _ _,_,_,rfl,t91,iF,t11,t199⟩
  intro e1 qe1;refine .sk ?_;refine .sm u9 (mkP 13 [0,1,3,7,0,0,32,96,224,480,992,2047,4095] [9,11,12]) [0,1,2,3,4] ?_;refine eT.p (pd:=[]) 9 ?_;refine eT.s9 rfl rfl rfl rfl rfl sO (gK _ _ 2 hI hL (by omega) (by omega)) ?_;refine eT.p 1 ?_;refine eT.s9 rfl rfl rfl rfl rfl hb89 (N0 _ _ _ h2.2.2 hL vars hN (by omega)) ?_;refine eT.p 1 ?_;refine eT.nil t14 ?_;refine c3z ?_;exact ⟨hB _ _ _ _,_,_,rfl,t91,iF,t11,t199⟩
end
theorem kL {l:List BA}{x:BA}:aQ (l++[x])=aQ l++[.str x]:=by simp[aQ]
theorem BI {c:Core}(h:i<c.ms.length):(c.ms.map (·.name)).take (i+1)=(c.ms.map (·.name)).take i++[(c.ms.getD i dC).name]:=by rw[List.take_add_one];simp[List.getD,h]
theorem G4 (l m:List Pm):extra (l++m)=extra l++extra m:=by
  induction l with
  | nil=>rfl
  | cons p l ih=>simp only[List.cons_append,extra];split<;>simp[ih]
variable {j:Nat}
theorem xD {l:List Pm}(h:j<l.length):l.take (j+1)=l.take j++[l.getD j iO]:=by rw[List.take_add_one];simp[List.getD,h]
variable {ps:List Pm}
theorem GD {c:Core}:l9 c (ps.take 0)=c.ms.map (·.name):=by simp[l9,extra]
theorem rn_t {c:Core}(h:j<ps.length)(hm:(ps.getD j iO).mu=true):l9 c (ps.take (j+1))=l9 c (ps.take j)++[(ps.getD j iO).name]++[(ps.getD j iO).name]:=by rw[xD h];simp only[l9,G4,List.append_assoc];simp only[extra,hm,if_true];rfl
theorem rn_f {c:Core}(h:j<ps.length)(hm:(ps.getD j iO).mu=false):l9 c (ps.take (j+1))=l9 c (ps.take j):=by rw[xD h];simp only[l9,G4];simp only[extra,hm,Bool.false_eq_true,if_false,List.append_nil]
theorem ref_pos {c:Core}{I:Int}(h1:(c6 c.L I (l9 c ps).length).1<c.ms.length)(h2:0<(c.ms.getD (c6 c.L I (l9 c ps).length).1.toNat dC).size):w7 c ps vars I=
    (⟨(l9 c ps).getD (c6 c.L I (l9 c ps).length).1.toNat ByteArray.empty,[(gY c vars (c.ms.getD (c6 c.L I (l9 c ps).length).1.toNat dC).size (c6 c.L I (l9 c ps).length).2).1]⟩,(gY c vars (c.ms.getD (c6 c.L I (l9 c ps).length).1.toNat dC).size (c6 c.L I (l9 c ps).length).2).2):=if_pos ⟨h1,h2⟩
theorem ref_neg {c:Core}{I:Int}(h:¬((c6 c.L I (l9 c ps).length).1<c.ms.length∧0<(c.ms.getD (c6 c.L I (l9 c ps).length).1.toNat dC).size)):w7 c ps vars I=
    (⟨(l9 c ps).getD (c6 c.L I (l9 c ps).length).1.toNat ByteArray.empty,[]⟩,(c6 c.L I (l9 c ps).length).2):=if_neg h
theorem encN_ne {l:List BA}(h:0<l.length):aQ l≠[]:=by intro e;have:=congrArg List.length e;rw[aS,List.length_nil]at this;omega
theorem GF {x:Ex}:o8 [x]=v9 x:=by simp[o8]
theorem GG {c:Core}{e:Frame}{I left:Int}{fb rb:Blk}{g n:Nat}{zs:List BA}{x:AV}(hz:zs.length=n)(hn:n<1000) :
    j5 cfg 9 (hB c e I left++[fb,rb,p8 9 1 g (aQ zs),⟨0,false,9,1,[x],0⟩]) (.own (e.n+2) g 0 n) (.own (e.n+3) 0 0 1)=some (.own (e.n+2) (g+1) 0 (n+1),hB c e I left++[fb,rb,p8 9 1 (g+1) (aQ zs++[x]),⟨0,false,9,1,[x],0⟩]):=by
  have hb:(hB c e I left++[fb,rb,p8 9 1 g (aQ zs),⟨0,false,9,1,[x],0⟩])[e.n+2]?=some (p8 9 1 g (aQ zs)):=fR;rw[aC (C:=cfg) (K:=1) (m:=1) (new:=[x]) hb rfl (by omega) (by rw[aS,hz,Nat.mul_one]) rfl (by omega) t167 rfl (by decide) (by omega),gB];rfl
theorem BJ {c:Core}{e:Frame}{I left:Int}{fb rb:Blk}{g n:Nat}{zs:List BA}{x y:AV}(hz:zs.length=n)(hn:n<1000) :
    j5 cfg 9 (hB c e I left++[fb,rb,p8 9 1 g (aQ zs),⟨0,false,9,1,[x,y],0⟩]) (.own (e.n+2) g 0 n) (.own (e.n+3) 0 0 2)=some (.own (e.n+2) (g+1) 0 (n+2),hB c e I left++[fb,rb,p8 9 1 (g+1) (aQ zs++[x,y]),⟨0,false,9,1,[x,y],0⟩]):=by
  have hb:(hB c e I left++[fb,rb,p8 9 1 g (aQ zs),⟨0,false,9,1,[x,y],0⟩])[e.n+2]?=some (p8 9 1 g (aQ zs)):=fR;rw[aC (C:=cfg) (K:=1) (m:=2) (new:=[x,y]) hb rfl (by omega) (by rw[aS,hz,Nat.mul_one]) rfl (by omega) t167 rfl (by decide) (by omega),gB];rfl
theorem SV {n:Nat}{l:List BA}:∀x∈aQ l,Refs n x:=by intro x hx;obtain ⟨y,_,rfl⟩:=List.mem_map.1 hx;exact .str _
theorem Frame.n_ge (e:Frame):9≤e.n:=by unfold Frame.n;omega
theorem OD {c:Core}{e:Frame}{left I:Int}{l:c8}(hc:OkC c)(hI:OkI c.L I)(hL:c.L.length<4611686018427387904)(vars:List BA)(hN:vars.length<1000)(size:Int)(hs:0<size∧size≤3):CH 88 [.ptr 5 0 0,.vec vars.length (aQ vars),.int .i64 size] (hB c e I left++l) (.agg (v9 (gY c vars size I).1)) (hB c e (gY c vars size I).2 left++l):=c_index (e:=⟨e.b0,e.b1,e.b2,e.z,e.m,e.g,e.rest++l⟩) hc hI hL vars hN size hs
theorem U9 {c:Core}{e:Frame}{left I:Int}{l:c8}(hc:OkC c)(hI:OkI c.L I)(hL:c.L.length<4611686018427387904)(vars:List BA)(hN:vars.length<1000):CH 65 [.ptr 5 0 0,.vec vars.length (aQ vars)] (hB c e I left++l) (.agg (v9 (j8 c vars I).1)) (hB c e (j8 c vars I).2 left++l):=c_wexpr (e:=⟨e.b0,e.b1,e.b2,e.z,e.m,e.g,e.rest++l⟩) hc hI hL vars hN
section
attribute [local go_sem] gJ wrap64 eO GG BJ OB qB U8 lR sE F3 L9 qS max2
theorem c_ref {c:Core}{e:Frame}{left I:Int}(hc:OkC c)(hI:OkI c.L I)(hL:c.L.length<4611686018427387904)(vars:List BA)(hN:vars.length<1000)(f:Fu)(hp:f.params.length≤2):CH 64 [.ptr 5 0 0,.agg (eO f),.vec vars.length (aQ vars)] (hB c e I left) (.agg (S6 (w7 c f.params vars I).1)) (hB c e (w7 c f.params vars I).2 left):=by
  refine .wz Tryz.f64 107 ?_;have hml:=hc.ml;refine c98z ?_;refine g7.yU 7 rfl ?_;refine .aW (fun m st=>∃(i:Nat),(m=c.ms.length-i∧i≤c.ms.length)∧st=⟨mkS 107 [(0,AV.ptr 5 0 0),(2,AV.vec vars.length (aQ vars)),(4,AV.ptr e.n 0 0),(6,AV.ptr (e.n+1) 0 0),(7,AV.own (e.n+2) i 0 i),(8,AV.int .i64 ((i:Nat):Int))],hB c e I left++[⟨0,false,122,3,[.str f.name,.vec f.params.length (z9 f.params),.vec f.body.len (s3 f.body)],0⟩,⟨0,false,146,2,[.str ByteArray.empty,.l7],0⟩,p8 9 1 i (aQ ((c.ms.map (·.name)).take i))]⟩) (.v ⟨0,⟨rfl,by omega⟩,rfl⟩ (hs:=t51) (hr:=t2)) ?_;rintro m sl h' ⟨i,⟨hm,hi⟩,hst⟩;obtain ⟨rfl,rfl⟩:=St.mk.inj hst;clear hst;have htk:((c.ms.map (·.name)).take i).length=i:=by simp;omega
  refine c1z ?_;refine u2z ?_ ?_
  ·intro e1 qe1;refine c9z ?_;refine .c7 [0,2,4,6,7,8] ?_;refine c217z ?_;refine .c7 [0,2,4,6,7,8] ?_;refine .rz ?_;exact ⟨_,by omega,.v ⟨(i+1),⟨rfl,by omega⟩,rfl⟩ (he:=by (rw[BI (by omega),kL];simp only[List.append_assoc,List.cons_append,List.nil_append];rfl)) (hl:=t39) (hk:=t143) (hs:=t51) (hr:=t2)⟩
  intro e1 qe1;refine .exit ?_;obtain rfl:i=c.ms.length:=by omega
  change g7 ..;refine .c7 [0,2,4,6,7] ?_;refine c26z ?_;refine .aW (fun m st=>∃(j:Nat) (g:Nat),(m=f.params.length-j∧j≤f.params.length)∧st=⟨mkS 107 [(0,AV.ptr 5 0 0),(2,AV.vec vars.length (aQ vars)),(4,AV.ptr e.n 0 0),(6,AV.ptr (e.n+1) 0 0),(7,AV.own (e.n+2) g 0 (l9 c (f.params.take j)).length),(9,AV.int .i64 ((c.ms.length:Nat):Int)),(10,AV.int .i64 ((j:Nat):Int))],hB c e I left++[⟨0,false,122,3,[.str f.name,.vec f.params.length (z9 f.params),.vec f.body.len (s3 f.body)],0⟩,⟨0,false,146,2,[.str ByteArray.empty,.l7],0⟩,p8 9 1 g (aQ (l9 c (f.params.take j)))]⟩) (.v ⟨0,c.ms.length,⟨rfl,by omega⟩,rfl⟩ (hs:=t76) (hr:=t2)) ?_ (he:=by (rw[GD,show (c.ms.map (·.name)).take c.ms.length=c.ms.map (·.name) from List.take_of_length_le (by simp)]));rintro m sl h' ⟨j,g,⟨hm,hj⟩,hst⟩;obtain ⟨rfl,rfl⟩:=St.mk.inj hst;clear hst;have hxl:=(mZ hc (f.params.take j)).2;have hxt:(f.params.take j).length≤2:=by simp;omega
  refine c1z ?_;refine u2z ?_ ?_
  ·intro e2 qe2;refine c207z ?_;refine u2z ?_ ?_
   ·intro e3 qe3;refine .c7 [0,2,4,6,7,9,10] ?_;refine g7.lD u9 (mkP 16 [0,0,2,0,14,30,62,0,128,0,896,1920,3968,8190,16383,32767] [13,14]) [0] (by kernel_rfl) (by kernel_rfl) ?_;refine eT.p (pd:=[]) 16 ?_;refine eT.nil t14 ?_;change g7 ..;refine .c7 [0,2,4,6,7,9,10] ?_;refine .rz ?_;have hxs:=congrArg List.length (rn_t (c:=c) (j:=j) (ps:=f.params) (by omega) (by assumption));simp only[List.length_append,List.length_singleton]at hxs;exact ⟨_,by omega,.v ⟨(j+1),(g+1),⟨rfl,by omega⟩,rfl⟩ (he:=by (rw[rn_t (by omega) (by assumption),kL,kL];simp only[List.append_assoc,List.cons_append,List.nil_append];rfl)) (hl:=t39) (hk:=t143) (hs:=t76) (hr:=t2)⟩
   intro e3 qe3;refine c8z ?_;refine .c7 [0,2,4,6,7,9,10] ?_;refine .rz ?_;have hxs:=congrArg List.length (rn_f (c:=c) (j:=j) (ps:=f.params) (by omega) (by assumption));exact ⟨_,by omega,.v ⟨(j+1),g,⟨rfl,by omega⟩,rfl⟩ (he:=by (rw[rn_f (by omega) (by assumption)];exact (List.append_nil _).symm)) (hl:=t39) (hk:=t143) (hs:=t76) (hr:=t2)⟩
  intro e2 qe2;refine .exit ?_;obtain rfl:j=f.params.length:=by omega
  rw[List.take_length]at hxl ⊢;change g7 ..;have hrl:=mZ hc f.params;have hk:=l8 hI (n:=((l9 c f.params).length:Int)) (by omega);rw[jG (encN_ne hrl.1)];refine c126z ?_;refine .ch rfl rfl (gK _ _ _ hI hL (by omega) (by omega)) ?_;refine .n ?_;refine .c7 [0,2,6,7,9,11] ?_;refine c20z ?_;refine c28z ?_;refine .spl 80 rfl rfl (fun e4=>?_) (fun e4=>?_)
  ·try simp only[e4]
   have qe4:=fact e4;refine .k 8 [(3,80)] ?_;refine .m [(3,80)] ?_;refine u2z ?_ ?_
   ·intro e5 qe5;refine .c7 [0,2,6,11,12] ?_;have hsz:=hc.mx (c6 c.L I (l9 c f.params).length).1.toNat (by omega);refine c175z ?_;refine .e 3 ?_;refine .ch rfl rfl (OD hc hk.2.2 hL vars hN _ (by omega)) ?_;refine c30z ?_;refine .c7 [6,12] ?_;refine c15z ?_;exact ⟨hB _ _ _ _,_,_,rfl,t91,iF,t11,t107⟩
   intro e5 qe5;refine .sk ?_;refine .c7 [6,12] ?_;refine c15z ?_;exact ⟨hB _ _ _ _,_,_,rfl,t91,iF,t11,t107⟩
  try simp only[e4]
  have qe4:=fact e4;refine .k 8 [(3,80)] ?_;refine .m [(3,80)] ?_;refine c14z ?_;refine .c7 [6,12] ?_;refine c15z ?_;exact ⟨hB _ _ _ _,_,_,rfl,t91,iF,t11,t107⟩
end
end Go.Proofs.YtapdldekgbbomaaGreatDoor
end
section
namespace Go.Proofs.YtapdldekgbbomaaGreatDoor
open Go.Ab Go.Un
structure Sco where
  p:Go.Un.Pg
  l:List Ent
  loc:Int
  st:Int
  code:List Ins
  sites:List Int
structure Frm where
  pre:c8
  rest:c8
def Frm.k (e:Frm):Nat:=e.pre.length
def Frm.n (e:Frm):Nat:=e.pre.length+(e.rest.length+3)
def aN (k:Nat)(s:Sco):Blk:=⟨0,false,161,10,[.vec s.p.globals.length (s7 s.p.globals),.vec s.p.c5.length (j6 s.p.c5),.vec s.p.funcs.length (p9 s.p.funcs),.vec s.l.length (l4 s.l),.int .i64 s.loc,.int .i64 s.st,.int .i64 0,.int .i64 0,.own (k+1) s.code.length 0 s.code.length,.own (k+2) s.sites.length 0 s.sites.length],0⟩
def hT (e:Frm)(b:Blk)(c:List Ins)(ss:List Int):c8:=e.pre++(b::p8 105 12 c.length (r8 c)::p8 3 1 ss.length (l5 ss)::e.rest)
section
variable {e:Frm}{b b':Blk}{c c':List Ins}{ss ss':List Int}{l:c8}{j:Nat}
theorem aT:(hT e b c ss).length=e.n:=by simp[hT,Frm.n]
theorem Frm.lt (e:Frm):e.k<e.n∧e.k+1<e.n∧e.k+2<e.n:=by unfold Frm.k Frm.n;omega
theorem hT_0:(hT e b c ss)[e.k]?=some b:=by rw[hT,Frm.k,List.getElem?_append_right (Nat.le_refl _),Nat.sub_self];rfl
theorem hT_1:(hT e b c ss)[e.k+1]?=some (p8 105 12 c.length (r8 c)):=by rw[hT,Frm.k,List.getElem?_append_right (by omega),Nat.add_sub_cancel_left];rfl
theorem hT_2:(hT e b c ss)[e.k+2]?=some (p8 3 1 ss.length (l5 ss)):=by rw[hT,Frm.k,List.getElem?_append_right (by omega),Nat.add_sub_cancel_left];rfl
theorem OE:(hT e b c ss++l)[e.k]?=some b:=by rw[List.getElem?_append_left (by rw[aT];exact e.lt.1),hT_0]
theorem OF:(hT e b c ss++l)[e.k+1]?=some (p8 105 12 c.length (r8 c)):=by rw[List.getElem?_append_left (by rw[aT];exact e.lt.2.1),hT_1]
theorem OG:(hT e b c ss++l)[e.k+2]?=some (p8 3 1 ss.length (l5 ss)):=by rw[List.getElem?_append_left (by rw[aT];exact e.lt.2.2),hT_2]
theorem eR:(hT e b c ss++l)[e.n+j]?=l[j]?:=by rw[List.getElem?_append_right (by rw[aT];omega),aT,Nat.add_sub_cancel_left]
theorem zR:(hT e b c ss++l)[e.n]?=l[0]?:=by rw[List.getElem?_append_right (by rw[aT];omega),aT,Nat.sub_self]
theorem iH:(hT e b c ss++l).set (e.n+j) b'=hT e b c ss++l.set j b':=by rw[List.set_append_right _ _ (by rw[aT];omega),aT,Nat.add_sub_cancel_left]
theorem N1:(hT e b c ss++l).set e.n b'=hT e b c ss++l.set 0 b':=by rw[List.set_append_right _ _ (by rw[aT];omega),aT,Nat.sub_self]
theorem OH:(hT e b c ss).set e.k b'=hT e b' c ss:=by rw[hT,Frm.k,List.set_append_right _ _ (Nat.le_refl _),Nat.sub_self];rfl
theorem V0:(hT e b c ss++l).set e.k b'=hT e b' c ss++l:=by rw[List.set_append_left _ _ (by rw[aT];exact e.lt.1),OH]
theorem hT_p1:(hT e b c ss).set (e.k+1) (p8 105 12 c'.length (r8 c'))=hT e b c' ss:=by rw[hT,Frm.k,List.set_append_right _ _ (by omega),Nat.add_sub_cancel_left];rfl
theorem hT_p2:(hT e b c ss).set (e.k+2) (p8 3 1 ss'.length (l5 ss'))=hT e b c ss':=by rw[hT,Frm.k,List.set_append_right _ _ (by omega),Nat.add_sub_cancel_left];rfl
theorem SW:(hT e b c ss++l).set (e.k+1) (p8 105 12 c'.length (r8 c'))=hT e b c' ss++l:=by rw[List.set_append_left _ _ (by rw[aT];exact e.lt.2.1),hT_p1]
theorem hT_p2a:(hT e b c ss++l).set (e.k+2) (p8 3 1 ss'.length (l5 ss'))=hT e b c ss'++l:=by rw[List.set_append_left _ _ (by rw[aT];exact e.lt.2.2),hT_p2]
theorem SX:hT e b c ss++l=hT ⟨e.pre,e.rest++l⟩ b c ss:=by simp[hT]
end
theorem SY (l:List Ins):aO (r8 l):=aO.flat fun i=>by rw[eZ,bZ];exact .cons .int (.cons .int (.cons .bool (.cons .int (.cons .int (.cons .str (.cons .vec (.cons .bool (.cons .int (.cons .vec (.cons .vec (.cons .vec .nil)))))))))))
theorem oR (l:List Int):aO (l5 l):=aO.map fun _=>.int
theorem zS {e:Frm}{b b':Blk}{c c':List Ins}{ss ss':List Int}(hb:∀x∈b'.cells,Refs e.n x):z8 (hT e b c ss) (hT e b' c' ss'):=by unfold hT;refine z8.app (z8.refl _) rfl ⟨.inr ?_,.inr (by rw[o9];exact (SY _).refs _),.inr (by rw[o9];exact (oR _).refs _),mY.refl _ _⟩;rw[show e.pre.length+(b'::p8 105 12 c'.length (r8 c')::p8 3 1 ss'.length (l5 ss')::e.rest).length=e.n from by simp[Frm.n]];exact hb
variable {s:Sco}
theorem hT_keep {e:Frm}{k:Nat}{s':Sco}:k=e.k→z8 (hT e (aN k s) s.code s.sites) (hT e (aN k s') s'.code s'.sites):=by
  rintro rfl;refine zS (dK.get ⟨.vec _ _,.vec _ _,.vec _ _,.vec _ _,.int _ _,.int _ _,.int _ _,.int _ _,.own _ _ _ _ ?_,.own _ _ _ _ ?_,trivial⟩)
  · exact e.lt.2.1
  · exact e.lt.2.2
theorem gL {f:FuncId}{args:List AV}{x:AV}{s':Sco}{l:c8}{e:Frm}(h:CH f args (hT ⟨e.pre,e.rest++l⟩ (aN e.k s) s.code s.sites) x (hT ⟨e.pre,e.rest++l⟩ (aN e.k s') s'.code s'.sites)):CH f args (hT e (aN e.k s) s.code s.sites++l) x (hT e (aN e.k s') s'.code s'.sites++l):=by rw[SX,SX];exact h
theorem B2 {α:Type}(f:α→List AV)(K j:Nat)(hK:∀a,(f a).length=K)(hj:j<K)(d:α){l:List α}{i:Nat}(h:i<l.length):List.take 1 (List.drop (i*K+j) (l.flatMap f))=List.take 1 (List.drop j (f (l.getD i d))):=by rw[←bD f K hK d h,List.drop_take,List.take_take,List.drop_drop,Nat.min_eq_left (by omega)]
theorem kM {l:List Ent}{i:Nat}(h:i<l.length):List.take 1 (List.drop (i*3) (l4 l))=[.str (l.getD i kD).name]:=B2 jH 3 0 (fun _=>rfl) (by omega) kD h
variable {x:BA}
theorem find_at {l:List Ent}:∀{i:Nat},i<l.length→(∀d,d<i→((l.getD d kD).name.toList==x.toList)=false)→((l.getD i kD).name.toList==x.toList)=true→cB l x=some (l.getD i kD):=by
  have tl:∀{a b:BA},(a.toList==b.toList)=decide (a=b):=by
    intro a b;rw[ByteArray.toList_eq,ByteArray.toList_eq,Bool.eq_iff_iff];simp only[beq_iff_eq,decide_eq_true_eq];constructor
    · intro h
      exact ByteArray.ext (Array.toList_inj.1 h)
    · rintro rfl;rfl
  induction l with
  | nil=>intro i h;simp at h
  | cons e l ih=>
    intro i hi h1 h2;rw[cB,List.find?_cons];cases i with
    | zero=>
      rw[tl]at h2;simp only[List.getD_cons_zero]at h2 ⊢;rw[h2]
    | succ i=>
      have h0:=h1 0 (by omega);rw[tl]at h0;simp only[List.getD_cons_zero]at h0;rw[h0];simp only[List.getD_cons_succ]at h2 ⊢;exact ih (by simpa using hi) (fun d hd=>by have:=h1 (d+1) (by omega);simpa using this) h2
theorem find_no {l:List Ent}(h:∀d,d<l.length→((l.getD d kD).name.toList==x.toList)=false):cB l x=none:=by rw[cB,List.find?_eq_none];intro e he;obtain ⟨i,hi,rfl⟩:=cJ (d:=kD) he;have:=h i hi;intro hc;simp only[decide_eq_true_eq]at hc;rw[hc]at this;simp at this
theorem find_nx {l:List Ent}{i:Nat}(h:∀d,d<i→((l.getD d kD).name.toList==x.toList)=false)(e:((l.getD i kD).name.toList==x.toList)=false):∀d,d<i+1→((l.getD d kD).name.toList==x.toList)=false:=fun d hd=>by
  by_cases hdi:d=i
  · rw[hdi];exact e
  · exact h d (by omega)
variable {v:Ent}
theorem V1 {l:List Ent}(h:cB l x=some v):AV.tup [.agg [.str v.name,.int .i64 v.kind,.int .i64 v.n],.bool true]=.tup [.agg (jH (fG l x)),.bool (cB l x).isSome]:=by rw[eU h,h];rfl
theorem V2 {l:List Ent}(h:cB l x=none):AV.tup [.agg [.str ByteArray.empty,.int .i64 0,.int .i64 0],.bool false]=.tup [.agg (jH (fG l x)),.bool (cB l x).isSome]:=by rw[fG,h];rfl
variable {i:Ins}
theorem lS:eZ i=[.int .i64 i.op,.int .i64 i.target,.bool i.global,.int .i64 i.e.op,.int .i64 i.e.num,.str i.e.name,.vec i.e.args.length (o8 i.e.args),.bool i.pl.param,.int .i64 i.pl.index,.vec i.pl.at'.length (o8 i.pl.at'),.vec i.ints.length (o8 i.ints),.vec i.places.length (eD i.places)]:=by rw[eZ,bZ];rfl
theorem N2 {l:List Ins}:r8 (l++[i])=r8 l++eZ i:=by simp[r8]
theorem qC {l:List Int}{i:Int}:l5 (l++[i])=l5 l++[.int .i64 i]:=by simp[l5]
theorem XV (l:List Ex):aO (o8 l):=aO.flat fun e=>by rw[bZ];exact .cons .int (.cons .int (.cons .str (.cons .vec .nil)))
theorem GI (l:List Pl):aO (eD l):=aO.flat fun p=>.cons .bool (.cons .int (.cons .vec .nil))
theorem vN:List.take 12 (eZ i)=eZ i:=List.take_of_length_le (by rw[bE];omega)
variable {b0:Blk}
theorem OI {e:Frm}{b:Blk}{c:List Ins}{ss:List Int}{l:c8}{n:Nat}(hn:c.length=n)(hl:n<100000):j5 cfg 105 (hT e b c ss++(b0::⟨1,false,105,12,eZ i,0⟩::l)) (.own (e.k+1) n 0 n) (.own (e.n+1) 1 0 1)=some (.own (e.k+1) (n+1) 0 (n+1),hT e b (c++[i]) ss++(b0::⟨1,false,105,12,eZ i,0⟩::l)):=by
  subst hn;have h1:(c++[i]).length=c.length+1:=by simp
  rw[aC (C:=cfg) (K:=12) (m:=1) (new:=eZ i) OF rfl (by omega) (by rw[w6,Nat.mul_comm]) (by rw[bE]) (by omega) (by simp[rd,eR,bE,vN]) rfl (by decide) (by omega),←N2,←h1,SW]
theorem G5 {e:Frm}{b:Blk}{c:List Ins}{ss:List Int}{l:c8}{n:Nat}(hn:c.length=n)(hl:n<100000):j5 cfg 105 (hT e b c ss++(b0::⟨1,false,105,12,[.int .i64 i.op,.int .i64 i.target,.bool i.global,.int .i64 i.e.op,.int .i64 i.e.num,.str i.e.name,.vec i.e.args.length (o8 i.e.args),.bool i.pl.param,.int .i64 i.pl.index,.vec i.pl.at'.length (o8 i.pl.at'),.vec i.ints.length (o8 i.ints),.vec i.places.length (eD i.places)],0⟩::l)) (.own (e.k+1) n 0 n) (.own (e.n+1) 1 0 1)=some (.own (e.k+1) (n+1) 0 (n+1),hT e b (c++[i]) ss++(b0::⟨1,false,105,12,[.int .i64 i.op,.int .i64 i.target,.bool i.global,.int .i64 i.e.op,.int .i64 i.e.num,.str i.e.name,.vec i.e.args.length (o8 i.e.args),.bool i.pl.param,.int .i64 i.pl.index,.vec i.pl.at'.length (o8 i.pl.at'),.vec i.ints.length (o8 i.ints),.vec i.places.length (eD i.places)],0⟩::l)):=by rw[←lS];exact OI hn hl
theorem V3 {e:Frm}{b b1:Blk}{c:List Ins}{ss:List Int}{l:c8}{t:Int}{n:Nat}(hn:ss.length=n)(hl:n<100000):j5 cfg 3 (hT e b c ss++(b0::b1::⟨1,false,3,1,[.int .i64 t],0⟩::l)) (.own (e.k+2) n 0 n) (.own (e.n+2) 1 0 1)=some (.own (e.k+2) (n+1) 0 (n+1),hT e b c (ss++[t])++(b0::b1::⟨1,false,3,1,[.int .i64 t],0⟩::l)):=by
  subst hn;have h1:(ss++[t]).length=ss.length+1:=by simp
  rw[aC (C:=cfg) (K:=1) (m:=1) (new:=[.int .i64 t]) OG rfl (by omega) (by rw[n6,Nat.mul_one]) rfl (by omega) (by simp[rd,eR]) rfl (by decide) (by omega),←qC,←h1,hT_p2a]
attribute [local go_sem] j5 rd u7 p7 bT dB w6 bE gD dU q9 bO aZ n6 bV Int.natCast_nonneg Int.natCast_inj List.length_map wrap64 gJ jT jU T8 F3 L9 T9 qS max2 fP dG bW Nat.reduceMul nR kM aN jH qB lR vN aT hT_0 hT_1 hT_2 OE OF OG eR zR iH N1 OH V0
variable {h:c8}
theorem SZ (l:List Ent)(x:BA)(hl:l.length<1000000):CB 48 [.vec l.length (l4 l),.str x] h (.tup [.agg (jH (fG l x)),.bool (cB l x).isSome]):=by
  refine .bz Tryz.f48 25 ?_;refine c26z ?_;refine .jZ (fun m st=>∃(i:Nat),(m=l.length-i∧((∀d,d<i→((l.getD d kD).name.toList==x.toList)=false)∧i≤l.length))∧st=⟨mkS 25 [(0,AV.vec l.length (l4 l)),(1,AV.str x),(4,AV.ptr h.length 0 0),(6,AV.int .i64 ((i:Nat):Int))],h++[⟨0,false,131,3,[.str ByteArray.empty,.int .i64 0,.int .i64 0],0⟩]⟩) _ (.v ⟨0,⟨rfl,⟨t106,by omega⟩⟩,rfl⟩) ?_;rintro m sl h' ⟨i,⟨hm,⟨hI,hi⟩⟩,hst⟩;obtain ⟨rfl,rfl⟩:=St.mk.inj hst;refine c1z ?_;refine u2z ?_ ?_
  ·intro e1 qe1;refine c207z ?_;refine u2z ?_ ?_
   ·intro e2 qe2;refine .c7 [0,4,6] ?_;refine .z ?_;exact .ret (.ex (hq:=t200))
   intro e2 qe2;refine c8z ?_;refine .c7 [0,1,4,6] ?_;refine .rz ?_;exact ⟨_,by omega,.v ⟨(i+1),⟨rfl,⟨find_nx hI (by assumption),by omega⟩⟩,rfl⟩⟩
  intro e1 qe1;refine .exit ?_;obtain rfl:i=l.length:=by omega
  change g7 ..;refine .z ?_;exact .ret (.ex (hq:=t200))
theorem N4 {l:List Ent}(hf:cB l x=some v)(hl:l.length<1000000):CB 48 [.vec l.length (l4 l),.str x] h (.tup [.agg [.str v.name,.int .i64 v.kind,.int .i64 v.n],.bool true]):=by have:=SZ (h:=h) l x hl;rw[←V1 hf]at this;exact this
theorem GJ {l:List Ent}(hf:cB l x=none)(hl:l.length<1000000):CB 48 [.vec l.length (l4 l),.str x] h (.tup [.agg [.str ByteArray.empty,.int .i64 0,.int .i64 0],.bool false]):=by have:=SZ (h:=h) l x hl;rw[←V2 hf]at this;exact this
theorem c_var {e:Frm}(hl:s.l.length<1000000)(t:Int)(hf:cB s.l x=some v)(hk:v.kind=1∨v.kind=4):CB 104 [.ptr e.k 0 0,.str x,.int .i64 t] (hT e (aN e.k s) s.code s.sites) (.agg [.str v.name,.int .i64 v.kind,.int .i64 v.n]):=by
  refine .bz Tryz.f104 37 ?_;refine .z ?_;refine c34z ?_;refine .ca rfl rfl (N4 hf hl) ?_;refine .n ?_;refine .sb ?_;refine .c7 [0,2,6,7,8] ?_;refine c11z ?_;refine c28z ?_;refine .spl 28 rfl rfl (fun e1=>?_) (fun e1=>?_)
  ·try simp only[e1]
   have qe1:=fact e1;refine .m [(3,28)] ?_;refine uFbz ?_;intro e2 qe2;refine c8z ?_;refine c250z ?_;exact .ret (.ex (hf:=t3) (hq:=by rfl))
  try simp only[e1]
  have qe1:=fact e1;refine .m [(3,28)] ?_;refine c47z ?_;refine c250z ?_;exact .ret (.ex (hf:=t3) (hq:=by rfl))
theorem c_ex1 {e:Frm}(hl:s.l.length<1000000)(t:Int)(n:Int):CB 103 [.ptr e.k 0 0,.agg (v9 (.leaf 1 n ByteArray.empty)),.int .i64 t] (hT e (aN e.k s) s.code s.sites) (.agg (v9 (gE s.l (.leaf 1 n ByteArray.empty)))):=by refine c266z ?_;refine c14z ?_;refine c20z ?_;refine .c7 [0,2,4,6,8] ?_;refine c151z ?_;refine .c7 [6,8] ?_;refine .z ?_;exact .ret (.ex (hf:=t3) (hq:=by rfl))
theorem c_ex2 {e:Frm}(hl:s.l.length<1000000)(t:Int)(n:Int)(hf:cB s.l x=some v)(hk:v.kind=1∨v.kind=4):CB 103 [.ptr e.k 0 0,.agg (v9 (.leaf 2 n x)),.int .i64 t] (hT e (aN e.k s) s.code s.sites) (.agg (v9 (gE s.l (.leaf 2 n x)))):=by
  refine c266z ?_;refine .T ?_;refine c28z ?_;refine .ca rfl rfl (gL (c_var hl t hf hk)) ?_;refine c44z ?_;refine c250z ?_;refine u2z ?_ ?_
  ·intro e1 qe1;refine .z ?_;exact .ret (.ex (hf:=t3) (hq:=t234))
  intro e1 qe1;refine c239z ?_;exact .ret (.ex (hf:=t3) (hq:=t234))
theorem c_exU {e:Frm}(hl:s.l.length<1000000)(t:Int)(o:Int)(a:Ex)(ho:o≠2)(iha:∀e:Frm,CB 103 [.ptr e.k 0 0,.agg (v9 a),.int .i64 t] (hT e (aN e.k s) s.code s.sites) (.agg (v9 (gE s.l a)))):CB 103 [.ptr e.k 0 0,.agg (v9 (.un o a)),.int .i64 t] (hT e (aN e.k s) s.code s.sites) (.agg (v9 (gE s.l (.un o a)))):=by refine c266z ?_;refine uFbz ?_;intro e1 qe1;refine .sk ?_;refine c20z ?_;refine .c7 [0,2,4,6,8] ?_;refine c29z ?_;refine c232z ?_;refine c40z ?_;refine c139z ?_;refine c200z ?_;refine .cn [true] [512,0] [_] rfl rfl (by simp only[kA,and_true,List.cons_append,List.nil_append];exact gL (iha _)) ?_;refine c83z ?_;refine c108z ?_;refine c66z ?_;refine .c7 [0,2,4,6,8,9] ?_;refine .rz ?_;refine c43z ?_;refine .c7 [6,8] ?_;refine .z ?_;exact .ret (.ex (hf:=t3) (hq:=by rfl))
theorem c_exB {e:Frm}(hl:s.l.length<1000000)(t:Int)(o:Int)(a b:Ex)(ho:o≠2)(iha:∀e:Frm,CB 103 [.ptr e.k 0 0,.agg (v9 a),.int .i64 t] (hT e (aN e.k s) s.code s.sites) (.agg (v9 (gE s.l a))))(ihb:∀e:Frm,CB 103 [.ptr e.k 0 0,.agg (v9 b),.int .i64 t] (hT e (aN e.k s) s.code s.sites) (.agg (v9 (gE s.l b)))):CB 103 [.ptr e.k 0 0,.agg (v9 (.bin o a b)),.int .i64 t] (hT e (aN e.k s) s.code s.sites) (.agg (v9 (gE s.l (.bin o a b)))):=by refine c266z ?_;refine uFbz ?_;intro e1 qe1;refine .sk ?_;refine c20z ?_;refine .c7 [0,2,4,6,8] ?_;refine c29z ?_;refine c152z ?_;refine c40z ?_;refine c139z ?_;refine c200z ?_;refine .cn [true] [512,0] [_] rfl rfl (by simp only[kA,and_true,List.cons_append,List.nil_append];exact gL (iha _)) ?_;refine c83z ?_;refine c108z ?_;refine c66z ?_;refine .c7 [0,2,4,6,8,9] ?_;refine .rz ?_;refine c79z ?_;refine c40z ?_;refine c139z ?_;refine c200z ?_;refine .cn [true] [512,0] [_] rfl rfl (by simp only[kA,and_true,List.cons_append,List.nil_append];exact gL (ihb _)) ?_;refine c83z ?_;refine c108z ?_;refine c66z ?_;refine .c7 [0,2,4,6,8,9] ?_;refine .rz ?_;refine c43z ?_;refine .c7 [6,8] ?_;refine .z ?_;exact .ret (.ex (hf:=t3) (hq:=by rfl))
theorem Hm {s:Sco}(hl:s.l.length<1000000)(t:Int){vars:List BA}(hv:∀x∈vars,∃v,cB s.l x=some v∧(v.kind=1∨v.kind=4)):∀{d:Nat} {a:Ex},GE vars d a→∀e:Frm,CB 103 [.ptr e.k 0 0,.agg (v9 a),.int .i64 t] (hT e (aN e.k s) s.code s.sites) (.agg (v9 (gE s.l a)))
  | d,.leaf o n x,hg,e=>by
    rcases kF.1 hg with ⟨rfl,_,_,rfl⟩ | ⟨rfl,_,h1⟩
    · exact c_ex1 hl t n
    · obtain ⟨v,h2,h3⟩:=hv x h1
      exact c_ex2 hl t n h2 h3
  | 0,.un o a,hg,e=>hg.elim
  | 0,.bin o a b,hg,e=>hg.elim
  | d+1,.un o a,hg,e=>c_exU hl t o a (by have:=hg.1;omega) (Hm hl t hv hg.2)
  | d+1,.bin o a b,hg,e=>c_exB hl t o a b (by have:=hg.1;omega) (Hm hl t hv hg.2.1) (Hm hl t hv hg.2.2)
theorem sz_0 {m:Int}(h:m=0):decide (m > 0)=false:=by simp;omega
theorem sz_1 {m:Int}(h:0<m):decide (m > 0)=true:=by simp;omega
theorem nT {l:List Fu}{i:Nat}(h:i<l.length):List.take 1 (List.drop (i*3+1) (p9 l))=[AV.vec (l.getD i j9).params.length (z9 (l.getD i j9).params)]:=B2 eO 3 1 (fun _=>rfl) (by omega) j9 h
variable {y:BA}
theorem c_ref5 {e:Frm}(hl:s.l.length<1000000)(t:Int){n:Int}(hf:cB s.l x=some ⟨y,5,n⟩):CB 106 [.ptr e.k 0 0,.agg [.str x,.vec 0 []],.int .i64 t] (hT e (aN e.k s) s.code s.sites) (.agg [.bool true,.int .i64 n,.vec 0 []]):=by refine .bz Tryz.f106 92 ?_;refine .z ?_;refine c25z ?_;refine c128z ?_;refine c259z ?_;refine c169z ?_;refine .sb ?_;refine c11z ?_;refine .c7 [0,2,4,6,7,9] ?_;refine .s ?_;refine .k 8 [(3,63)] ?_;refine .n ?_;refine .F ?_;refine c86z ?_;refine .k 8 [(3,31)] ?_;refine .k 8 [(3,31)] ?_;refine .n [] ?_;refine .c7 [0,2,4,6,9,10] ?_;refine c11z ?_;refine c8z ?_;refine c7z ?_;refine c60z ?_;refine c251z ?_;exact .ret (.ex (hf:=t3) (hq:=by rfl))
section
attribute [local go_sem] sz_0
theorem c_ref2 {e:Frm}(hl:s.l.length<1000000)(t:Int){n:Int}(hf:cB s.l x=some ⟨y,2,n⟩)(hn:0≤n∧n<s.p.c5.length)(hz:(s.p.c5.getD n.toNat dC).size=0):CB 106 [.ptr e.k 0 0,.agg [.str x,.vec 0 []],.int .i64 t] (hT e (aN e.k s) s.code s.sites) (.agg [.bool false,.int .i64 n,.vec 0 []]):=by refine .bz Tryz.f106 92 ?_;refine .z ?_;refine c25z ?_;refine c128z ?_;refine c259z ?_;refine c169z ?_;refine .sb ?_;refine c11z ?_;refine .c7 [0,2,4,6,7,9] ?_;refine .s ?_;refine .k 8 [(3,63)] ?_;refine .n ?_;refine .F ?_;refine c86z ?_;refine .k 8 [(3,31)] ?_;refine .k 8 [(3,31)] ?_;refine .n [] ?_;refine .c7 [0,2,4,6,9,10] ?_;refine c11z ?_;refine c8z ?_;refine c7z ?_;refine c60z ?_;refine c251z ?_;exact .ret (.ex (hf:=t3) (hq:=by rfl))
end
section
attribute [local go_sem] sz_1
variable {vars:List BA}
theorem c_ref1 {e:Frm}(hl:s.l.length<1000000)(t:Int){n:Int}(hf:cB s.l x=some ⟨y,2,n⟩)(hn:0≤n∧n<s.p.c5.length)(hz:0<(s.p.c5.getD n.toNat dC).size)(hv:∀x∈vars,∃v,cB s.l x=some v∧(v.kind=1∨v.kind=4)){d:Nat}{a:Ex}(ha:GE vars d a):CB 106 [.ptr e.k 0 0,.agg [.str x,.vec 1 (v9 a)],.int .i64 t] (hT e (aN e.k s) s.code s.sites) (.agg [.bool false,.int .i64 n,.vec 1 (v9 (gE s.l a))]):=by refine .bz Tryz.f106 92 ?_;refine .z ?_;refine c25z ?_;refine c128z ?_;refine c259z ?_;refine c169z ?_;refine .sb ?_;refine c11z ?_;refine .c7 [0,2,4,6,7,9] ?_;refine .s ?_;refine .k 8 [(3,63)] ?_;refine .n ?_;refine .F ?_;refine c86z ?_;refine .k 8 [(3,31)] ?_;refine .k 8 [(3,31)] ?_;refine .n [] ?_;refine .c7 [0,2,4,6,9,10] ?_;refine c11z ?_;refine c8z ?_;refine c7z ?_;refine c232z ?_;refine .c7 [0,2,4,6,9,11] ?_;refine c40z ?_;refine c139z ?_;refine c200z ?_;refine .cn [true] [512,0] [_] rfl rfl (by simp only[kA,and_true,List.cons_append,List.nil_append];exact gL (Hm hl t hv ha _)) ?_;refine c83z ?_;refine c108z ?_;refine c66z ?_;refine .c7 [0,2,4,6,9,11] ?_;refine .rz ?_;refine c43z ?_;refine c251z ?_;exact .ret (.ex (hf:=t3) (hq:=by rfl))
end
variable {vars:List BA}
theorem c_refL {e:Frm}(hl:s.l.length<1000000)(t:Int){E:Env}{c:Ctx}(sc:SC E c vars s.l)(hE:E.c5=s.p.c5)(hc:c.nm=s.p.c5.length){r:Rf}(g:GR E vars r):CB 106 [.ptr e.k 0 0,.agg [.str r.name,.vec r.idx.length (o8 r.idx)],.int .i64 t] (hT e (aN e.k s) s.code s.sites) (.agg (E7 (rG s.l r))):=by
  obtain ⟨x,idx⟩:=r;rcases g with ⟨m,hm,hn,⟨hz,a,hi,ha⟩ | ⟨hz,hi⟩⟩ | ⟨p,hp,hmu,hn,hi⟩
  · simp only at hn hi
    subst hn hi;obtain ⟨v,h1,h2,h3,h4,h5⟩:=sc.mx m hm;obtain ⟨y,k,n⟩:=v;simp only at h2 h3 h4 h5;subst h2;rw[hE]at h5;have:=c_ref1 (e:=e) hl t h1 ⟨h3,by omega⟩ (by rw[h5];exact hz) sc.var ha;simp only[rG,eU h1,E7,List.map_cons,List.map_nil,List.length_cons,List.length_nil,o8,List.flatMap_cons,List.flatMap_nil,List.append_nil];exact this
  · simp only at hn hi
    subst hn hi;obtain ⟨v,h1,h2,h3,h4,h5⟩:=sc.mx m hm;obtain ⟨y,k,n⟩:=v;simp only at h2 h3 h4 h5;subst h2;rw[hE]at h5;have:=c_ref2 (e:=e) hl t h1 ⟨h3,by omega⟩ (by rw[h5];exact hz);simp only[rG,eU h1];exact this
  · simp only at hn hi
    subst hn hi;obtain ⟨v,h1,h2,h3,h4⟩:=sc.pm p hp hmu;obtain ⟨y,k,n⟩:=v;simp only at h2 h3 h4;subst h2;have:=c_ref5 (e:=e) hl t h1;simp only[rG,eU h1];exact this
end Go.Proofs.YtapdldekgbbomaaGreatDoor
end
section
namespace Go.Proofs.YtapdldekgbbomaaGreatDoor
open Go.Ab Go.Un
theorem BK {l:List Ex}{x:Ex}:o8 (l++[x])=o8 l++v9 x:=by simp[o8]
theorem N5 {l:List Pl}{x:Pl}:eD (l++[x])=eD l++E7 x:=by simp[eD]
section
variable {e:Frm}{b b0 b1 b2 b3 b4 b5 b6:Blk}{c:List Ins}{ss:List Int}{l:c8}{es:List Ex}{x:Ex}{ps:List Pl}{p:Pl}{g n:Nat}
theorem GK (hn:es.length=n)(hl:n<100000):j5 cfg 100 (hT e b c ss++(b0::b1::b2::b3::p8 100 4 g (o8 es)::b5::b6::⟨0,false,100,4,v9 x,0⟩::l)) (.own (e.n+4) g 0 n) (.own (e.n+7) 0 0 1)=some (.own (e.n+4) (g+1) 0 (n+1),hT e b c ss++(b0::b1::b2::b3::p8 100 4 (g+1) (o8 (es++[x]))::b5::b6::⟨0,false,100,4,v9 x,0⟩::l)):=by subst hn;rw[aC (C:=cfg) (K:=4) (m:=1) (new:=v9 x) (zs:=o8 es) (by rw[eR];rfl) rfl (by omega) (by rw[bT,Nat.mul_comm]) (by rw[p7]) (by omega) (by simp[rd,eR,p7,gJ]) rfl (by decide) (by omega),←BK,iH];rfl
theorem GL (hn:ps.length=n)(hl:n<100000):j5 cfg 102 (hT e b c ss++(b0::b1::b2::b3::b4::p8 102 3 g (eD ps)::b6::⟨0,false,102,3,[.bool p.param,.int .i64 p.index,.vec p.at'.length (o8 p.at')],0⟩::l)) (.own (e.n+5) g 0 n) (.own (e.n+7) 0 0 1)=some (.own (e.n+5) (g+1) 0 (n+1),hT e b c ss++(b0::b1::b2::b3::b4::p8 102 3 (g+1) (eD (ps++[p]))::b6::⟨0,false,102,3,[.bool p.param,.int .i64 p.index,.vec p.at'.length (o8 p.at')],0⟩::l)):=by subst hn;rw[aC (C:=cfg) (K:=3) (m:=1) (new:=E7 p) (zs:=eD ps) (by rw[eR];rfl) rfl (by omega) t235 rfl (by omega) (by simp[rd,eR,E7]) rfl (by decide) (by omega),←N5,iH];rfl
end
theorem hT_same {e:Frm}{b:Blk}{c:List Ins}{ss:List Int}{l l':c8}(hl:mY (e.n+l'.length) l l'):z8 (hT e b c ss++l) (hT e b c ss++l'):=
  (z8.refl _).app rfl (by rw[aT];exact hl)
variable {E:Env}{vars:List BA}{xs:List Ar}
theorem GAs.mu {ps:List Pm}(h:GAs E vars ps xs):ps.length=xs.length∧∀i,i<xs.length→(xs.getD i eC).mu=(ps.getD i iO).mu:=by
  induction ps generalizing xs with
  | nil=>
    cases xs with
    | nil=>exact ⟨rfl,fun i hi=>by simp at hi⟩
    | cons=>exact h.elim
  | cons p ps ih=>
    cases xs with
    | nil=>exact h.elim
    | cons a xs=>
      obtain ⟨⟨h1,_⟩,h3⟩:=h;obtain ⟨i1,i2⟩:=ih h3;refine ⟨by simp[i1],fun i hi=>?_⟩;cases i with
      | zero=>exact h1
      | succ i=>exact i2 i (by simpa using hi)
theorem ar_is {ps:List Pm}(h:GAs E vars ps xs){i:Nat}(hi:i<xs.length):((xs.getD i eC).mu=true→GR E vars (xs.getD i eC).r)∧((xs.getD i eC).mu=false→GE vars 2 (xs.getD i eC).e):=by
  induction ps generalizing xs i with
  | nil=>
    cases xs with
    | nil=>simp at hi
    | cons=>exact h.elim
  | cons p ps ih=>
    cases xs with
    | nil=>exact h.elim
    | cons a xs=>
      obtain ⟨⟨h1,h2⟩,h3⟩:=h;cases i with
      | succ i=>exact ih h3 (by simpa using hi)
      | zero=>
        simp only[List.getD_cons_zero];rcases h2 with ⟨q1,q2,_⟩ | ⟨q1,_,q3⟩
        · exact ⟨fun _=>q2,fun h=>absurd ((h1.trans q1).symm.trans h) (by decide)⟩
        · exact ⟨fun h=>absurd ((h1.trans q1).symm.trans h) (by decide),fun _=>q3⟩
variable {i:Nat}
theorem zT (hi:i<xs.length):xs.drop i=xs.getD i eC::xs.drop (i+1):=by rw[List.drop_eq_getElem_cons hi];simp[List.getD,hi]
theorem cEx_t {l:List Ent}(hi:i<xs.length)(h:(xs.getD i eC).mu=true){es:List Ex}(he:bF l xs=es++bF l (xs.drop i)):bF l xs=es++bF l (xs.drop (i+1)):=by rw[he,zT hi,bF,if_pos h]
theorem cEx_f {l:List Ent}(hi:i<xs.length)(h:(xs.getD i eC).mu=false){es:List Ex}(he:bF l xs=es++bF l (xs.drop i)):bF l xs=(es++[gE l (xs.getD i eC).e])++bF l (xs.drop (i+1)):=by rw[he,zT hi,bF,if_neg t229];simp
theorem cPl_t {l:List Ent}(hi:i<xs.length)(h:(xs.getD i eC).mu=true){ps:List Pl}(he:aL l xs=ps++aL l (xs.drop i)):aL l xs=(ps++[rG l (xs.getD i eC).r])++aL l (xs.drop (i+1)):=by rw[he,zT hi,aL,if_pos h];simp
theorem cPl_f {l:List Ent}(hi:i<xs.length)(h:(xs.getD i eC).mu=false){ps:List Pl}(he:aL l xs=ps++aL l (xs.drop i)):aL l xs=ps++aL l (xs.drop (i+1)):=by rw[he,zT hi,aL,if_neg t229]
theorem V4 {l:List Ar}(h:i<l.length):List.take 7 (List.drop (i*7) (bU l))=[.bool (l.getD i eC).mu,.str (l.getD i eC).r.name,.vec (l.getD i eC).r.idx.length (o8 (l.getD i eC).r.idx),.int .i64 (l.getD i eC).e.op,.int .i64 (l.getD i eC).e.num,.str (l.getD i eC).e.name,.vec (l.getD i eC).e.args.length (o8 (l.getD i eC).e.args)]:=by rw[uU h,vK]
variable {s:Sco}
theorem OJ (hl:s.l.length<1000000)(t:Int)(hv:∀x∈vars,∃v,cB s.l x=some v∧(v.kind=1∨v.kind=4)){d:Nat}{a:Ex}(g:GE vars d a)(e:Frm):CB 103 [.ptr e.k 0 0,.agg [.int .i64 a.op,.int .i64 a.num,.str a.name,.vec a.args.length (o8 a.args)],.int .i64 t] (hT e (aN e.k s) s.code s.sites) (.agg (v9 (gE s.l a))):=by rw[←bZ];exact Hm hl t hv g e
theorem GM {e:Frm}(hl:s.l.length<1000000)(t:Int){c:Ctx}(sc:SC E c vars s.l)(hE:E.c5=s.p.c5)(hc:c.nm=s.p.c5.length){r:Rf}(g:GR E vars r):CB 106 [.ptr e.k 0 0,.agg [.str r.name,.vec r.idx.length (o8 r.idx)],.int .i64 t] (hT e (aN e.k s) s.code s.sites) (.agg [.bool (rG s.l r).param,.int .i64 (rG s.l r).index,.vec (rG s.l r).at'.length (o8 (rG s.l r).at')]):=c_refL hl t sc hE hc g
attribute [local go_sem] rd u7 p7 bT dB w6 bE gD dU q9 bO aZ n6 bV Int.natCast_nonneg Int.natCast_inj List.length_map wrap64 gJ jT jU T8 F3 L9 T9 qS max2 fP dG bW Nat.reduceMul nR kM aN jH qB lR vN aT hT_0 hT_1 hT_2 OE OF OG eR zR iH N1 OH V0 nT G5 V3 GK GL
section
attribute [local go_sem] G5 V3
theorem c_put {e:Frm}(hc:s.code.length<10000)(hs:s.sites.length<10000)(i:Ins)(t:Int):CH 72 [.ptr e.k 0 0,.agg (eZ i),.int .i64 t] (hT e (aN e.k s) s.code s.sites) (.int .i64 ((s.code.length:Nat):Int)) (hT e (aN e.k {s with code:=s.code++[i],sites:=s.sites++[t]}) (s.code++[i]) (s.sites++[t])):=by rw[lS];refine .wz Tryz.f72 33 ?_;refine .z ?_;refine .sg u9 (mkH 22 [0,0,0,4,12,28,0,64,252,0,512,1536,3584,0,8192,32764,65533,131069,262141,524287,1048575,2097151] [7,8,14,15,18,21] [(7,0),(14,1)] [0,128,384,16384,16512,16768,49536,311680,2408832] [0,1,2,3,4,5,6,7,8,9,10,11,12]) 2 ?_;refine .p 5 ?_;refine .rm [true] ?_;refine .rm [true] ?_;refine .em [true] [128,0] [_] ?_;refine .em [true,false] [384,128,0] [_] ?_;refine .p 3 ?_;refine .rm [true,true,true] ?_;refine .p 1 ?_;refine .en [true,true,true] [16768,16512,16384,384,128,0] [_,_,_] ?_;refine .en [true,false,false,false,false,false] [49536,16768,16512,16384,384,128,0] [_] ?_;refine .p 2 ?_;refine .en [true,false,false,false,false,false,false] [311680,49536,16768,16512,16384,384,128,0] [_] ?_;refine .p 2 ?_;refine .en [true,false,false,false,false,false,false,false] [2408832,311680,49536,16768,16512,16384,384,128,0] [_] ?_;refine .po [false,false,false,true,true,true,true,true,true] ?_;refine .po [false,false,false,false,true,false,false,true,false] ?_;refine .po [false,false,false,false,false,true,false,false,true] ?_;refine .po [false,false,false,false,false,true,false,false,true] ?_;refine .po [false,false,false,false,true,true,false,true,true] ?_;refine z4.nil rfl ?_;refine .c7 [0] ?_;refine c15z ?_;exact ⟨hT _ _ _ _,_,_,rfl,by (simp only[aT];exact Nat.le_refl _),(zS (dK.get ⟨.vec _ _,.vec _ _,.vec _ _,.vec _ _,.int _ _,.int _ _,.int _ _,.int _ _,.own _ _ _ _ e.lt.2.1,.own _ _ _ _ e.lt.2.2,trivial⟩)),t3,by exact ⟨congrArg (AV.int .i64) (by omega),by simp only[aN,List.length_append,List.length_cons,List.length_nil]⟩⟩
end
section
attribute [local go_sem] nT V4 GK GL
theorem c_call3 {e:Frm}(hl:s.l.length<1000000)(t:Int){c:Ctx}(sc:SC E c vars s.l)(hE:E.c5=s.p.c5)(hc:c.nm=s.p.c5.length){x y:BA}{n:Int}(hf:cB s.l x=some ⟨y,3,n⟩)(hn:0≤n∧n<s.p.funcs.length){ps:List Pm}(hp:(s.p.funcs.getD n.toNat j9).params=ps)(hp2:ps.length≤2)(ha:GAs E vars ps xs):CB 105 [.ptr e.k 0 0,.agg [.int .i64 3,.str x,.int .i64 0,.int .i64 0,.str ByteArray.empty,.vec 0 [],.str ByteArray.empty,.vec 0 [],.vec xs.length (bU xs),.vec 0 [],.vec 0 []],.int .i64 t] (hT e (aN e.k s) s.code s.sites) (.agg (eZ ⟨2,n,false,n4,cI,bF s.l xs,aL s.l xs⟩)):=by
  refine .bz Tryz.f105 112 ?_;refine .z ?_;refine c54z ?_;refine c14z ?_;refine c25z ?_;refine c128z ?_;refine c259z ?_;refine .sb ?_;refine .c7 [0,2,4,6,7,8,9] ?_;refine c72z ?_;refine c8z ?_;refine c169z ?_;refine .ss u9 (mkP 11 [0,1,3,7,15,0,32,127,255,511,1023] []) ?_;refine c159z ?_;refine .seq ?_;refine .c7 [0,2,4,6,7,10] ?_;have hml:=GAs.mu ha;have hml1:=hml.1;rw[hp];refine .z ?_;refine .spl 61 rfl rfl (fun e1=>by exfalso;have hml1:=(GAs.mu ha).1;have q:=fact e1;omega) (fun e1=>?_);try simp only[e1]
  have qe1:=fact e1;refine c14z ?_;refine c7z ?_;refine g7.mL (β:=e.n+2) (k:=10) t114 rfl ?_;simp only[List.append_assoc,List.cons_append,List.nil_append,eR,iH,List.set_cons_succ,List.set_cons_zero,List.length_append,aT,List.length_cons,List.length_nil,Nat.reduceAdd,Nat.zero_add];refine g7.mL (β:=e.n+2) (k:=11) t114 rfl ?_;simp only[List.append_assoc,List.cons_append,List.nil_append,eR,iH,List.set_cons_succ,List.set_cons_zero,List.length_append,aT,List.length_cons,List.length_nil,Nat.reduceAdd,Nat.zero_add];refine .aW (fun m st=>∃(q:Nat) (es:List Ex) (ps':List Pl) (gi:Nat) (gp:Nat),(m=ps.length-q∧(q≤ps.length∧bF s.l xs=es++bF s.l (xs.drop q)∧aL s.l xs=ps'++aL s.l (xs.drop q)∧es.length≤q∧ps'.length≤q))∧st=⟨mkS 112 [(0,AV.ptr e.k 0 0),(2,AV.int .i64 t),(4,AV.ptr e.n 0 0),(6,AV.ptr (e.n+1) 0 0),(7,AV.ptr (e.n+2) 0 0),(10,AV.vec ps.length (z9 ps)),(11,AV.int .i64 ((q:Nat):Int))],(hT e (aN e.k s) s.code s.sites)++[⟨0,false,149,11,[.int .i64 3,.str x,.int .i64 0,.int .i64 0,.str ByteArray.empty,.vec 0 [],.str ByteArray.empty,.vec 0 [],.vec xs.length (bU xs),.vec 0 [],.vec 0 []],0⟩,⟨0,false,105,12,[.int .i64 0,.int .i64 0,.bool false,.int .i64 0,.int .i64 0,.str ByteArray.empty,.l7,.bool false,.int .i64 0,.l7,.l7,.l7],0⟩,⟨0,false,105,12,[.int .i64 2,.int .i64 n,.bool false,.int .i64 0,.int .i64 0,.str ByteArray.empty,.l7,.bool false,.int .i64 0,.l7,.own (e.n+4) gi 0 es.length,.own (e.n+5) gp 0 ps'.length],0⟩,⟨0,false,131,3,[.str y,.int .i64 3,.int .i64 n],0⟩,p8 100 4 gi (o8 es),p8 102 3 gp (eD ps')]⟩) (.v ⟨0,([]:List Ex),([]:List Pl),0,0,⟨rfl,⟨by omega,by simp,by simp,by simp,by simp⟩⟩,rfl⟩ (hr:=t26)) ?_;rintro m sl h' ⟨q,es,ps',gi,gp,⟨hm,⟨hq,hes,hps,hel,hpl⟩⟩,hst⟩;obtain ⟨rfl,rfl⟩:=St.mk.inj hst;clear hst;refine c1z ?_;refine u2z ?_ ?_
  ·intro e2 qe2;refine c9z ?_;have har:=ar_is ha (i:=q) (by omega);refine c20z ?_;refine .c7 [0,2,4,6,7,10,11,12] ?_;refine .ss u9 (mkP 8 [0,1,0,0,12,28,60,127] []) ?_;refine .n [] ?_;refine .spl 84 rfl rfl (fun e3=>by exfalso;have hml2:=(GAs.mu ha).2 q (by omega);simp_all) (fun e3=>?_);try simp only[e3]
   have qe3:=fact e3;refine c14z ?_;refine .c7 [0,2,4,6,7,10,11,12] ?_;refine .z ?_;refine u2z ?_ ?_
   ·intro e4 qe4;have hmu:(xs.getD q eC).mu=true:=by assumption
    refine c51z ?_;refine c139z ?_;refine c27z ?_;refine .cn [true] [64,0] [_] rfl rfl t182 ?_;refine c94z ?_;refine c117z ?_;refine c66z ?_;refine .c7 [0,2,4,6,7,10,11] ?_;refine .rz ?_;exact ⟨_,by omega,.v ⟨(q+1),es,(ps'++[rG s.l (xs.getD q eC).r]),gi,(gp+1),⟨rfl,⟨by omega,cEx_t (by omega) hmu hes,cPl_t (by omega) hmu hps,by omega,t81⟩⟩,rfl⟩ (he:=t52) (hl:=t130) (hk:=t44) (hr:=t26)⟩
   intro e4 qe4;have hmu:(xs.getD q eC).mu=false:=by assumption
   refine c51z ?_;refine c139z ?_;refine c27z ?_;refine .cn [true] [64,0] [_] rfl rfl t183 ?_;refine c94z ?_;refine c117z ?_;refine c66z ?_;refine .c7 [0,2,4,6,7,10,11,105] ?_;refine .rz ?_;exact ⟨_,by omega,.v ⟨(q+1),(es++[gE s.l (xs.getD q eC).e]),ps',(gi+1),gp,⟨rfl,⟨by omega,cEx_f (by omega) hmu hes,cPl_f (by omega) hmu hps,t81,by omega⟩⟩,rfl⟩ (he:=t52) (hl:=t130) (hk:=t44) (hr:=t26)⟩
  intro e2 qe2;refine .exit ?_;obtain rfl:q=ps.length:=by omega
  rw[List.drop_of_length_le (by omega)]at hes hps;simp only[bF,aL,List.append_nil]at hes hps;refine g7.pR (γ:=e.n+4) (β:=e.n+2) (k:=10) (len:=es.length) t114 (by rw[bT,Nat.mul_comm]) (by omega) (XV _) t114 (by omega) rfl ?_;simp only[List.append_assoc,List.cons_append,List.nil_append,eR,iH,List.set_cons_succ,List.set_cons_zero,List.length_append,aT,List.length_cons,List.length_nil,Nat.reduceAdd,Nat.zero_add];refine g7.pR (γ:=e.n+5) (β:=e.n+2) (k:=11) (len:=ps'.length) t114 t235 (by omega) (GI _) t114 (by omega) rfl ?_;simp only[List.append_assoc,List.cons_append,List.nil_append,eR,iH,List.set_cons_succ,List.set_cons_zero,List.length_append,aT,List.length_cons,List.length_nil,Nat.reduceAdd,Nat.zero_add];generalize iC 100 4 gi (o8 es) (es.length*4)=Eb;generalize iC 102 3 gp (eD ps') (ps'.length*3)=Pb;change g7 ..;refine c250z ?_;exact .ret (.ex (hf:=t3) (hq:=t236))
end
section
attribute [local go_sem] nT V4 GK GL
theorem c_call4 {e:Frm}(hl:s.l.length<1000000)(t:Int){c:Ctx}(sc:SC E c vars s.l)(hE:E.c5=s.p.c5)(hc:c.nm=s.p.c5.length){x y:BA}{n:Int}(hf:cB s.l x=some ⟨y,3,n⟩)(hn:0≤n∧n<s.p.funcs.length){ps:List Pm}(hp:(s.p.funcs.getD n.toNat j9).params=ps)(hp2:ps.length≤2)(ha:GAs E vars ps xs):CB 105 [.ptr e.k 0 0,.agg [.int .i64 4,.str x,.int .i64 0,.int .i64 0,.str ByteArray.empty,.vec 0 [],.str ByteArray.empty,.vec 0 [],.vec xs.length (bU xs),.vec 0 [],.vec 0 []],.int .i64 t] (hT e (aN e.k s) s.code s.sites) (.agg (eZ ⟨3,n,false,n4,cI,bF s.l xs,aL s.l xs⟩)):=by
  refine .bz Tryz.f105 112 ?_;refine .z ?_;refine c54z ?_;refine .T ?_;refine c2z ?_;refine c25z ?_;refine c128z ?_;refine c259z ?_;refine .sb ?_;refine .c7 [0,2,4,6,7,8,9] ?_;refine c72z ?_;refine c8z ?_;refine c169z ?_;refine .ss u9 (mkP 11 [0,1,3,7,15,0,32,127,255,511,1023] []) ?_;refine c159z ?_;refine .seq ?_;refine .c7 [0,2,4,6,7,10] ?_;have hml:=GAs.mu ha;have hml1:=hml.1;rw[hp];refine .z ?_;refine .spl 61 rfl rfl (fun e1=>by exfalso;have hml1:=(GAs.mu ha).1;have q:=fact e1;omega) (fun e1=>?_);try simp only[e1]
  have qe1:=fact e1;refine c14z ?_;refine c7z ?_;refine g7.mL (β:=e.n+2) (k:=10) t114 rfl ?_;simp only[List.append_assoc,List.cons_append,List.nil_append,eR,iH,List.set_cons_succ,List.set_cons_zero,List.length_append,aT,List.length_cons,List.length_nil,Nat.reduceAdd,Nat.zero_add];refine g7.mL (β:=e.n+2) (k:=11) t114 rfl ?_;simp only[List.append_assoc,List.cons_append,List.nil_append,eR,iH,List.set_cons_succ,List.set_cons_zero,List.length_append,aT,List.length_cons,List.length_nil,Nat.reduceAdd,Nat.zero_add];refine .aW (fun m st=>∃(q:Nat) (es:List Ex) (ps':List Pl) (gi:Nat) (gp:Nat),(m=ps.length-q∧(q≤ps.length∧bF s.l xs=es++bF s.l (xs.drop q)∧aL s.l xs=ps'++aL s.l (xs.drop q)∧es.length≤q∧ps'.length≤q))∧st=⟨mkS 112 [(0,AV.ptr e.k 0 0),(2,AV.int .i64 t),(4,AV.ptr e.n 0 0),(6,AV.ptr (e.n+1) 0 0),(7,AV.ptr (e.n+2) 0 0),(10,AV.vec ps.length (z9 ps)),(11,AV.int .i64 ((q:Nat):Int))],(hT e (aN e.k s) s.code s.sites)++[⟨0,false,149,11,[.int .i64 4,.str x,.int .i64 0,.int .i64 0,.str ByteArray.empty,.vec 0 [],.str ByteArray.empty,.vec 0 [],.vec xs.length (bU xs),.vec 0 [],.vec 0 []],0⟩,⟨0,false,105,12,[.int .i64 0,.int .i64 0,.bool false,.int .i64 0,.int .i64 0,.str ByteArray.empty,.l7,.bool false,.int .i64 0,.l7,.l7,.l7],0⟩,⟨0,false,105,12,[.int .i64 3,.int .i64 n,.bool false,.int .i64 0,.int .i64 0,.str ByteArray.empty,.l7,.bool false,.int .i64 0,.l7,.own (e.n+4) gi 0 es.length,.own (e.n+5) gp 0 ps'.length],0⟩,⟨0,false,131,3,[.str y,.int .i64 3,.int .i64 n],0⟩,p8 100 4 gi (o8 es),p8 102 3 gp (eD ps')]⟩) (.v ⟨0,([]:List Ex),([]:List Pl),0,0,⟨rfl,⟨by omega,by simp,by simp,by simp,by simp⟩⟩,rfl⟩ (hr:=t26)) ?_;rintro m sl h' ⟨q,es,ps',gi,gp,⟨hm,⟨hq,hes,hps,hel,hpl⟩⟩,hst⟩;obtain ⟨rfl,rfl⟩:=St.mk.inj hst;clear hst;refine c1z ?_;refine u2z ?_ ?_
  ·intro e2 qe2;refine c9z ?_;have har:=ar_is ha (i:=q) (by omega);refine c20z ?_;refine .c7 [0,2,4,6,7,10,11,12] ?_;refine .ss u9 (mkP 8 [0,1,0,0,12,28,60,127] []) ?_;refine .n [] ?_;refine .spl 84 rfl rfl (fun e3=>by exfalso;have hml2:=(GAs.mu ha).2 q (by omega);simp_all) (fun e3=>?_);try simp only[e3]
   have qe3:=fact e3;refine c14z ?_;refine .c7 [0,2,4,6,7,10,11,12] ?_;refine .z ?_;refine u2z ?_ ?_
   ·intro e4 qe4;have hmu:(xs.getD q eC).mu=true:=by assumption
    refine c51z ?_;refine c139z ?_;refine c27z ?_;refine .cn [true] [64,0] [_] rfl rfl t182 ?_;refine c94z ?_;refine c117z ?_;refine c66z ?_;refine .c7 [0,2,4,6,7,10,11] ?_;refine .rz ?_;exact ⟨_,by omega,.v ⟨(q+1),es,(ps'++[rG s.l (xs.getD q eC).r]),gi,(gp+1),⟨rfl,⟨by omega,cEx_t (by omega) hmu hes,cPl_t (by omega) hmu hps,by omega,t81⟩⟩,rfl⟩ (he:=t52) (hl:=t130) (hk:=t44) (hr:=t26)⟩
   intro e4 qe4;have hmu:(xs.getD q eC).mu=false:=by assumption
   refine c51z ?_;refine c139z ?_;refine c27z ?_;refine .cn [true] [64,0] [_] rfl rfl t183 ?_;refine c94z ?_;refine c117z ?_;refine c66z ?_;refine .c7 [0,2,4,6,7,10,11,105] ?_;refine .rz ?_;exact ⟨_,by omega,.v ⟨(q+1),(es++[gE s.l (xs.getD q eC).e]),ps',(gi+1),gp,⟨rfl,⟨by omega,cEx_f (by omega) hmu hes,cPl_f (by omega) hmu hps,t81,by omega⟩⟩,rfl⟩ (he:=t52) (hl:=t130) (hk:=t44) (hr:=t26)⟩
  intro e2 qe2;refine .exit ?_;obtain rfl:q=ps.length:=by omega
  rw[List.drop_of_length_le (by omega)]at hes hps;simp only[bF,aL,List.append_nil]at hes hps;refine g7.pR (γ:=e.n+4) (β:=e.n+2) (k:=10) (len:=es.length) t114 (by rw[bT,Nat.mul_comm]) (by omega) (XV _) t114 (by omega) rfl ?_;simp only[List.append_assoc,List.cons_append,List.nil_append,eR,iH,List.set_cons_succ,List.set_cons_zero,List.length_append,aT,List.length_cons,List.length_nil,Nat.reduceAdd,Nat.zero_add];refine g7.pR (γ:=e.n+5) (β:=e.n+2) (k:=11) (len:=ps'.length) t114 t235 (by omega) (GI _) t114 (by omega) rfl ?_;simp only[List.append_assoc,List.cons_append,List.nil_append,eR,iH,List.set_cons_succ,List.set_cons_zero,List.length_append,aT,List.length_cons,List.length_nil,Nat.reduceAdd,Nat.zero_add];generalize iC 100 4 gi (o8 es) (es.length*4)=Eb;generalize iC 102 3 gp (eD ps') (ps'.length*3)=Pb;change g7 ..;refine c250z ?_;exact .ret (.ex (hf:=t3) (hq:=t236))
end
end Go.Proofs.YtapdldekgbbomaaGreatDoor
end
