/- My own texts, put together by a program of mine. -/
import Derived.Test.YtapdldekgbbomaaGreatDoorGW2
set_option linter.unusedSimpArgs false
set_option linter.unusedVariables false
set_option maxRecDepth 100000
set_option maxHeartbeats 4000000
section
namespace Go.Un
open Go.Ab
variable {c:UInt8}
theorem MR (h:isL c=true):isW c=true:=by simp[isW,h]
theorem isW_D (h:isD c=true):isW c=true:=by simp[isW,h]
theorem L7 (h:vR c=true):isW c=false:=by simp only[vR,Bool.or_eq_true,beq_iff_eq]at h;simp only[isW,isL,isD,Bool.or_eq_false_iff,Bool.and_eq_false_iff,decide_eq_false_iff_not];omega
theorem QX (h:isL c=true):isD c=false:=by simp only[isL,Bool.or_eq_true,Bool.and_eq_true,decide_eq_true_eq]at h;simp only[isD,Bool.and_eq_false_iff,decide_eq_false_iff_not];omega
theorem uG (h:c∈MA):vR c=false∧isL c=false∧isD c=false:=by simp only[MA,List.mem_cons,List.not_mem_nil,or_false]at h;rcases h with rfl | rfl | rfl | rfl | rfl | rfl | rfl | rfl | rfl | rfl | rfl | rfl | rfl | rfl | rfl | rfl | rfl<;>decide
theorem uH {d:UInt8}(h:(c,d)∈AH):vR c=false∧isL c=false∧isD c=false:=by simp only[AH,List.mem_cons,List.not_mem_nil,or_false,Prod.mk.injEq]at h;rcases h with ⟨rfl,_⟩ | ⟨rfl,_⟩ | ⟨rfl,_⟩ | ⟨rfl,_⟩ | ⟨rfl,_⟩ | ⟨rfl,_⟩<;>decide
variable {s:Bs}{n:Nat}
theorem LX.sp_inv (h:LX (c::s) n)(hc:vR c=true):LX s n:=by
 have hw:=L7 hc;generalize e:c::s=t at h;cases h with
 | nil=>cases e
 | space _ h=>cases e;exact h
 | word hc' _ _ _ _=>cases e;rw[MR hc']at hw;cases hw
 | num hc' _ _ _ _=>cases e;rw[isW_D hc']at hw;cases hw
 | one hc' _ _=>cases e;rw[(uG hc').1]at hc;cases hc
 | two hc' _=>cases e;rw[(uH hc').1]at hc;cases hc
theorem LX.MS (h:LX (c::s) n)(hc:isL c=true):∃w r m,s=w++r∧(∀d∈w,isW d=true)∧w.length<16∧NW r∧n=m+1∧LX r m:=by
 generalize e:c::s=t at h;cases h with
 | nil=>cases e
 | space hc' h=>cases e;have:=L7 hc';rw[MR hc]at this;cases this
 | word hc' h1 h2 h3 h4=>cases e;exact ⟨_,_,_,rfl,h1,h2,h3,rfl,h4⟩
 | num hc' _ _ _ _=>cases e;rw[QX hc]at hc';cases hc'
 | one hc' _ _=>cases e;rw[(uG hc').2.1]at hc;cases hc
 | two hc' _=>cases e;rw[(uH hc').2.1]at hc;cases hc
theorem LX.num_inv (h:LX (c::s) n)(hc:isD c=true):∃w r m,s=w++r∧(∀d∈w,isD d=true)∧vS (c::w)<9223372036854775808∧NW r∧n=m+1∧LX r m:=by
 generalize e:c::s=t at h;cases h with
 | nil=>cases e
 | space hc' h=>cases e;have:=L7 hc';rw[isW_D hc]at this;cases this
 | word hc' h1 h2 h3 h4=>cases e;rw[QX hc']at hc;cases hc
 | num hc' h1 h2 h3 h4=>cases e;exact ⟨_,_,_,rfl,h1,h2,h3,rfl,h4⟩
 | one hc' _ _=>cases e;rw[(uG hc').2.2]at hc;cases hc
 | two hc' _=>cases e;rw[(uH hc').2.2]at hc;cases hc
theorem LX.F1 (h:LX (c::s) n)(h1:vR c=false)(h2:isL c=false)(h3:isD c=false):(∃d r m,s=d::r∧(c,d)∈AH∧n=m+1∧LX r m)∨(∃m,c∈MA∧(∀d,s.head?=some d→(c,d)∉AH∧(c,d)≠(47,47))∧n=m+1∧LX s m):=by
 generalize e:c::s=t at h;cases h with
 | nil=>cases e
 | space hc' h=>cases e;rw[h1]at hc';cases hc'
 | word hc' _ _ _ _=>cases e;rw[h2]at hc';cases hc'
 | num hc' _ _ _ _=>cases e;rw[h3]at hc';cases hc'
 | one hc' h5 h6=>cases e;exact .inr ⟨_,hc',h5,rfl,h6⟩
 | two hc' h6=>cases e;exact .inl ⟨_,_,_,rfl,hc',rfl,h6⟩
def bat (L:Bs)(i:Nat):UInt8:=L.getD i 0
variable {L:Bs}{i:Nat}
theorem cO (h:i<L.length):L.drop i=bat L i::L.drop (i+1):=by rw[List.drop_eq_getElem_cons h];simp[bat,List.getD,h]
variable {k:Nat}
theorem MT {u v:Bs}(h:L.drop i=u++v)(hk:k<u.length):bat L (i+k)=u.getD k 0:=by
 have:(L.drop i).getD k 0=bat L (i+k):=by simp[bat,List.getD]
 rw[←this,h];simp[List.getD,List.getElem?_append_left hk]
theorem yS {u v:Bs}(h:L.drop i=u++v):L.drop (i+u.length)=v:=by rw[←List.drop_drop,h,List.drop_left]
theorem LX.AN (h:LX (L.drop i) n)(hi:i+1<L.length)(h1:(bat L i).toNat=47)(h2:(bat L (i+1)).toNat=47):False:=by
 have e1:bat L i=47:=UInt8.toNat_inj.1 h1;have e2:bat L (i+1)=47:=UInt8.toNat_inj.1 h2;rw[cO (by omega),e1]at h;rcases h.F1 (by decide) (by decide) (by decide) with ⟨d,r,m,e,hm,_⟩ | ⟨m,_,h5,_⟩
 ·rw[cO hi,e2]at e;cases e;exact absurd hm (by decide)
 ·exact (h5 47 (by rw[cO hi,e2];rfl)).2 rfl
theorem LX.ER (h:LX (L.drop i) n)(hi:i<L.length)(hc:vR (bat L i)=true):LX (L.drop (i+1)) n:=by rw[cO hi]at h;exact h.sp_inv hc
structure Span (L:Bs)(p:UInt8→Bool)(i e:Nat):Prop where
 lt:i<e
 le:e≤L.length
 all:∀j,i≤j→j<e→p (bat L j)=true
 stop:e<L.length→p (bat L e)=false
theorem Span.of {p:UInt8→Bool}{w r:Bs}(hd:L.drop i=c::w++r)(hc:p c=true)(hw:∀d∈w,p d=true)(hr:∀d,r.head?=some d→p d=false):Span L p i (i+(w.length+1)):=by
 have hl:(L.drop i).length=w.length+1+r.length:=by rw[hd];simp;omega
 rw[List.length_drop]at hl;have hrr:L.drop (i+(w.length+1))=r:=by have:=yS (u:=c::w) (v:=r) (by rw[hd]);simpa using this
 refine ⟨by omega,by omega,fun j h1 h2=>?_,fun h=>?_⟩
 ·obtain ⟨k,rfl⟩:∃k,j=i+k:=⟨j-i,by omega⟩;rw[MT (u:=c::w) (v:=r) hd t74];cases k with
  | zero=>exact hc
  | succ k=>
   have hk:k<w.length:=by omega
   have:(c::w).getD (k+1) 0=w[k]:=by simp[List.getD,hk]
   rw[this];exact hw _ (List.getElem_mem hk)
 ·refine hr _ ?_;rw[←hrr,cO h];rfl
theorem LX.ES (h:LX (L.drop i) n)(hi:i<L.length)(hc:isL (bat L i)=true):∃e m,Span L isW i e∧e≤i+16∧n=m+1∧LX (L.drop e) m:=by
 rw[cO hi]at h;obtain ⟨w,r,m,e,h1,h2,h3,rfl,h4⟩:=h.MS hc;have hd:L.drop i=bat L i::w++r:=by rw[cO hi,e];rfl
 refine ⟨_,m,Span.of hd (MR hc) h1 h3,by omega,rfl,?_⟩;have:=yS (u:=bat L i::w) (v:=r) (by rw[hd]);rw[List.length_cons]at this;rw[this];exact h4
theorem LX.MU (h:LX (L.drop i) n)(hi:i<L.length)(hc:isD (bat L i)=true):∃e m,Span L isD i e∧vS ((L.drop i).take (e-i))<9223372036854775808∧n=m+1∧LX (L.drop e) m:=by
 rw[cO hi]at h;obtain ⟨w,r,m,e,h1,h2,h3,rfl,h4⟩:=h.num_inv hc;have hd:L.drop i=bat L i::w++r:=by rw[cO hi,e];rfl
 refine ⟨_,m,Span.of hd hc h1 fun d hd=>?_,?_,rfl,?_⟩
 ·have:=h3 d hd;simp only[isW,Bool.or_eq_false_iff]at this;exact this.2
 ·rw[show i+(w.length+1)-i=(bat L i::w).length from by simp,hd,List.take_left];exact h2
 ·have:=yS (u:=bat L i::w) (v:=r) (by rw[hd]);rw[List.length_cons]at this;rw[this];exact h4
def sgn (L:Bs)(i:Nat):Nat:=if i+1<L.length∧(bat L i,bat L (i+1))∈AH then 2 else if bat L i∈MA then 1 else 0
theorem LX.ET (h:LX (L.drop i) n)(hi:i<L.length)(h1:vR (bat L i)=false)(h2:isL (bat L i)=false)(h3:isD (bat L i)=false):0<sgn L i∧i+sgn L i≤L.length∧∃m,n=m+1∧LX (L.drop (i+sgn L i)) m:=by
 rw[cO hi]at h;rcases h.F1 h1 h2 h3 with ⟨d,r,m,e,hm,rfl,h4⟩ | ⟨m,hm,h5,rfl,h4⟩
 ·have hl:(L.drop (i+1)).length=r.length+1:=by rw[e];rfl
  rw[List.length_drop]at hl;have hd:bat L (i+1)=d:=by rw[cO (by omega)]at e;injection e
  have hr:L.drop (i+2)=r:=by rw[cO (by omega)]at e;injection e
  rw[sgn,if_pos ⟨by omega,by rw[hd];exact hm⟩];exact ⟨by omega,by omega,m,rfl,by rw[hr];exact h4⟩
 ·rw[sgn,if_neg (fun hx=>(h5 (bat L (i+1)) (by rw[cO hx.1];rfl)).1 hx.2),if_pos hm];exact ⟨by omega,by omega,m,rfl,h4⟩
variable {l:Bs}
theorem F2 (h:k<l.length):vS (l.take (k+1))=10*vS (l.take k)+((bat l k).toNat-48):=by rw[List.take_succ_eq_append_getElem h,E3];simp[bat,List.getD,h]
theorem EU:∀{k m:Nat},k≤m→vS (l.take k)≤vS (l.take m):=by
 intro k m hm;induction hm with
 | refl=>exact Nat.le_refl _
 | @step m _ ih=>
  by_cases h:m<l.length
  ·rw[F2 h];omega
  ·rw[List.take_of_length_le (i:=m+1) (by omega)];rw[List.take_of_length_le (i:=m) (by omega)]at ih;exact ih
def sO (l:Bs):List AV:=l.map fun c=>.int .u8 (c.toNat:Int)
theorem nI (l:Bs):(sO l).length=l.length:=List.length_map _
theorem read_b (h:i<l.length):List.take 1 (List.drop i (sO l))=[AV.int .u8 ((bat l i).toNat:Int)]:=by unfold sO;rw[←List.map_drop,←List.map_take,List.drop_eq_getElem_cons h,List.take_succ_cons,List.take_zero];simp[bat,List.getD,h]
theorem QY:List.take k (List.drop i (sO l))=sO ((l.drop i).take k):=by unfold sO;rw[List.map_take,List.map_drop]
theorem L9:∀l:Bs,iA (sO l)=some l
 | []=>rfl
 | c::l=>by show (iA (sO l)).map _=_;rw[L9 l];simp
end Go.Un
end
section
namespace Go.Proofs.YtapdldekgbbomaaGreatDoor
open Go.Ab Go.Un
theorem AO {n:Int}(h1:0≤n)(h2:n<256):IntKind.wrap .u8 n=n:=by rw[IntKind.wrap_u8];omega
theorem F3 {f:FuncId}{args:List AV}{s:AV}(ha:args.all (aK 0 9)=true)(r:CallA Tryz.prog cfg f args [] fun y _=>TU y=s)(h:c8):CallA Tryz.prog cfg f args h fun y h'=>y=s∧h'=h:=by intro B φ w cargs i hs hr;have hst:∀k,k<w.heap.size→Free [] φ w k:=fun k hk=>⟨hk,fun β b hb=>by simp at hb⟩;have i0:Pic cfg.glob w.heap.size [] φ w:=⟨fun β b hb=>by simp at hb,fun β β' b b' hb=>by simp at hb,fun β b hb=>by simp at hb,fun β b hb=>by simp at hb,Nat.le_refl _,fun g=>(i.glob g).mono fun k j hk=>⟨rfl,(hst k hk.1).BQ j⟩⟩;refine (r w.heap.size φ w cargs i0 hs (fun j v x h1 h2=>DE (hr j v x h1 h2) (dQ 9 x (List.all_eq_true.1 ha x (List.mem_of_getElem? h2))))).mono fun e w' hp=>?_;obtain ⟨v,y,h',φ',rfl,h1,h2,h3,hq⟩:=hp;have hk:∀k,k<w.heap.size→w'.heap[k]?=w.heap[k]?:=fun k hk=>(h2.keep k (hst k hk)).1;have ev:Ev h φ w h φ w':=⟨h2.os,h2.tape,h2.output,h2.size,fun k hs=>⟨hk k hs.1,Nat.lt_of_lt_of_le hs.1 h2.size,hs.2⟩,fun k j hs=>⟨World.cell?_of_block (hk k hs.1),Nat.lt_of_lt_of_le hs.1 h2.size,hs.2⟩,Nat.le_refl _,fun β b b' e1 e2=>by rw[e1]at e2;cases e2;exact ⟨Nat.le_refl _,fun _=>⟨rfl,rfl,rfl⟩⟩⟩;refine ⟨v,_,h,φ,rfl,⟨fun β b hb hv=>?_,i.inj,i.base,i.cG,Nat.le_trans i.room h2.size,fun g=>ev.A9 (i.glob g)⟩,ev,xZ h3,hq,rfl⟩;obtain ⟨cur,q1,q2,q3,q4⟩:=i.blk β b hb hv;exact ⟨cur,(hk _ (Array.getElem?_eq_some_iff.1 q1).1).trans q1,q2,q3,fun j v x a d=>⟨(q4 j v x a d).1,ev.rel (q4 j v x a d).2⟩⟩
def hasB (l:List BA)(s:BA):Bool:=l.any fun x=>x.toList==s.toList
variable {l:List BA}{s:BA}{i:Nat}
theorem has_t (hi:i<l.length)(h:((l.getD i ByteArray.empty).toList==s.toList)=true):hasB l s=true:=List.any_eq_true.2 ⟨_,l6 hi,h⟩
theorem has_f (hi:l.length≤i)(h:∀d,d<i→((l.getD d ByteArray.empty).toList==s.toList)=false):hasB l s=false:=by refine List.any_eq_false.2 fun x hx=>?_;obtain ⟨d,h1,rfl⟩:=cM (d:=ByteArray.empty) hx;rw[h d (by omega)];decide
theorem MV (h:∀d,d<i→((l.getD d ByteArray.empty).toList==s.toList)=false)(e:((l.getD i ByteArray.empty).toList==s.toList)=false):∀d,d<i+1→((l.getD d ByteArray.empty).toList==s.toList)=false:=fun d hd=>by
  by_cases hdi:d=i
  · rw[hdi];exact e
  · exact h d (by omega)
def QZ:List BA:=[⟨#[118,97,114]⟩,⟨#[109,117,116,101,120]⟩,⟨#[114,109,117,116,101,120]⟩,⟨#[102,117,110,99]⟩,⟨#[108,111,99,107]⟩,⟨#[117,110,108,111,99,107]⟩,⟨#[103,111]⟩,⟨#[105,102]⟩,⟨#[101,108,115,101]⟩,⟨#[119,104,105,108,101]⟩,⟨#[114,101,116,117,114,110]⟩]
def twoN:List BA:=[⟨#[60,61]⟩,⟨#[62,61]⟩,⟨#[61,61]⟩,⟨#[33,61]⟩,⟨#[38,38]⟩,⟨#[124,124]⟩]
def Cw:List BA:=[⟨#[40]⟩,⟨#[41]⟩,⟨#[123]⟩,⟨#[125]⟩,⟨#[91]⟩,⟨#[93]⟩,⟨#[44]⟩,⟨#[59]⟩,⟨#[61]⟩,⟨#[43]⟩,⟨#[45]⟩,⟨#[42]⟩,⟨#[47]⟩,⟨#[37]⟩,⟨#[60]⟩,⟨#[62]⟩,⟨#[33]⟩]
def sP (s:BA):Bool:=hasB QZ s
variable {a:UInt8}
theorem eq2 {x y b:UInt8}:((⟨#[x,y]⟩:BA).toList==(⟨[a,b].toArray⟩:BA).toList)=(decide (a=x)&&decide (b=y)):=by rw[ByteArray.toList_eq,ByteArray.toList_eq];show ([x,y]==[a,b])=_;rw[Bool.eq_iff_iff];simp only[beq_iff_eq,List.cons.injEq,and_true,Bool.and_eq_true,decide_eq_true_eq];exact and_congr eq_comm eq_comm
theorem eq1 {x:UInt8}:((⟨#[x]⟩:BA).toList==(⟨[a].toArray⟩:BA).toList)=decide (a=x):=by rw[ByteArray.toList_eq,ByteArray.toList_eq];show ([x]==[a])=_;rw[Bool.eq_iff_iff];simp only[beq_iff_eq,List.cons.injEq,and_true,decide_eq_true_eq];exact eq_comm
theorem lB {b:UInt8}:hasB twoN ⟨[a,b].toArray⟩=decide ((a,b)∈AH):=by simp only[hasB,twoN,AH,List.any_cons,List.any_nil,eq2,Bool.or_false,List.mem_cons,List.not_mem_nil,or_false,Prod.mk.injEq,Bool.decide_or,Bool.decide_and]
theorem lC:hasB Cw ⟨[a].toArray⟩=decide (a∈MA):=by simp only[hasB,Cw,MA,List.any_cons,List.any_nil,eq1,Bool.or_false,List.mem_cons,List.not_mem_nil,or_false,Bool.decide_or]
variable {L:Bs}
theorem Q2 (h:i+1<L.length):(L.drop i).take 2=[bat L i,bat L (i+1)]:=by rw[cO (by omega),cO h];rfl
theorem take_one (h:i<L.length):(L.drop i).take 1=[bat L i]:=by rw[cO h];rfl
theorem str_at (h:i<s.size):s[i]?=some (bat (L8 s) i):=by
  rw[kV]at h;have:s[i]?=s.data.toList[i]?:=by rw[Array.getElem?_toList];rfl
  rw[this];have h2:i<s.data.toList.length:=h;rw[List.getElem?_eq_getElem h2];simp only[bat,L8,List.getD,List.getElem?_eq_getElem h2,Option.getD_some]
theorem name_at (h:isName (L8 s))(hi:i<s.size):isW (bat (L8 s) i)=true∧(i=0→isL (bat (L8 s) i)=true):=by
  obtain ⟨c,w,e,h1,h2,h3⟩:=h;rw[kV,e]at hi;rw[e];cases i with
  | zero=>exact ⟨MR h1,fun _=>h1⟩
  | succ i=>
    have hi':i<w.length:=by simpa using hi
    refine ⟨?_,fun h=>by omega⟩;have:bat (c::w) (i+1)=w[i]:=by simp[bat,List.getD,hi']
    rw[this];exact h2 _ (List.getElem_mem hi')
theorem eV (h:isName (L8 s)):1≤s.size∧s.size≤16:=by refine ⟨?_,aP h⟩;obtain ⟨c,w,e,_⟩:=h;rw[kV,e];simp
def skF (L:Bs):Nat→Nat→Nat
  | 0,i=>i
  | f+1,i=>if i<L.length∧vR (bat L i)=true then skF L f (i+1) else i
def sk (L:Bs)(i:Nat):Nat:=skF L (L.length-i) i
theorem uI (h:i<L.length)(hs:vR (bat L i)=true):sk L i=sk L (i+1):=by unfold sk;obtain ⟨f,hf⟩:∃f,L.length-i=f+1:=⟨L.length-i-1,by omega⟩;rw[hf,skF,if_pos ⟨h,hs⟩,show L.length-(i+1)=f from by omega]
theorem EV (h:¬(i<L.length∧vR (bat L i)=true)):sk L i=i:=by
  unfold sk;cases hf:L.length-i with
  | zero=>rfl
  | succ f=>rw[skF,if_neg h]
theorem RA (h:L.length≤i):sk L i=i:=EV fun h'=>by omega
theorem EW (h:vR (bat L i)=false):sk L i=i:=EV fun h'=>by rw[h]at h';cases h'.2
theorem yT {L:Bs}:∀{f i n:Nat},L.length-i=f→LX (L.drop i) n→i≤L.length→i≤sk L i∧sk L i≤L.length∧LX (L.drop (sk L i)) n∧(sk L i<L.length→vR (bat L (sk L i))=false)
  | 0,i,n,hf,h,hi=>by rw[RA (by omega)];exact ⟨Nat.le_refl _,hi,h,fun h=>by omega⟩
  | f+1,i,n,hf,h,hi=>by
    by_cases hs:vR (bat L i)=true
    · rw[uI (by omega) hs]
      obtain ⟨a,b,c,d⟩:=yT (f:=f) (i:=i+1) (by omega) (h.ER (by omega) hs) (by omega);exact ⟨by omega,b,c,d⟩
    · rw[EW (by simpa using hs)]
      exact ⟨Nat.le_refl _,hi,h,fun _=>by simpa using hs⟩
variable {c:UInt8}
theorem F4 (h:(c.toNat:Int)=32∨(c.toNat:Int)=9∨(c.toNat:Int)=10∨(c.toNat:Int)=13):vR c=true:=by simp only[vR,Bool.or_eq_true,beq_iff_eq];omega
theorem nosp_of (h1:¬(c.toNat:Int)=32)(h2:¬(c.toNat:Int)=9)(h3:¬(c.toNat:Int)=10)(h4:¬(c.toNat:Int)=13):vR c=false:=by simp only[vR,Bool.or_eq_false_iff,beq_eq_false_iff_ne,ne_eq];omega
variable {e:Nat}
theorem M0 {p:UInt8→Bool}{j:Nat}(h:Span L p i e)(h2:j≤e)(hj:j<L.length)(hp:p (bat L j)=true):j<e:=by
  by_cases he:j=e
  · subst he
    rw[h.stop hj]at hp;cases hp
  · omega
theorem sQ {p:UInt8→Bool}{j:Nat}(h:Span L p i e)(h1:i≤j)(h2:j≤e)(hp:j<L.length→p (bat L j)=false):j=e:=by
  by_cases he:j<e
  · have:=h.le
    rw[h.all j h1 he]at hp;cases hp (by omega)
  · omega
theorem valD_nn {l:Bs}(h:i<l.length)(hd:∀d∈l,isD d=true):48≤(bat l i).toNat∧(bat l i).toNat≤57:=by have:=hd (bat l i) (l6 h);simpa only[isD,Bool.and_eq_true,decide_eq_true_eq] using this
theorem tn2:((i:Int)+2).toNat=i+2:=by omega
theorem tn1:((i:Int)+1).toNat=i+1:=by omega
theorem RC:sO [c]=[.int .u8 ((c.toNat:Nat):Int)]:=rfl
theorem takeL {k:Nat}(h:i+k≤L.length):(List.take k (List.drop i L)).length=k:=by rw[List.length_take,List.length_drop];omega
variable {H:c8}{n:Nat}
theorem RD {k:Nat}{cs:List AV}:rd H k (.vec n cs)=some cs:=rfl
theorem spanD (h:Span L isD i e):∀d∈(L.drop i).take (e-i),isD d=true:=by
  intro d hd;obtain ⟨j,hj,rfl⟩:=List.mem_iff_getElem.1 hd;have hj2:j<e-i:=by rw[List.length_take]at hj;omega
  have hle:=h.le;have:=h.all (i+j) (by omega) (by omega);have e2:((L.drop i).take (e-i))[j]=bat L (i+j):=by rw[List.getElem_take,List.getElem_drop];simp[bat,List.getD,show i+j<L.length by omega]
  rw[e2];exact this
attribute [local go_sem] nI w3 Int.natCast_nonneg Int.natCast_inj List.length_map wrap64 AO read_b nR tn1 tn2 str_at
variable {h:c8}
theorem yU (c:UInt8):CB 90 [.int .u8 ((c.toNat:Nat):Int)] h (.bool (isL c)):=by
  refine .bz Tryz.f90 21 ?_;refine .z ?_;refine c13z ?_;refine .spl 5 rfl rfl (fun e1=>?_) (fun e1=>?_)
  ·try simp only[e1]
   have qe1:=fact e1;refine .k 4 [(2,5)] ?_;refine .spl 9 rfl rfl (fun e2=>?_) (fun e2=>?_)
   ·try simp only[e2]
    have qe2:=fact e2;refine .k 8 [(6,9),(9,12)] ?_;refine c269z ?_;exact ⟨[],_,(List.append_nil _).symm,t66,t56⟩
   try simp only[e2]
   have qe2:=fact e2;refine .k 3 [(6,9)] ?_;refine .spl 12 rfl rfl (fun e3=>?_) (fun e3=>?_)
   ·try simp only[e3]
    have qe3:=fact e3;refine .k 5 [(6,9),(9,12)] ?_;refine .spl 17 rfl rfl (fun e4=>?_) (fun e4=>?_)
    ·try simp only[e4]
     have qe4:=fact e4;refine c269z ?_;exact ⟨[],_,(List.append_nil _).symm,t66,t56⟩
    try simp only[e4]
    have qe4:=fact e4;refine c269z ?_;exact ⟨[],_,(List.append_nil _).symm,t66,t56⟩
   try simp only[e3]
   have qe3:=fact e3;refine .k 8 [(6,9),(9,12),(14,17)] ?_;refine c176z ?_;exact ⟨[],_,(List.append_nil _).symm,t66,t56⟩
  try simp only[e1]
  have qe1:=fact e1;refine .k 7 [(2,5),(6,9)] ?_;refine .spl 12 rfl rfl (fun e5=>?_) (fun e5=>?_)
  ·try simp only[e5]
   have qe5:=fact e5;refine .k 5 [(6,9),(9,12)] ?_;refine .spl 17 rfl rfl (fun e6=>?_) (fun e6=>?_)
   ·try simp only[e6]
    have qe6:=fact e6;refine c269z ?_;exact ⟨[],_,(List.append_nil _).symm,t66,t56⟩
   try simp only[e6]
   have qe6:=fact e6;refine c269z ?_;exact ⟨[],_,(List.append_nil _).symm,t66,t56⟩
  try simp only[e5]
  have qe5:=fact e5;refine .k 8 [(6,9),(9,12),(14,17)] ?_;refine c176z ?_;exact ⟨[],_,(List.append_nil _).symm,t66,t56⟩
theorem yV (c:UInt8):CB 91 [.int .u8 ((c.toNat:Nat):Int)] h (.bool (isD c)):=by
  refine .bz Tryz.f91 9 ?_;refine .z ?_;refine c13z ?_;refine .spl 5 rfl rfl (fun e1=>?_) (fun e1=>?_)
  ·try simp only[e1]
   have qe1:=fact e1;refine .m [(2,5)] ?_;refine c7z ?_;exact ⟨[],_,(List.append_nil _).symm,t66,t149⟩
  try simp only[e1]
  have qe1:=fact e1;refine .m [(2,5)] ?_;refine c7z ?_;exact ⟨[],_,(List.append_nil _).symm,t66,t149⟩
section
attribute [local go_sem] kC
theorem c_has (l:List BA)(s:BA)(hl:l.length<1000):CB 110 [.vec l.length (p7 l),.str s] h (.bool (hasB l s)):=by
  refine .bz Tryz.f110 18 ?_;refine c25z ?_;refine .jE (fun m st=>∃(i:Nat),(m=l.length-i∧(∀d,d<i→((l.getD d ByteArray.empty).toList==s.toList)=false)∧i≤l.length)∧st=⟨mkS 18 [(0,AV.vec l.length (p7 l)),(1,AV.str s),(5,AV.int .i64 ((i:Nat):Int))],h⟩) _ (.v ⟨0,⟨rfl,t104,by omega⟩,rfl⟩) ?_;rintro m sl h' ⟨i,⟨hm,hI,hi⟩,hst⟩;obtain ⟨rfl,rfl⟩:=St.mk.inj hst;refine c0z ?_;refine u2z ?_ ?_
  ·intro e1 qe1;refine c177z ?_;refine u2z ?_ ?_
   ·intro e2 qe2;refine c203z ?_;exact ⟨[],_,(List.append_nil _).symm,t66,t155⟩
   intro e2 qe2;refine c293z ?_;exact ⟨_,by omega,.v ⟨(i+1),⟨rfl,MV hI (by assumption),by omega⟩,rfl⟩⟩
  intro e1 qe1;refine c163z ?_;exact ⟨[],_,(List.append_nil _).symm,t66,t155⟩
end
theorem frz_n {d:Nat}:r6 (kN n H (d+1)) (p7 l)=some (p7 l):=(z4.map (fun _=>.str):z4 (p7 l)).frz _ _ _
variable {g:Nat}
theorem T7 {β:Nat}(l:List BA)(s:BA)(hb:H[β]?=some ⟨g,false,9,1,p7 l,0⟩)(hl:l.length<1000):CallA Tryz.prog cfg 110 [.own β g 0 l.length,.str s] H (fun y h'=>y=.bool (hasB l s)∧h'=H):=by
  have e:LO 0 H (.own β g 0 l.length)=some (.vec l.length (p7 l)):=by show kN 0 H 6 (.own β g 0 l.length)=_;rw[jK,hb];simp only[Nat.zero_le,and_self,if_true,Bool.false_eq_true,if_false,Nat.zero_add,Nat.mul_one,w3,Nat.le_refl,List.drop_zero];rw[List.take_of_length_le t129,frz_n]
  have ha:JU 0 H [.vec l.length (p7 l),.str s] [.own β g 0 l.length,.str s]:=And.intro (.inr e) (And.intro (.inr rfl) trivial);exact CallA.borrow ha ((c_has l s hl).mono fun _ _ h=>h.1)
theorem c_res0 (s:BA):CB 92 [.str s] [] (.bool (sP s)):=by refine .bz Tryz.f92 6 ?_;refine .z ?_;refine c45z ?_;refine .ca rfl rfl (T7 QZ s rfl (by decide)) ?_;refine .n ?_;exact .ret (.ex (hq:=by rfl))
theorem VC (s:BA):CallA Tryz.prog cfg 92 [.str s] h (fun y h'=>y=.bool (sP s)∧h'=h):=F3 rfl ((c_res0 s).mono fun _ _ h=>by rw[h.1];rfl) h
theorem c_resF (hr:sP s=false):CallA Tryz.prog cfg 92 [.str s] h (fun y h'=>y=.bool false∧h'=h):=by rw[←hr];exact VC s
theorem mM (s:BA)(hs:isName (L8 s))(hr:sP s=false):CB 67 [.str s] h (.bool true):=by
  refine .bz Tryz.f67 39 ?_;have hsz:=eV hs;refine c25z ?_;refine .jE (fun m st=>∃(i:Nat),(m=s.size-i∧i≤s.size)∧st=⟨mkS 39 [(0,AV.str s),(3,AV.int .i64 ((i:Nat):Int))],h⟩) _ (.v ⟨0,⟨rfl,by omega⟩,rfl⟩) ?_;rintro m sl h' ⟨i,⟨hm,hi⟩,hst⟩;obtain ⟨rfl,rfl⟩:=St.mk.inj hst;refine c0z ?_;refine u2z ?_ ?_
  ·intro e1 qe1;refine c5z ?_;have hna:=name_at hs (i:=i) (by omega);refine c13z ?_;refine .ca rfl rfl (yU _) ?_;refine .e 2 ?_;refine .spl 15 rfl rfl (fun e2=>?_) (fun e2=>?_)
   ·try simp only[e2]
    have qe2:=fact e2;refine .k 3 [(5,15)] ?_;refine .spl 18 rfl rfl (fun e3=>?_) (fun e3=>?_)
    ·try simp only[e3]
     have qe3:=fact e3;refine .m [(5,15),(8,18)] ?_;refine c50z ?_;refine c7z ?_;exact ⟨[],_,(List.append_nil _).symm,t66,t112⟩
    try simp only[e3]
    have qe3:=fact e3;refine .k 3 [(8,18)] ?_;refine .ca rfl rfl (yV _) ?_;refine .m [(5,15),(8,18)] ?_;refine u2z ?_ ?_
    ·intro e4 qe4;refine c203z ?_;exact ⟨[],_,(List.append_nil _).symm,t66,t112⟩
    intro e4 qe4;refine c8z ?_;refine .c9 [0,3] ?_;refine .rz ?_;exact ⟨_,by omega,.v ⟨(i+1),⟨rfl,by omega⟩,rfl⟩⟩
   try simp only[e2]
   have qe2:=fact e2;refine .k 8 [(5,15),(8,18)] ?_;refine .m [(5,15)] ?_;refine c54z ?_;refine .c9 [0,3] ?_;refine .rz ?_;exact ⟨_,by omega,.v ⟨(i+1),⟨rfl,by omega⟩,rfl⟩⟩
  intro e1 qe1;refine c12z ?_;refine c30z ?_;refine .spl 29 rfl rfl (fun e5=>?_) (fun e5=>by exfalso;simp only[decide_eq_false_iff_not]at e5;omega);try simp only[e5]
  have qe5:=fact e5;refine .k 5 [(3,29)] ?_;refine .spl 34 rfl rfl (fun e6=>?_) (fun e6=>by exfalso;simp only[decide_eq_false_iff_not]at e6;omega);try simp only[e6]
  have qe6:=fact e6;refine .k 1 [(8,34)] ?_;refine .ca rfl rfl (c_resF hr) ?_;refine .m [(8,34)] ?_;refine c7z ?_;exact ⟨[],_,(List.append_nil _).symm,t66,t112⟩
theorem RE (L:Bs)(i n:Nat)(hx:LX (L.drop i) n)(hi:i≤L.length)(hl:L.length<1000000):CB 97 [.vec L.length (sO L),.int .i64 (i:Int)] h (.int .i64 ((sk L i:Nat):Int)):=by
  refine .bz Tryz.f97 74 ?_;refine .z ?_;refine .sb ?_;refine .jE (fun m st=>∃(j:Nat),(m=L.length-j∧(LX (L.drop j) n∧j≤L.length∧sk L j=sk L i))∧st=⟨mkS 74 [(0,AV.vec L.length (sO L)),(1,AV.int .i64 ((j:Nat):Int))],h⟩) _ (.v ⟨i,⟨rfl,⟨hx,hi,rfl⟩⟩,rfl⟩) ?_;rintro m sl h' ⟨j,⟨hm,⟨hX,hj,hk⟩⟩,hst⟩;obtain ⟨rfl,rfl⟩:=St.mk.inj hst;refine c0z ?_;refine u2z ?_ ?_
  ·intro e1 qe1;refine .sk ?_;refine .block ?_;refine .block ?_;refine c108z ?_;refine .spl 16 rfl rfl (fun e2=>?_) (fun e2=>?_)
   ·try simp only[e2]
    have qe2:=fact e2;refine .k 8 [(5,16),(12,23)] ?_;refine .k 8 [(12,23),(19,30)] ?_;refine .m [(19,30)] ?_;refine .T ?_;refine .c9 [0,1] ?_;refine .rz ?_;exact ⟨_,by omega,.v ⟨(j+1),⟨rfl,⟨hX.ER (by omega) (F4 (by omega)),by omega,(uI (by omega) (F4 (by omega))).symm.trans hk⟩⟩,rfl⟩⟩
   try simp only[e2]
   have qe2:=fact e2;refine .k 7 [(5,16)] ?_;refine .spl 23 rfl rfl (fun e3=>?_) (fun e3=>?_)
   ·try simp only[e3]
    have qe3:=fact e3;refine .k 8 [(12,23),(19,30)] ?_;refine .m [(19,30)] ?_;refine .T ?_;refine .c9 [0,1] ?_;refine .rz ?_;exact ⟨_,by omega,.v ⟨(j+1),⟨rfl,⟨hX.ER (by omega) (F4 (by omega)),by omega,(uI (by omega) (F4 (by omega))).symm.trans hk⟩⟩,rfl⟩⟩
   try simp only[e3]
   have qe3:=fact e3;refine .k 7 [(12,23)] ?_;refine .spl 30 rfl rfl (fun e4=>?_) (fun e4=>?_)
   ·try simp only[e4]
    have qe4:=fact e4;refine .m [(19,30)] ?_;refine .T ?_;refine .c9 [0,1] ?_;refine .rz ?_;exact ⟨_,by omega,.v ⟨(j+1),⟨rfl,⟨hX.ER (by omega) (F4 (by omega)),by omega,(uI (by omega) (F4 (by omega))).symm.trans hk⟩⟩,rfl⟩⟩
   try simp only[e4]
   have qe4:=fact e4;refine .m [(19,30)] ?_;refine u2z ?_ ?_
   ·intro e5 qe5;refine .c9 [0,1] ?_;refine .rz ?_;exact ⟨_,by omega,.v ⟨(j+1),⟨rfl,⟨hX.ER (by omega) (F4 (by omega)),by omega,(uI (by omega) (F4 (by omega))).symm.trans hk⟩⟩,rfl⟩⟩
   intro e5 qe5;refine .c9 [0,1] ?_;refine c108z ?_;refine .spl 45 rfl rfl (fun e6=>?_) (fun e6=>?_)
   ·try simp only[e6]
    have qe6:=fact e6;refine .k 7 [(5,45)] ?_;refine .spl 52 rfl rfl (fun e7=>?_) (fun e7=>?_)
    ·try simp only[e7]
     have qe7:=fact e7;refine .m [(12,52)] ?_;refine .spl 39 rfl rfl (fun e8=>by exfalso;simp only[beq_iff_eq]at *;exact hX.AN (by omega) (by omega) (by omega)) (fun e8=>?_);try simp only[e8]
     have qe8:=fact e8;refine .F ?_;refine .c9 [1] ?_;refine c43z ?_;exact ⟨[],_,(List.append_nil _).symm,t66,t99⟩
    try simp only[e7]
    have qe7:=fact e7;refine .m [(12,52)] ?_;refine .F ?_;refine .c9 [1] ?_;refine c43z ?_;exact ⟨[],_,(List.append_nil _).symm,t66,t99⟩
   try simp only[e6]
   have qe6:=fact e6;refine .k 8 [(5,45),(12,52)] ?_;refine .m [(12,52)] ?_;refine .F ?_;refine .c9 [1] ?_;refine c43z ?_;exact ⟨[],_,(List.append_nil _).symm,t66,t99⟩
  intro e1 qe1;refine .exit ?_;have hje:j=L.length:=by omega
  change g6 ..;refine c43z ?_;exact ⟨[],_,(List.append_nil _).symm,t66,t99⟩
theorem fill6L:(twoN).length=6:=rfl
theorem fill6M:(6≤maxLen)=True:=by simp;decide
theorem fill17L:(Cw).length=17:=rfl
theorem fill17M:(17≤maxLen)=True:=by simp;decide
section
attribute [local go_sem] oI dO Option.bind_eq_bind QY RC RD takeL L9 Nat.add_sub_cancel_left Q2 take_one lB lC fill6L fill6M fill17L fill17M
theorem c_sign0 (L:Bs)(i:Nat)(hi:i<L.length)(hl:L.length<1000000):CB 99 [.vec L.length (sO L),.int .i64 (i:Int)] [] (.int .i64 ((sgn L i:Nat):Int)):=by
  refine .bz Tryz.f99 28 ?_;refine c20z ?_;refine c108z ?_;refine .spl 10 rfl rfl (fun e1=>?_) (fun e1=>?_)
  ·try simp only[e1]
   have qe1:=fact e1;try simp only[lC,lB,decide_eq_true_eq,decide_eq_false_iff_not]at qe1
   refine .k 7 [(5,10)] ?_;refine .ca rfl rfl (T7 twoN _ rfl (by decide)) ?_;refine .n ?_;refine .spl 19 rfl rfl (fun e2=>?_) (fun e2=>?_)
   ·try simp only[e2]
    have qe2:=fact e2;try simp only[lC,lB,decide_eq_true_eq,decide_eq_false_iff_not]at qe2
    refine c50z ?_;exact .ret (.ex (hq:=t34))
   try simp only[e2]
   have qe2:=fact e2;try simp only[lC,lB,decide_eq_true_eq,decide_eq_false_iff_not]at qe2
   refine c22z ?_;refine .seq ?_;refine .c9 [0,1] ?_;refine .s ?_;refine .e 7 ?_;refine .ca rfl rfl (T7 Cw _ (by first | rfl | simp) (by decide)) ?_;refine .nil ?_;refine .spl 27 rfl rfl (fun e3=>?_) (fun e3=>?_)
   ·try simp only[e3]
    have qe3:=fact e3;try simp only[lC,lB,decide_eq_true_eq,decide_eq_false_iff_not]at qe3
    refine c50z ?_;exact .ret (.ex (hq:=t34))
   try simp only[e3]
   have qe3:=fact e3;try simp only[lC,lB,decide_eq_true_eq,decide_eq_false_iff_not]at qe3
   refine c22z ?_;refine c4z ?_;exact .ret (.ex (hq:=t34))
  try simp only[e1]
  have qe1:=fact e1;try simp only[lC,lB,decide_eq_true_eq,decide_eq_false_iff_not]at qe1
  refine .k 8 [(5,10)] ?_;refine .n ?_;refine c22z ?_;refine .seq ?_;refine .c9 [0,1] ?_;refine .s ?_;refine .e 7 ?_;refine .ca rfl rfl (T7 Cw _ (by first | rfl | simp) (by decide)) ?_;refine .nil ?_;refine .spl 27 rfl rfl (fun e4=>?_) (fun e4=>?_)
  ·try simp only[e4]
   have qe4:=fact e4;try simp only[lC,lB,decide_eq_true_eq,decide_eq_false_iff_not]at qe4
   refine c50z ?_;exact .ret (.ex (hq:=t34))
  try simp only[e4]
  have qe4:=fact e4;try simp only[lC,lB,decide_eq_true_eq,decide_eq_false_iff_not]at qe4
  refine c22z ?_;refine c4z ?_;exact .ret (.ex (hq:=t34))
end
theorem c_sign (L:Bs)(i:Nat)(hi:i<L.length)(hl:L.length<1000000):CallA Tryz.prog cfg 99 [.vec L.length (sO L),.int .i64 (i:Int)] h (fun y h'=>y=.int .i64 ((sgn L i:Nat):Int)∧h'=h):=F3 rfl ((c_sign0 L i hi hl).mono fun _ _ h=>by rw[h.1];rfl) h
theorem c_numv (l:Bs)(hd:∀d∈l,isD d=true)(hv:vS l<9223372036854775808)(hl:l.length<1000000):CB 98 [.vec l.length (sO l)] h (.int .i64 ((vS l:Nat):Int)):=by
  refine CallA.body (Q:=fun y'=>y'=.int .i64 ((vS l:Nat):Int)) w7 fn98 rfl ?_;simp only[ntm98,List.length_cons,List.length_nil,Nat.reduceAdd,Nat.reduceSub,List.replicate,List.cons_append,List.nil_append];refine c11z ?_;refine q9.pre 1 t13 ?_;refine c10z ?_;refine c11z ?_;refine q9.pre 1 t13 ?_;refine c167z ?_;refine c11z ?_;refine q9.pre 1 t13 ?_;refine c10z ?_;refine g6.block ?_;refine g6.jE (fun m st=>∃(i:Nat),(m=l.length-i∧i≤l.length)∧st=⟨[.vec l.length (sO l),.any,.any,.int .i64 ((vS (l.take i):Nat):Int),.int .i64 ((i:Nat):Int),.any,.any,.any,.any,.any,.any,.any,.any,.any,.any,.any,.any,.any,.any,.any,.any,.any,.any,.any,.any,.any,.any,.any],h⟩) _ ⟨[.vec l.length (sO l),.any,.any,.int .i64 ((vS (l.take 0):Nat):Int),.int .i64 ((0:Nat):Int),.any,.any,.any,.any,.any,.any,.any,.any,.any,.any,.any,.any,.any,.any,.any,.any,.any,.any,.any,.any,.any,.any,.any],⟨(.inl t102),(.inr rfl),(.inr rfl),(.inl t102),(.inl t102),(.inr rfl),(.inr rfl),(.inr rfl),(.inr rfl),(.inr rfl),(.inr rfl),(.inr rfl),(.inr rfl),(.inr rfl),(.inr rfl),(.inr rfl),(.inr rfl),(.inr rfl),(.inr rfl),(.inr rfl),(.inr rfl),(.inr rfl),(.inr rfl),(.inr rfl),(.inr rfl),(.inr rfl),(.inr rfl),(.inr rfl),trivial⟩,0,⟨rfl,by omega⟩,rfl⟩ ?_;rintro m sl h' ⟨i,⟨hm,hi⟩,hst⟩;obtain ⟨rfl,rfl⟩:=St.mk.inj hst;refine g6.seq ?_;refine c11z ?_;refine q9.pre 4 t13 ?_;refine c10z ?_;refine g6.split 9 rfl (fun e1=>?_) (fun e1=>?_)
  · try simp only[e1]
    have qe1:=e1;try replace qe1:=s6z qe1
    refine g6.Z3 rfl ?_;refine c94z ?_;refine g6.seq ?_;refine g6.block ?_;refine g6.seq ?_;have hdd:=valD_nn (i:=i) (by omega) hd;have hvt:=F2 (l:=l) (k:=i) (by omega);have hvm:=EU (l:=l) (k:=i+1) (m:=l.length) (by omega);rw[List.take_length]at hvm;have htd:(9223372036854775807-(((bat l i).toNat:Int)-48)).tdiv 10=(9223372036854775807-(((bat l i).toNat:Int)-48)) / 10:=Int.tdiv_eq_ediv_of_nonneg (by omega);have htd2:((9223372036854775807-(((bat l i).toNat:Int)-48)).tdiv 10:Int)<9223372036854775808∧0≤(9223372036854775807-(((bat l i).toNat:Int)-48)).tdiv 10:=by rw[htd];omega
    refine g6.region w7 ?_;refine q9.pre 7 t13 ?_;refine c167z ?_;refine c11z ?_;refine q9.pre 5 t13 ?_;refine c10z ?_;refine g6.split 22 rfl (fun e2=>?_) (fun e2=>?_)
    · exfalso;rw[htd]at e2;simp only[decide_eq_true_eq,gt_iff_lt]at e2;omega
    · try simp only[e2]
      have qe2:=e2;try replace qe2:=s6z qe2
      refine c134z ?_;refine g6.region w7 ?_;refine q9.pre 5 t13 ?_;refine c10z ?_;refine g6.region w7 ?_;refine q9.pre 3 t13 ?_;refine q9.nil ?_;exact ⟨l.length-(i+1),by omega,[.vec l.length (sO l),.any,.any,.int .i64 ((vS (l.take (i+1)):Nat):Int),.int .i64 (((i+1):Nat):Int),.any,.any,.any,.any,.any,.any,.any,.any,.any,.any,.any,.any,.any,.any,.any,.any,.any,.any,.any,.any,.any,.any,.any],⟨(.inl t102),(.inr rfl),(.inr rfl),(.inl t102),(.inl t102),(.inr rfl),(.inr rfl),(.inr rfl),(.inr rfl),(.inr rfl),(.inr rfl),(.inr rfl),(.inr rfl),(.inr rfl),(.inr rfl),(.inr rfl),(.inr rfl),(.inr rfl),(.inr rfl),(.inr rfl),(.inr rfl),(.inr rfl),(.inr rfl),(.inr rfl),(.inr rfl),(.inr rfl),(.inr rfl),(.inr rfl),trivial⟩,(i+1),⟨rfl,by omega⟩,rfl⟩
  · try simp only[e1]
    have qe1:=e1;try replace qe1:=s6z qe1
    refine g6.Z4 rfl ?_;refine g6.exit ?_;obtain rfl:i=l.length:=by omega
    rw[List.take_length] at*;change g6 _ _ _ _ _;refine c11z ?_;refine q9.pre 2 t13 ?_;refine c81z ?_;refine Ends.mk (by simp only[res98,vU,kD,lT];first | rfl | (simp (maxSteps:=2000000) (disch:=omega) only [go_sem,Nat.reduceBEq,Nat.reduceAdd,Nat.reduceSub,Nat.reduceLeDiff,Nat.reduceMul,reduceIte,reduceCtorEq,Int.reduceNeg,Int.reduceToNat,Nat.reduceLT,Int.reduceLE,Int.reduceLT,Int.reduceAdd,Int.reduceSub,Int.reduceMul,rE,if_false,show ((10:Int)=0)=False from by simp,if_pos,if_neg];rfl)) ?_;exact ⟨[],_,(List.append_nil _).symm,t66,by rfl⟩
theorem app_tok {a:Blk}{l:c8}{zs:List AV}{x y z u:AV}(hz:zs.length=n*4)(hn:n<10000):g8 cfg 182 (n4 182 4 g zs::a::⟨0,false,182,4,[x,y,z,u],0⟩::l) (.own 0 g 0 n) (.own 2 0 0 1)=some (.own 0 (g+1) 0 (n+1),n4 182 4 (g+1) (zs++[x,y,z,u])::a::⟨0,false,182,4,[x,y,z,u],0⟩::l):=by rw[s9 (C:=cfg) (K:=4) (m:=1) (new:=[x,y,z,u]) (zs:=zs) rfl rfl (by omega) hz rfl (by omega) t96 rfl (by decide) (by omega)];rfl
theorem MW {l:c8}{zs:List AV}{x y z u:AV}(hz:zs.length=n*4)(hn:n<10000):g8 cfg 182 (n4 182 4 g zs::⟨0,false,182,4,[x,y,z,u],0⟩::l) (.own 0 g 0 n) (.own 1 0 0 1)=some (.own 0 (g+1) 0 (n+1),n4 182 4 (g+1) (zs++[x,y,z,u])::⟨0,false,182,4,[x,y,z,u],0⟩::l):=by rw[s9 (C:=cfg) (K:=4) (m:=1) (new:=[x,y,z,u]) (zs:=zs) rfl rfl (by omega) hz rfl (by omega) t96 rfl (by decide) (by omega)];rfl
theorem pF {k n p:Int}:z4 [.int .i64 k,.str s,.int .i64 n,.int .i64 p]:=z4.cons .int (z4.cons .str (z4.cons .int (z4.cons .int .nil)))
theorem lD {a b:List AV}(h:z4 a)(h':z4 b):z4 (a++b):=fun x hx=>(List.mem_append.1 hx).elim (h x) (h' x)
theorem RF (hs:Span L isD i e)(hv:vS ((L.drop i).take (e-i))<9223372036854775808)(hl:L.length<1000000):CallA Tryz.prog cfg 98 [.vec (e-i) (sO ((L.drop i).take (e-i)))] h (fun y h'=>y=.int .i64 ((vS ((L.drop i).take (e-i)):Nat):Int)∧h'=h):=by
  have hle:=hs.le;have e1:e-i=((L.drop i).take (e-i)).length:=by rw[List.length_take,List.length_drop];omega
  have:=c_numv (h:=h) _ (spanD hs) hv (by omega);rwa[←e1]at this
section
attribute [local go_sem] oI dO Option.bind_eq_bind QY RC RD takeL L9 Nat.add_sub_cancel_left app_tok MW take_one vZ nH wrap64 vT
theorem c_lex0 (L:Bs)(N:Nat)(hx:LX (L.drop 0) N)(hN:N≤4000)(hl:L.length≤262144):CallA Tryz.prog cfg 69 [.vec L.length (sO L)] [] (fun y' h'=>TU y'=.tup [.any,.int .i64 L.length,.int .i64 0]∧h'=[]):=by
  refine .bz Tryz.f69 124 ?_;have hs0:=yT rfl hx (by omega);refine c82z ?_;refine .spl 11 rfl rfl (fun e1=>by exfalso;simp only[decide_eq_true_eq,gt_iff_lt]at e1;omega) (fun e1=>?_);try simp only[e1]
  have qe1:=fact e1;refine c22z ?_;refine c261z ?_;refine .ca rfl rfl (RE L 0 N hx (by omega) (by omega)) ?_;refine c164z ?_;refine g6.oB 5 rfl ?_;refine .aD (fun m st=>∃(q:Nat) (k:Nat) (n:Nat) (zs:List AV),(m=L.length-q∧(k+n≤4000∧LX (L.drop q) n∧q≤L.length∧(q<L.length→vR (bat L q)=false)∧zs.length=k*4∧z4 zs))∧st=⟨mkS 124 [(0,AV.vec L.length (sO L)),(5,AV.own 0 k 0 k),(6,AV.int .i64 ((q:Nat):Int))],[n4 182 4 k zs]⟩) (.v ⟨(sk L 0),0,N,[],⟨rfl,⟨by omega,hs0.2.2.1,hs0.2.1,hs0.2.2.2,rfl,z4.nil⟩⟩,rfl⟩) ?_;rintro m sl h' ⟨q,k,n,zs,⟨hm,⟨hkn,hX,hq,hsp,hz,hpl⟩⟩,hst⟩;obtain ⟨rfl,rfl⟩:=St.mk.inj hst;clear hst;refine .sb ?_;refine c0z ?_;refine u2z ?_ ?_
  ·intro e2 qe2;refine c135z ?_;refine c176z ?_;exact ⟨_,_,rfl,by (show iT 0 _ 6 (.tup [.own 0 (k+1) 0 (k+1),.int .i64 ((q:Nat):Int),.int .i64 0])=_;simp only[nD,dV,nE,r6,Nat.not_lt_zero,if_false];rw[eH (e:=182) (K:=4) (g:=k+1) (zs:=zs++_) rfl (by decide) t101 (by omega) (z4.frz (lD hpl pF) _ _ _)];rfl),by rw[show q=L.length from by omega];rfl⟩
  intro e2 qe2;refine c241z ?_;refine .z ?_;refine .sb ?_;have hsp':=hsp (by omega);refine c30z ?_;refine .ca rfl rfl (yU _) ?_;refine .n ?_;refine u2z ?_ ?_
  ·intro e3 qe3;refine .sb ?_;obtain ⟨ee,mm,hspn,hle16,hnm,hX2⟩:=hX.ES (by omega) (by assumption);have hlt:=hspn.lt;refine .aD (fun m st=>∃(j:Nat),(m=ee-j∧(q≤j∧j≤ee))∧st=⟨mkS 124 [(0,AV.vec L.length (sO L)),(5,AV.own 0 k 0 k),(6,AV.int .i64 ((q:Nat):Int)),(7,AV.ptr 1 0 0),(8,AV.int .i64 ((j:Nat):Int))],[n4 182 4 k zs,⟨0,false,182,4,[.int .i64 0,.str ByteArray.empty,.int .i64 0,.int .i64 ((q:Nat):Int)],0⟩]⟩) (.v ⟨q,⟨rfl,⟨Nat.le_refl _,Nat.le_of_lt hspn.lt⟩⟩,rfl⟩) ?_;rintro m sl h' ⟨j,⟨hm,⟨hj1,hj2⟩⟩,hst⟩;obtain ⟨rfl,rfl⟩:=St.mk.inj hst;clear hst;have hle:=hspn.le;refine .seq ?_;refine c40z ?_;refine .spl 50 rfl rfl (fun e4=>?_) (fun e4=>?_)
   ·try simp only[e4]
    have qe4:=fact e4;refine .k 4 [(4,50)] ?_;refine .ca rfl rfl (yU _) ?_;refine .k 1 [(4,50)] ?_;refine .spl 56 rfl rfl (fun e5=>?_) (fun e5=>?_)
    ·try simp only[e5]
     have qe5:=fact e5;refine .m [(4,50),(10,56)] ?_;refine .T ?_;refine .sk ?_;refine .block ?_;refine .c9 [0,5,6,7,8] ?_;refine .rz ?_;have hje:=M0 hspn hj2 (by omega) t225;exact ⟨_,by omega,.v ⟨(j+1),⟨rfl,⟨by omega,by omega⟩⟩,rfl⟩ (he:=t207)⟩
    try simp only[e5]
    have qe5:=fact e5;refine .k 4 [(10,56)] ?_;refine .ca rfl rfl (yV _) ?_;refine .m [(4,50)] ?_;refine u2z ?_ ?_
    ·intro e6 qe6;refine .sk ?_;refine .block ?_;refine .c9 [0,5,6,7,8] ?_;refine .rz ?_;have hje:=M0 hspn hj2 (by omega) t225;exact ⟨_,by omega,.v ⟨(j+1),⟨rfl,⟨by omega,by omega⟩⟩,rfl⟩ (he:=t207)⟩
    intro e6 qe6;refine .exit ?_;have hje:ee=j:=(sQ hspn hj1 hj2 (fun hlt=>by first | omega | assumption | simp_all [isW])).symm;subst hje;change g6 ..;refine c109z ?_;refine c40z ?_;refine .ca rfl rfl (VC _) ?_;refine .nil ?_;refine u2z ?_ ?_
    ·intro e7 qe7;refine c1z ?_;refine c284z ?_;refine .spl 111 rfl rfl (fun e8=>by exfalso;simp only[beq_iff_eq]at e8;omega) (fun e8=>?_);try simp only[e8]
     have qe8:=fact e8;refine c273z ?_;have hs1:=yT rfl hX2 (by omega);exact ⟨_,by omega,.v ⟨(sk L ee),(k+1),mm,(zs++[.int .i64 _,.str _,.int .i64 _,.int .i64 ((q:Nat):Int)]),⟨rfl,⟨by omega,hs1.2.2.1,hs1.2.1,hs1.2.2.2,t101,lD hpl pF⟩⟩,rfl⟩ (he:=by rfl) (hk:=t69)⟩
    intro e7 qe7;refine .z ?_;refine .spl 77 rfl rfl (fun e9=>by exfalso;simp only[decide_eq_true_eq,gt_iff_lt]at e9;omega) (fun e9=>?_);try simp only[e9]
    have qe9:=fact e9;refine c54z ?_;refine c284z ?_;refine .spl 111 rfl rfl (fun e10=>by exfalso;simp only[beq_iff_eq]at e10;omega) (fun e10=>?_);try simp only[e10]
    have qe10:=fact e10;refine c273z ?_;have hs1:=yT rfl hX2 (by omega);exact ⟨_,by omega,.v ⟨(sk L ee),(k+1),mm,(zs++[.int .i64 _,.str _,.int .i64 _,.int .i64 ((q:Nat):Int)]),⟨rfl,⟨by omega,hs1.2.2.1,hs1.2.1,hs1.2.2.2,t101,lD hpl pF⟩⟩,rfl⟩ (he:=by rfl) (hk:=t69)⟩
   try simp only[e4]
   have qe4:=fact e4;refine .k 8 [(4,50),(10,56)] ?_;refine .m [(4,50),(10,56)] ?_;refine c249z ?_;have hje:ee=j:=(sQ hspn hj1 hj2 (fun hlt=>by first | omega | assumption | simp_all [isW])).symm;subst hje;change g6 ..;refine c109z ?_;refine c40z ?_;refine .ca rfl rfl (VC _) ?_;refine .nil ?_;refine u2z ?_ ?_
   ·intro e11 qe11;refine c1z ?_;refine c284z ?_;refine .spl 111 rfl rfl (fun e12=>by exfalso;simp only[beq_iff_eq]at e12;omega) (fun e12=>?_);try simp only[e12]
    have qe12:=fact e12;refine c273z ?_;have hs1:=yT rfl hX2 (by omega);exact ⟨_,by omega,.v ⟨(sk L ee),(k+1),mm,(zs++[.int .i64 _,.str _,.int .i64 _,.int .i64 ((q:Nat):Int)]),⟨rfl,⟨by omega,hs1.2.2.1,hs1.2.1,hs1.2.2.2,t101,lD hpl pF⟩⟩,rfl⟩ (he:=by rfl) (hk:=t69)⟩
   intro e11 qe11;refine .z ?_;refine .spl 77 rfl rfl (fun e13=>by exfalso;simp only[decide_eq_true_eq,gt_iff_lt]at e13;omega) (fun e13=>?_);try simp only[e13]
   have qe13:=fact e13;refine c54z ?_;refine c284z ?_;refine .spl 111 rfl rfl (fun e14=>by exfalso;simp only[beq_iff_eq]at e14;omega) (fun e14=>?_);try simp only[e14]
   have qe14:=fact e14;refine c273z ?_;have hs1:=yT rfl hX2 (by omega);exact ⟨_,by omega,.v ⟨(sk L ee),(k+1),mm,(zs++[.int .i64 _,.str _,.int .i64 _,.int .i64 ((q:Nat):Int)]),⟨rfl,⟨by omega,hs1.2.2.1,hs1.2.1,hs1.2.2.2,t101,lD hpl pF⟩⟩,rfl⟩ (he:=by rfl) (hk:=t69)⟩
  intro e3 qe3;refine .c9 [0,5,6,7,8] ?_;refine c30z ?_;refine .ca rfl rfl (yV _) ?_;refine .n ?_;refine u2z ?_ ?_
  ·intro e15 qe15;refine .sb ?_;obtain ⟨ee,mm,hspn,hvv,hnm,hX2⟩:=hX.MU (by omega) (by assumption);have hlt:=hspn.lt;refine .aD (fun m st=>∃(j:Nat),(m=ee-j∧(q≤j∧j≤ee))∧st=⟨mkS 124 [(0,AV.vec L.length (sO L)),(5,AV.own 0 k 0 k),(6,AV.int .i64 ((q:Nat):Int)),(7,AV.ptr 1 0 0),(8,AV.int .i64 ((j:Nat):Int))],[n4 182 4 k zs,⟨0,false,182,4,[.int .i64 0,.str ByteArray.empty,.int .i64 0,.int .i64 ((q:Nat):Int)],0⟩]⟩) (.v ⟨q,⟨rfl,⟨Nat.le_refl _,Nat.le_of_lt hspn.lt⟩⟩,rfl⟩) ?_;rintro m sl h' ⟨j,⟨hm,⟨hj1,hj2⟩⟩,hst⟩;obtain ⟨rfl,rfl⟩:=St.mk.inj hst;clear hst;have hle:=hspn.le;refine .seq ?_;refine c40z ?_;refine .spl 89 rfl rfl (fun e16=>?_) (fun e16=>?_)
   ·try simp only[e16]
    have qe16:=fact e16;refine .k 4 [(4,89)] ?_;refine .ca rfl rfl (yV _) ?_;refine .n ?_;refine u2z ?_ ?_
    ·intro e17 qe17;refine .sk ?_;refine .block ?_;refine .c9 [0,5,6,7,8] ?_;refine .rz ?_;have hje:=M0 hspn hj2 (by omega) t225;exact ⟨_,by omega,.v ⟨(j+1),⟨rfl,⟨by omega,by omega⟩⟩,rfl⟩ (he:=t207)⟩
    intro e17 qe17;refine .exit ?_;have hje:ee=j:=(sQ hspn hj1 hj2 (fun hlt=>by first | omega | assumption | simp_all [isW])).symm;subst hje;change g6 ..;refine .c9 [0,5,6,7,8] ?_;refine c30z ?_;refine .ca rfl rfl (RF hspn hvv (by omega)) ?_;refine .n ?_;refine .z ?_;refine .spl 107 rfl rfl (fun e18=>by exfalso;simp only[decide_eq_true_eq]at e18;omega) (fun e18=>?_);try simp only[e18]
    have qe18:=fact e18;refine c54z ?_;refine c284z ?_;refine .spl 111 rfl rfl (fun e19=>by exfalso;simp only[beq_iff_eq]at e19;omega) (fun e19=>?_);try simp only[e19]
    have qe19:=fact e19;refine c273z ?_;have hs1:=yT rfl hX2 (by omega);exact ⟨_,by omega,.v ⟨(sk L ee),(k+1),mm,(zs++[.int .i64 _,.str _,.int .i64 _,.int .i64 ((q:Nat):Int)]),⟨rfl,⟨by omega,hs1.2.2.1,hs1.2.1,hs1.2.2.2,t101,lD hpl pF⟩⟩,rfl⟩ (he:=by rfl) (hk:=t69)⟩
   try simp only[e16]
   have qe16:=fact e16;refine .m [(4,89)] ?_;refine c249z ?_;have hje:ee=j:=(sQ hspn hj1 hj2 (fun hlt=>by first | omega | assumption | simp_all [isW])).symm;subst hje;change g6 ..;refine .c9 [0,5,6,7,8] ?_;refine c30z ?_;refine .ca rfl rfl (RF hspn hvv (by omega)) ?_;refine .n ?_;refine .z ?_;refine .spl 107 rfl rfl (fun e20=>by exfalso;simp only[decide_eq_true_eq]at e20;omega) (fun e20=>?_);try simp only[e20]
   have qe20:=fact e20;refine c54z ?_;refine c284z ?_;refine .spl 111 rfl rfl (fun e21=>by exfalso;simp only[beq_iff_eq]at e21;omega) (fun e21=>?_);try simp only[e21]
   have qe21:=fact e21;refine c273z ?_;have hs1:=yT rfl hX2 (by omega);exact ⟨_,by omega,.v ⟨(sk L ee),(k+1),mm,(zs++[.int .i64 _,.str _,.int .i64 _,.int .i64 ((q:Nat):Int)]),⟨rfl,⟨by omega,hs1.2.2.1,hs1.2.1,hs1.2.2.2,t101,lD hpl pF⟩⟩,rfl⟩ (he:=by rfl) (hk:=t69)⟩
  intro e15 qe15;obtain ⟨hsg1,hsg2,mm,hnm,hX2⟩:=hX.ET (by omega) hsp' (by first | assumption | simp_all) (by first | assumption | simp_all);refine c13z ?_;refine .ca rfl rfl (c_sign L q (by omega) (by omega)) ?_;refine .n ?_;refine c109z ?_;refine .z ?_;refine .spl 38 rfl rfl (fun e22=>by exfalso;simp only[beq_iff_eq]at e22;omega) (fun e22=>?_);try simp only[e22]
  have qe22:=fact e22;refine c54z ?_;refine c0z ?_;refine .spl 111 rfl rfl (fun e23=>by exfalso;simp only[beq_iff_eq]at e23;omega) (fun e23=>?_);try simp only[e23]
  have qe23:=fact e23;refine c273z ?_;have hs1:=yT rfl hX2 (by omega);exact ⟨_,by omega,.v ⟨(sk L (q+sgn L q)),(k+1),mm,(zs++[.int .i64 _,.str _,.int .i64 _,.int .i64 ((q:Nat):Int)]),⟨rfl,⟨by omega,hs1.2.2.1,hs1.2.1,hs1.2.2.2,t101,lD hpl pF⟩⟩,rfl⟩ (he:=by rfl) (hk:=t69)⟩
end
end Go.Proofs.YtapdldekgbbomaaGreatDoor
end
section
namespace Go.Proofs.YtapdldekgbbomaaGreatDoor
open Go.Ab Go.Un
theorem wrapU {n:Int}(h1:0≤n)(h2:n<18446744073709551616):IntKind.wrap .u64 n=n:=by rw[IntKind.wrap_u64];omega
theorem F5:∀(f n:Nat),n<10^f→0<f→vX (f+1) n=vX f n
  | 0,n,h,hf=>by omega
  | f+1,n,h,_=>by
    have e:vX (f+1+1) n=if n<10 then [dig n] else vX (f+1) (n / 10)++[dig n]:=rfl
    have e2:vX (f+1) n=if n<10 then [dig n] else vX f (n / 10)++[dig n]:=rfl
    rw[e,e2];split
    · rfl
    · rename_i hn
      have h1:n / 10<10^f:=by rw[Nat.pow_succ]at h;omega
      cases f with
      | zero=>simp at h1;omega
      | succ f=>rw[F5 (f+1) (n / 10) h1 (by omega)]
theorem F6 {n:Nat}(h:n<10000000000000000000)(h0:0<n / 10):wI n=wI (n / 10)++[dig n]:=by
  have e2:wI n=if n<10 then [dig n] else vX 19 (n / 10)++[dig n]:=rfl
  rw[e2,if_neg (by omega)];unfold wI;rw[F5 19 (n / 10) (by omega) (by omega)]
theorem wO {n:Nat}(h:n<10):wI n=[dig n]:=by
  have e2:wI n=if n<10 then [dig n] else vX 19 (n / 10)++[dig n]:=rfl
  rw[e2,if_pos h]
def ZD (n:Nat)(s:Bs):Bs:=if n=0 then s else wI n++s
theorem AP {n:Nat}(h:n<10000000000000000000):ZD (n / 10) [dig n]=wI n:=by
  unfold ZD;split
  · rw[wO (by omega)]
  · rw[F6 h (by omega)]
variable {s:Bs}
theorem EX {n:Nat}(h:n<10000000000000000000)(h0:0<n):ZD (n / 10) (dig n::s)=ZD n s:=by
  unfold ZD;rw[if_neg (by omega:¬n=0)];split
  · rw[wO (by omega)];rfl
  · rw[F6 h (by omega)];simp
theorem EY {n:Nat}:UInt8.ofNat (((48:Int)+(((n%10:Nat)):Int)).toNat)=dig n:=by unfold dig;congr 1
theorem RG {n:Nat}:((n:Int)).tmod 10=((n%10:Nat):Int):=rfl
theorem RH {n:Nat}:((n:Int)).tdiv 10=((n / 10:Nat):Int):=rfl
theorem RJ {a:UInt8}:(⟨#[a]⟩:BA)++(⟨s.toArray⟩:BA)=⟨(a::s).toArray⟩:=by apply ByteArray.ext;simp[ByteArray.data_append]
theorem EZ:(⟨s.toArray⟩:BA).size=s.length:=by rw[kV];rfl
attribute [local go_sem] nI w3 o8 bY l7 Int.natCast_nonneg Int.natCast_inj List.length_map wrap64 AO wrapU eT I6 vZ A5 I7 nH max2 kC
theorem MX {n m:Nat}(h:n*10^s.length≤m):n / 10*10^(dig n::s).length≤m:=by rw[List.length_cons,Nat.pow_succ,Nat.mul_comm (10^s.length),←Nat.mul_assoc];exact Nat.le_trans (Nat.mul_le_mul_right _ (Nat.div_mul_le_self n 10)) h
theorem MY {n m:Nat}(h0:0<n)(h:n*10^s.length≤m)(hm:m<10000000000000000000):(dig n::s).length≤20:=by
  rw[List.length_cons];by_cases hs:s.length+1≤20
  · exact hs
  · have h1:10^20≤10^s.length:=Nat.pow_le_pow_right (by omega) (by omega)
    have h2:1*10^s.length≤n*10^s.length:=Nat.mul_le_mul_right _ h0;omega
theorem c_dig0 (m0:Nat)(hm0:m0<10000000000000000000):CB 113 [.int .u64 (m0:Int)] [] (.str ⟨(wI m0).toArray⟩):=by
  refine CallA.body (Q:=fun y'=>y'=.str ⟨(wI m0).toArray⟩) w7 fn113 rfl ?_;simp only[ntm113,List.length_cons,List.length_nil,Nat.reduceAdd,Nat.reduceSub,List.replicate,List.cons_append,List.nil_append];refine c11z ?_;refine q9.pre 1 t14 ?_;refine c10z ?_;refine c11z ?_;refine q9.pre 7 t14 ?_;refine c167z ?_;refine c11z ?_;refine q9.pre 3 t14 ?_;refine c10z ?_;refine g6.block ?_;refine g6.bA ([⟨0,false,5,1,[.int .u8 (48+((m0%10:Nat):Int))],0⟩]) (by first | rfl | (simp only[List.append_assoc,List.cons_append,List.nil_append];rfl)) ?_;refine g6.loopW (fun m st=>∃(n:Nat) (s:Bs),(m=n∧(n<10000000000000000000∧ZD n s=wI m0∧s.length≤20∧n*10^s.length≤m0))∧st=⟨[.int .u64 ((n:Nat):Int),.any,.any,.str ⟨s.toArray⟩,.any,.any,.any,.any,.any,.any,.any,.any,.any,.any,.any,.any,.any,.any,.any,.any,.any,.any,.any,.any,.any],[⟨0,false,5,1,[.int .u8 (48+((m0%10:Nat):Int))],0⟩]⟩) ((m0 / 10)) ⟨[.int .u64 (((m0 / 10):Nat):Int),.any,.any,.str ⟨[dig m0].toArray⟩,.any,.any,.any,.any,.any,.any,.any,.any,.any,.any,.any,.any,.any,.any,.any,.any,.any,.any,.any,.any,.any],[⟨0,false,5,1,[.int .u8 (48+((m0%10:Nat):Int))],0⟩],[],(List.append_nil _).symm,Nat.le_refl _,z5.refl _,⟨(.inl t205),(.inr rfl),(.inr rfl),(.inl t205),(.inr rfl),(.inr rfl),(.inr rfl),(.inr rfl),(.inr rfl),(.inr rfl),(.inr rfl),(.inr rfl),(.inr rfl),(.inr rfl),(.inr rfl),(.inr rfl),(.inr rfl),(.inr rfl),(.inr rfl),(.inr rfl),(.inr rfl),(.inr rfl),(.inr rfl),(.inr rfl),(.inr rfl),trivial⟩,dP.get ⟨t6,t6,t6,t6,t6,t6,t6,t6,t6,t6,t6,t6,t6,t6,t6,t6,t6,t6,t6,t6,t6,t6,t6,t6,t6,trivial⟩,(m0 / 10),[dig m0],⟨rfl,⟨by omega,AP hm0,by simp,t74⟩⟩,rfl⟩ ?_;rintro m sl h' ⟨n,s,⟨hm,⟨hn,hP,hs,hM⟩⟩,hst⟩;obtain ⟨rfl,rfl⟩:=St.mk.inj hst;clear hst;refine g6.seq ?_;refine c11z ?_;refine q9.pre 2 t14 ?_;refine c10z ?_;refine g6.split 13 rfl (fun e1=>?_) (fun e1=>?_)
  · try simp only[e1]
    have qe1:=e1;try replace qe1:=s6z qe1
    refine g6.Z3 rfl ?_;refine c94z ?_;refine g6.seq ?_;refine g6.block ?_;refine g6.region w7 ?_;refine q9.pre 9 t14 ?_;refine c10z ?_;refine g6.region w7 ?_;refine q9.pre 3 t14 ?_;refine q9.nil ?_;have hP2:=(EX (s:=s) hn (by omega)).trans hP;exact ⟨(n / 10),by omega,[.int .u64 (((n / 10):Nat):Int),.any,.any,.str ⟨(dig n::s).toArray⟩,.any,.any,.any,.any,.any,.any,.any,.any,.any,.any,.any,.any,.any,.any,.any,.any,.any,.any,.any,.any,.any],[⟨0,false,5,1,[.int .u8 (48+((m0%10:Nat):Int))],0⟩],_,by rfl,by simp,by exact z5.refl _,⟨(.inl t205),(.inr rfl),(.inr rfl),(.inl t205),(.inr rfl),(.inr rfl),(.inr rfl),(.inr rfl),(.inr rfl),(.inr rfl),(.inr rfl),(.inr rfl),(.inr rfl),(.inr rfl),(.inr rfl),(.inr rfl),(.inr rfl),(.inr rfl),(.inr rfl),(.inr rfl),(.inr rfl),(.inr rfl),(.inr rfl),(.inr rfl),(.inr rfl),trivial⟩,dP.get ⟨t6,t6,t6,t6,t6,t6,t6,t6,t6,t6,t6,t6,t6,t6,t6,t6,t6,t6,t6,t6,t6,t6,t6,t6,t6,trivial⟩,(n / 10),(dig n::s),⟨rfl,⟨by omega,hP2,MY (by omega) hM hm0,MX hM⟩⟩,rfl⟩
  · try simp only[e1]
    have qe1:=e1;try replace qe1:=s6z qe1
    refine g6.Z4 rfl ?_;refine g6.exit ?_;change g6 _ _ _ _ _;refine c11z ?_;refine q9.pre 2 t14 ?_;refine c81z ?_;refine Ends.mk (by simp only[QP,vU,kD,lT];first | rfl | (simp (maxSteps:=2000000) (disch:=omega) only [go_sem,Nat.reduceBEq,Nat.reduceAdd,Nat.reduceSub,Nat.reduceLeDiff,Nat.reduceMul,reduceIte,reduceCtorEq,Int.reduceNeg,Int.reduceToNat,Nat.reduceLT,Int.reduceLE,Int.reduceLT,Int.reduceAdd,Int.reduceSub,Int.reduceMul,RG,RH,EY,iA,rd,RJ,EZ,show ((10:Int)=0)=False from by simp,show (⟨#[dig m0]⟩:BA)=⟨[dig m0].toArray⟩ from rfl,rE,if_pos,if_neg];rfl)) ?_;exact ⟨_,_,(by first | rfl | exact (List.append_nil _).symm | (simp only[List.append_assoc,List.cons_append,List.nil_append];rfl)),by first | rfl | (simp only[iT,kN,r6,v5,eL];rfl),by (rw[←hP,show n=0 from by omega];rfl)⟩
variable {h:c8}
theorem MZ (n:Nat)(hn:n<10000000000000000000):CallA Tryz.prog cfg 113 [.int .u64 (n:Int)] h (fun y h'=>y=.str ⟨(wI n).toArray⟩∧h'=h):=F3 rfl ((c_dig0 n hn).mono fun _ _ h=>by rw[h.1];rfl) h
theorem F7 (n:Int)(h0:0≤n)(hn:n<10000000000000000000):CallA Tryz.prog cfg 113 [.int .u64 n] h (fun y h'=>y=.str ⟨(wI n.toNat).toArray⟩∧h'=h):=by have:=MZ (h:=h) n.toNat (by omega);rwa[Int.toNat_of_nonneg h0]at this
theorem c_num (n:Int)(h1:-9000000000000000000≤n)(h2:n<9000000000000000000):CB 100 [.int .i64 n] h (.str (AI n)):=by
  refine CallA.body (Q:=fun y'=>y'=.str (AI n)) w7 fn100 rfl ?_;simp only[ntm100,List.length_cons,List.length_nil,Nat.reduceAdd,Nat.reduceSub,List.replicate,List.cons_append,List.nil_append];have hs1:(wI (-(n+1)+1).toNat).length≤20:=sG 20 _;refine c11z ?_;refine q9.pre 1 t24 ?_;refine c167z ?_;refine c11z ?_;refine q9.pre 2 t24 ?_;refine c10z ?_;refine g6.split 4 rfl (fun e1=>?_) (fun e1=>?_)
  · try simp only[e1]
    have qe1:=e1;try replace qe1:=s6z qe1
    refine c311z ?_;refine q9.pre 5 t24 ?_;refine q9.TJ rfl rfl rfl hb113 (F7 _ (by omega) (by omega)) ?_;refine q9.pre 2 t24 ?_;refine c81z ?_;refine Ends.mk t83 ?_;exact ⟨[],_,(List.append_nil _).symm,t66,t154⟩
  · try simp only[e1]
    have qe1:=e1;try replace qe1:=s6z qe1
    refine c221z ?_;refine q9.pre 2 t24 ?_;refine q9.TJ rfl rfl rfl hb113 (F7 _ (by omega) (by omega)) ?_;refine q9.pre 1 t24 ?_;refine c81z ?_;refine Ends.mk t83 ?_;exact ⟨[],_,(List.append_nil _).symm,t66,t154⟩
theorem strE1:v7 cfg dS 20 120 [.int .i64 1] []=some (.int .i64 6,[]):=by kernel_rfl
theorem strE2:v7 cfg dS 20 120 [.int .i64 2] []=some (.int .i64 6,[]):=by kernel_rfl
theorem strE3:v7 cfg dS 20 120 [.int .i64 3] []=some (.int .i64 5,[]):=by kernel_rfl
theorem strE4:v7 cfg dS 20 120 [.int .i64 4] []=some (.int .i64 5,[]):=by kernel_rfl
theorem strE5:v7 cfg dS 20 120 [.int .i64 5] []=some (.int .i64 4,[]):=by kernel_rfl
theorem strE6:v7 cfg dS 20 120 [.int .i64 6] []=some (.int .i64 4,[]):=by kernel_rfl
theorem strE7:v7 cfg dS 20 120 [.int .i64 7] []=some (.int .i64 4,[]):=by kernel_rfl
theorem strE8:v7 cfg dS 20 120 [.int .i64 8] []=some (.int .i64 3,[]):=by kernel_rfl
theorem strE9:v7 cfg dS 20 120 [.int .i64 9] []=some (.int .i64 3,[]):=by kernel_rfl
theorem strE10:v7 cfg dS 20 120 [.int .i64 10] []=some (.int .i64 2,[]):=by kernel_rfl
theorem strE11:v7 cfg dS 20 120 [.int .i64 11] []=some (.int .i64 2,[]):=by kernel_rfl
theorem strE12:v7 cfg dS 20 120 [.int .i64 12] []=some (.int .i64 2,[]):=by kernel_rfl
theorem strE13:v7 cfg dS 20 120 [.int .i64 13] []=some (.int .i64 2,[]):=by kernel_rfl
theorem strE14:v7 cfg dS 20 120 [.int .i64 14] []=some (.int .i64 2,[]):=by kernel_rfl
theorem strE15:v7 cfg dS 20 120 [.int .i64 15] []=some (.int .i64 2,[]):=by kernel_rfl
theorem strE16:v7 cfg dS 20 120 [.int .i64 16] []=some (.int .i64 1,[]):=by kernel_rfl
theorem strE17:v7 cfg dS 20 120 [.int .i64 17] []=some (.int .i64 0,[]):=by kernel_rfl
theorem qS (o:Int)(h1:1≤o)(h2:o≤17):CallA Tryz.prog cfg 120 [.int .i64 o] h (fun y h'=>y=.int .i64 (hU o)∧h'=h):=by
  have key:∀(k v:Int),v7 cfg dS 20 120 [.int .i64 k] []=some (.int .i64 v,[])→hU k=v→CallA Tryz.prog cfg 120 [.int .i64 k] h (fun y h'=>y=.int .i64 (hU k)∧h'=h):=fun k v he hv=>by rw[hv];exact F3 rfl ((xV w7 aB 20 _ _ _ _ _ he).mono fun _ _ h=>by rw[h.1];rfl) h
  have hcases:o=1∨o=2∨o=3∨o=4∨o=5∨o=6∨o=7∨o=8∨o=9∨o=10∨o=11∨o=12∨o=13∨o=14∨o=15∨o=16∨o=17:=by omega
  rcases hcases with rfl | rfl | rfl | rfl | rfl | rfl | rfl | rfl | rfl | rfl | rfl | rfl | rfl | rfl | rfl | rfl | rfl
  · exact key _ _ strE1 rfl
  · exact key _ _ strE2 rfl
  · exact key _ _ strE3 rfl
  · exact key _ _ strE4 rfl
  · exact key _ _ strE5 rfl
  · exact key _ _ strE6 rfl
  · exact key _ _ strE7 rfl
  · exact key _ _ strE8 rfl
  · exact key _ _ strE9 rfl
  · exact key _ _ strE10 rfl
  · exact key _ _ strE11 rfl
  · exact key _ _ strE12 rfl
  · exact key _ _ strE13 rfl
  · exact key _ _ strE14 rfl
  · exact key _ _ strE15 rfl
  · exact key _ _ strE16 rfl
  · exact key _ _ strE17 rfl
theorem NA {l:List Ex}{i:Nat}(h:i<l.length):List.take 1 (List.drop (i*4) (n9 l))=[AV.int .i64 (l.getD i l4).op]:=by have:=congrArg (fun x=>x.take 1) (read_es h);simp only[List.take_take,aI]at this;simpa using this
variable {o:Int}
theorem pG (h1:1≤o)(h2:o≤17):0≤hU o∧hU o≤6∧(hU o=6↔o=1∨o=2)∧(hU o=5↔o=3∨o=4):=by
  have hcases:o=1∨o=2∨o=3∨o=4∨o=5∨o=6∨o=7∨o=8∨o=9∨o=10∨o=11∨o=12∨o=13∨o=14∨o=15∨o=16∨o=17:=by omega
  rcases hcases with rfl | rfl | rfl | rfl | rfl | rfl | rfl | rfl | rfl | rfl | rfl | rfl | rfl | rfl | rfl | rfl | rfl<;>decide
variable {vars:List BA}
theorem GE.op:∀{d:Nat} {e:Ex},GE vars d e→1≤e.op∧e.op≤17
  | d,.leaf o n s,h=>by have h':=jZ.1 h;simp only[Ex.op];omega
  | 0,.un o a,h=>h.elim
  | 0,.bin o a b,h=>h.elim
  | d+1,.un o a,h=>by have:=h.1;simp only[Ex.op];omega
  | d+1,.bin o a b,h=>by have:=h.1;simp only[Ex.op];omega
section
attribute [local go_sem] NA
theorem M1 (e:Ex)(k:Nat)(hk:k<e.args.length)(h1:1≤e.op∧e.op≤17)(h2:1≤(e.args.getD k l4).op∧(e.args.getD k l4).op≤17)(hl:e.args.length≤2):CB 121 [.agg [.int .i64 e.op,.int .i64 e.num,.str e.name,.vec e.args.length (n9 e.args)],.int .i64 (k:Int)] h (.bool (lX e k)):=by
  refine .bz Tryz.f121 29 ?_;refine .z ?_;refine .ss w7 (mkP 12 [0,1,0,7,15,31,63,0,128,511,1023,2047] []) ?_;refine .k 6 [] ?_;refine .ca rfl rfl (qS _ h2.1 h2.2) ?_;refine .k 2 [] ?_;refine .ca rfl rfl (qS _ h1.1 h1.2) ?_;refine .n [] ?_;refine .c9 [1,5,6] ?_;refine c30z ?_;refine .spl 20 rfl rfl (fun e1=>?_) (fun e1=>?_)
  ·try simp only[e1]
   have qe1:=fact e1;refine .k 8 [(3,20),(7,24)] ?_;refine .n ?_;exact .ret (.ex (hq:=t92))
  try simp only[e1]
  have qe1:=fact e1;refine .k 4 [(3,20)] ?_;refine .spl 24 rfl rfl (fun e2=>?_) (fun e2=>?_)
  ·try simp only[e2]
   have qe2:=fact e2;refine .m [(3,20),(7,24)] ?_;exact .ret (.ex (hq:=t92))
  try simp only[e2]
  have qe2:=fact e2;refine .m [(3,20),(7,24)] ?_;exact .ret (.ex (hq:=t92))
end
variable {a:Ex}
theorem T8 (h1:1≤o∧o≤17)(h2:1≤a.op∧a.op≤17):CB 121 [.agg [.int .i64 o,.int .i64 0,.str ByteArray.empty,.vec 1 (u7 a)],.int .i64 0] h (.bool (lX (.un o a) 0)):=by have:=M1 (h:=h) (.un o a) 0 t231 h1 h2 t231;simpa only[Ex.op,Ex.num,Ex.name,Ex.args,n9,List.flatMap_cons,List.flatMap_nil,List.append_nil,List.length_cons,List.length_nil,Nat.zero_add,Int.natCast_zero,Int.cast_ofNat_Int] using this
variable {b:Ex}
theorem F8 (h1:1≤o∧o≤17)(h2:1≤a.op∧a.op≤17):CB 121 [.agg [.int .i64 o,.int .i64 0,.str ByteArray.empty,.vec 2 (u7 a++u7 b)],.int .i64 0] h (.bool (lX (.bin o a b) 0)):=by have:=M1 (h:=h) (.bin o a b) 0 t231 h1 h2 t231;simpa only[Ex.op,Ex.num,Ex.name,Ex.args,n9,List.flatMap_cons,List.flatMap_nil,List.append_nil,List.length_cons,List.length_nil,Nat.zero_add,Nat.reduceAdd,Int.natCast_zero,Int.cast_ofNat_Int] using this
theorem uJ (h1:1≤o∧o≤17)(h2:1≤b.op∧b.op≤17):CB 121 [.agg [.int .i64 o,.int .i64 0,.str ByteArray.empty,.vec 2 (u7 a++u7 b)],.int .i64 1] h (.bool (lX (.bin o a b) 1)):=by have:=M1 (h:=h) (.bin o a b) 1 t231 h1 h2 t231;simpa only[Ex.op,Ex.num,Ex.name,Ex.args,n9,List.flatMap_cons,List.flatMap_nil,List.append_nil,List.length_cons,List.length_nil,Nat.zero_add,Nat.reduceAdd,Int.natCast_one,Int.cast_ofNat_Int] using this
theorem fG:u7 (.un o a)=[.int .i64 o,.int .i64 0,.str ByteArray.empty,.vec 1 (u7 a)]:=rfl
theorem dL:u7 (.bin o a b)=[.int .i64 o,.int .i64 0,.str ByteArray.empty,.vec 2 (u7 a++u7 b)]:=rfl
theorem cA {n:Int}{s:BA}:u7 (.leaf o n s)=[.int .i64 o,.int .i64 n,.str s,.vec 0 []]:=rfl
theorem jO {l:List AV}:List.take 4 (u7 a++l)=u7 a:=by rw[←o8 a,List.take_left]
theorem jP {l:List AV}:List.drop 4 (u7 a++l)=l:=by rw[←o8 a,List.drop_left]
theorem mN {s:BA}:(s.toList==ByteArray.empty.toList)=decide (s.size=0):=by
  rw[ByteArray.toList_eq,ByteArray.toList_eq,Bool.eq_iff_iff];simp only[beq_iff_eq,decide_eq_true_eq];constructor
  · intro h
    have:=congrArg List.length h;simpa using this
  · intro h
    exact List.length_eq_zero_iff.1 (by simpa using h)
theorem eq_mk {s:BA}:(⟨#[]⟩:BA)=ByteArray.empty:=rfl
theorem mO:ByteArray.empty.size=0:=rfl
section
attribute [local go_sem] fG dL cA jO jP eT mN eq_mk mO
theorem NB {vars:List BA}(n:Int)(hn:0≤n):CB 111 [.agg (u7 (.leaf 1 n ByteArray.empty))] h (.bool true):=by
  refine .bz Tryz.f111 77 ?_;have hst:hU 1=6:=rfl;refine c136z ?_;refine c137z ?_;refine c294z ?_;refine .spl 10 rfl rfl (fun e1=>?_) (fun e1=>by exfalso;first | omega | (replace e1:=s7z e1;omega) | (simp at e1;omega) | (simp at e1;done));try simp only[e1]
  have qe1:=fact e1;refine .T ?_;refine c306z ?_;refine .ss w7 (mkP 28 [0,1,3,7,15,31,63,127,255,511,1023,2047,4095,0,8192,24576,57855,123391,254463,516607,1040895,2089471,4186623,8380927,16769535,33546751,33554431,134217727] []) ?_;refine .k 4 [] ?_;refine .spl 15 rfl rfl (fun e2=>?_) (fun e2=>by exfalso;first | omega | (replace e2:=s7z e2;omega) | (simp at e2;omega) | (simp at e2;done));try simp only[e2]
  have qe2:=fact e2;refine .k 5 [(3,15)] ?_;refine .spl 20 rfl rfl (fun e3=>?_) (fun e3=>by exfalso;first | omega | (replace e3:=s7z e3;omega) | (simp at e3;omega) | (simp at e3;done));try simp only[e3]
  have qe3:=fact e3;refine .k 8 [(8,20)] ?_;refine .spl 28 rfl rfl (fun e4=>by exfalso;first | omega | (replace e4:=s7z e4;omega) | (simp at e4;omega) | (simp at e4;done)) (fun e4=>?_);try simp only[e4]
  have qe4:=fact e4;refine .k 8 [(16,28),(21,33)] ?_;refine .n [] ?_;refine .c9 [1,3,4,5] ?_;refine c13z ?_;refine .spl 40 rfl rfl (fun e5=>by exfalso;first | omega | (replace e5:=s7z e5;omega) | (simp at e5;omega) | (simp at e5;done)) (fun e5=>?_);try simp only[e5]
  have qe5:=fact e5;refine .m [(2,40)] ?_;refine c54z ?_;refine c110z ?_;refine c108z ?_;refine .spl 51 rfl rfl (fun e6=>by exfalso;first | omega | (replace e6:=s7z e6;omega) | (simp at e6;omega) | (simp at e6;done)) (fun e6=>?_);try simp only[e6]
  have qe6:=fact e6;refine .k 3 [(5,51)] ?_;refine .spl 54 rfl rfl (fun e7=>by exfalso;first | omega | (replace e7:=s7z e7;omega) | (simp at e7;omega) | (simp at e7;done)) (fun e7=>?_);try simp only[e7]
  have qe7:=fact e7;refine .k 8 [(8,54),(12,58)] ?_;refine .m [(5,51)] ?_;refine c22z ?_;refine c110z ?_;refine c179z ?_;refine .z ?_;exact .ret (.ex (hq:=by rfl))
end
section
attribute [local go_sem] fG dL cA jO jP eT mN eq_mk mO
theorem NC {vars:List BA}(s:BA)(hn:isName (L8 s))(hr:sP s=false):CB 111 [.agg (u7 (.leaf 2 0 s))] h (.bool true):=by
  refine .bz Tryz.f111 77 ?_;have hst:hU 2=6:=rfl;have hsz:=(eV hn).1;refine c136z ?_;refine c137z ?_;refine c294z ?_;refine .spl 10 rfl rfl (fun e1=>?_) (fun e1=>by exfalso;first | omega | (replace e1:=s7z e1;omega) | (simp at e1;omega) | (simp at e1;done));try simp only[e1]
  have qe1:=fact e1;refine .T ?_;refine c306z ?_;refine .ss w7 (mkP 28 [0,1,3,7,15,31,63,127,255,511,1023,2047,4095,0,8192,24576,57855,123391,254463,516607,1040895,2089471,4186623,8380927,16769535,33546751,33554431,134217727] []) ?_;refine .k 4 [] ?_;refine .spl 15 rfl rfl (fun e2=>by exfalso;first | omega | (replace e2:=s7z e2;omega) | (simp at e2;omega) | (simp at e2;done)) (fun e2=>?_);try simp only[e2]
  have qe2:=fact e2;refine .k 8 [(3,15),(8,20)] ?_;refine .k 5 [] ?_;refine .spl 28 rfl rfl (fun e3=>?_) (fun e3=>by exfalso;first | omega | (replace e3:=s7z e3;omega) | (simp at e3;omega) | (simp at e3;done));try simp only[e3]
  have qe3:=fact e3;refine .k 5 [(16,28)] ?_;refine .spl 33 rfl rfl (fun e4=>?_) (fun e4=>by exfalso;first | omega | (replace e4:=s7z e4;omega) | (simp at e4;omega) | (simp at e4;done));try simp only[e4]
  have qe4:=fact e4;refine .k 2 [(21,33)] ?_;refine .ca rfl rfl (mM _ hn hr) ?_;refine .n [] ?_;refine .c9 [1,3,4,5] ?_;refine .zm [(2,40)] ?_;refine .spl 43 rfl rfl (fun e5=>by exfalso;first | omega | (replace e5:=s7z e5;omega) | (simp at e5;omega) | (simp at e5;done)) (fun e5=>?_);try simp only[e5]
  have qe5:=fact e5;refine c54z ?_;refine c110z ?_;refine c108z ?_;refine .spl 51 rfl rfl (fun e6=>by exfalso;first | omega | (replace e6:=s7z e6;omega) | (simp at e6;omega) | (simp at e6;done)) (fun e6=>?_);try simp only[e6]
  have qe6:=fact e6;refine .k 3 [(5,51)] ?_;refine .spl 54 rfl rfl (fun e7=>by exfalso;first | omega | (replace e7:=s7z e7;omega) | (simp at e7;omega) | (simp at e7;done)) (fun e7=>?_);try simp only[e7]
  have qe7:=fact e7;refine .k 8 [(8,54),(12,58)] ?_;refine .m [(5,51)] ?_;refine c22z ?_;refine c110z ?_;refine c179z ?_;refine .z ?_;exact .ret (.ex (hq:=by rfl))
end
section
attribute [local go_sem] fG dL cA jO jP eT mN eq_mk mO
theorem ND {vars:List BA}(o:Int)(a:Ex)(ho:o=3∨o=4)(iha:∀(h:c8),CB 111 [.agg (u7 a)] h (.bool true)):CB 111 [.agg (u7 (.un o a))] h (.bool true):=by
  refine .bz Tryz.f111 77 ?_;have hst:=(pG (o:=o) (by omega) (by omega)).2.2.2.2 ho;refine c136z ?_;refine c137z ?_;refine c294z ?_;refine .spl 10 rfl rfl (fun e1=>by exfalso;first | omega | (replace e1:=s7z e1;omega) | (simp at e1;omega) | (simp at e1;done)) (fun e1=>?_);try simp only[e1]
  have qe1:=fact e1;refine c188z ?_;refine .spl 44 rfl rfl (fun e2=>?_) (fun e2=>by exfalso;first | omega | (replace e2:=s7z e2;omega) | (simp at e2;omega) | (simp at e2;done));try simp only[e2]
  have qe2:=fact e2;refine .T ?_;refine .c9 [1] ?_;refine c1z ?_;refine .seq ?_;refine c108z ?_;refine .spl 51 rfl rfl (fun e3=>by exfalso;first | omega | (replace e3:=s7z e3;omega) | (simp at e3;omega) | (simp at e3;done)) (fun e3=>?_);try simp only[e3]
  have qe3:=fact e3;refine .k 3 [(5,51)] ?_;refine .spl 54 rfl rfl (fun e4=>?_) (fun e4=>by exfalso;first | omega | (replace e4:=s7z e4;omega) | (simp at e4;omega) | (simp at e4;done));try simp only[e4]
  have qe4:=fact e4;refine .k 4 [(8,54)] ?_;refine .spl 58 rfl rfl (fun e5=>by exfalso;first | omega | (replace e5:=s7z e5;omega) | (simp at e5;omega) | (simp at e5;done)) (fun e5=>?_);try simp only[e5]
  have qe5:=fact e5;refine .m [(5,51),(8,54),(12,58)] ?_;refine .spl 64 rfl rfl (fun e6=>by exfalso;first | omega | (replace e6:=s7z e6;omega) | (simp at e6;omega) | (simp at e6;done)) (fun e6=>?_);try simp only[e6]
  have qe6:=fact e6;refine c22z ?_;refine c110z ?_;refine c36z ?_;refine g6.rounds 2 ?_;refine c113z ?_;refine .n ?_;refine .spl 76 rfl rfl (fun e7=>by exfalso;first | omega | (replace e7:=s7z e7;omega) | (simp at e7;omega) | (simp at e7;done)) (fun e7=>?_);try simp only[e7]
  have qe7:=fact e7;refine c54z ?_;refine .c9 [1,3,6] ?_;refine .rz ?_;refine c52z ?_;refine c4z ?_;exact .ret (.ex (hq:=by rfl))
end
section
attribute [local go_sem] fG dL cA jO jP eT mN eq_mk mO
theorem NF {vars:List BA}(o:Int)(a b:Ex)(ho:5≤o∧o≤17)(iha:∀(h:c8),CB 111 [.agg (u7 a)] h (.bool true))(ihb:∀(h:c8),CB 111 [.agg (u7 b)] h (.bool true)):CB 111 [.agg (u7 (.bin o a b))] h (.bool true):=by
  refine .bz Tryz.f111 77 ?_;have hst:=pG (o:=o) (by omega) (by omega);refine c136z ?_;refine c137z ?_;refine c294z ?_;refine .spl 10 rfl rfl (fun e1=>by exfalso;first | omega | (replace e1:=s7z e1;omega) | (simp at e1;omega) | (simp at e1;done)) (fun e1=>?_);try simp only[e1]
  have qe1:=fact e1;refine c188z ?_;refine .spl 44 rfl rfl (fun e2=>by exfalso;first | omega | (replace e2:=s7z e2;omega) | (simp at e2;omega) | (simp at e2;done)) (fun e2=>?_);try simp only[e2]
  have qe2:=fact e2;refine c54z ?_;refine c110z ?_;refine c108z ?_;refine .spl 51 rfl rfl (fun e3=>by exfalso;first | omega | (replace e3:=s7z e3;omega) | (simp at e3;omega) | (simp at e3;done)) (fun e3=>?_);try simp only[e3]
  have qe3:=fact e3;refine .k 3 [(5,51)] ?_;refine .spl 54 rfl rfl (fun e4=>?_) (fun e4=>by exfalso;first | omega | (replace e4:=s7z e4;omega) | (simp at e4;omega) | (simp at e4;done));try simp only[e4]
  have qe4:=fact e4;refine .k 4 [(8,54)] ?_;refine .spl 58 rfl rfl (fun e5=>by exfalso;first | omega | (replace e5:=s7z e5;omega) | (simp at e5;omega) | (simp at e5;done)) (fun e5=>?_);try simp only[e5]
  have qe5:=fact e5;refine .m [(5,51),(8,54),(12,58)] ?_;refine .spl 64 rfl rfl (fun e6=>by exfalso;first | omega | (replace e6:=s7z e6;omega) | (simp at e6;omega) | (simp at e6;done)) (fun e6=>?_);try simp only[e6]
  have qe6:=fact e6;refine c22z ?_;refine c110z ?_;refine c36z ?_;refine c210z ?_;refine .n ?_;refine .spl 76 rfl rfl (fun e7=>by exfalso;first | omega | (replace e7:=s7z e7;omega) | (simp at e7;omega) | (simp at e7;done)) (fun e7=>?_);try simp only[e7]
  have qe7:=fact e7;refine c54z ?_;refine .c9 [1,3,6] ?_;refine .rz ?_;refine c174z ?_;refine .n ?_;refine .spl 76 rfl rfl (fun e8=>by exfalso;first | omega | (replace e8:=s7z e8;omega) | (simp at e8;omega) | (simp at e8;done)) (fun e8=>?_);try simp only[e8]
  have qe8:=fact e8;refine c54z ?_;refine .c9 [1,3,6] ?_;refine .rz ?_;refine c52z ?_;refine c4z ?_;exact .ret (.ex (hq:=by rfl))
end
def aV (vars:List BA):Prop:=∀x∈vars,isName (L8 x)∧sP x=false
theorem aV.n (h:aV vars):Names vars:=fun x hx=>(h x hx).1
theorem yW {vars:List BA}(hv:aV vars):∀{d:Nat} {e:Ex},GE vars d e→∀(h:c8),CB 111 [.agg (u7 e)] h (.bool true)
  | d,.leaf o n s,hg,h=>by
    rcases jZ.1 hg with ⟨rfl,h1,_,rfl⟩ | ⟨rfl,rfl,h1⟩
    · exact NB (vars:=vars) n h1
    · exact NC (vars:=vars) s (hv s h1).1 (hv s h1).2
  | 0,.un o a,hg,h=>hg.elim
  | 0,.bin o a b,hg,h=>hg.elim
  | d+1,.un o a,hg,h=>ND (vars:=vars) o a hg.1 (yW hv hg.2)
  | d+1,.bin o a b,hg,h=>NF (vars:=vars) o a b hg.1 (yW hv hg.2.1) (yW hv hg.2.2)
def mx (a b:Int):Int:=if b > a then b else a
def hgt:Ex→Int
  | .leaf ..=>0
  | .un o a=>mx 0 (if lX (.un o a) 0 then hgt a+1 else hgt a)+1
  | .bin o a b=>mx (mx 0 (if lX (.bin o a b) 0 then hgt a+1 else hgt a)) (if lX (.bin o a b) 1 then hgt b+1 else hgt b)
theorem uK:∀e:Ex,0≤hgt e∧hgt e≤2*(e.dep:Int)
  | .leaf ..=>⟨Int.le_refl _,by simp[hgt,Ex.dep]⟩
  | .un o a=>by have:=uK a;simp only[hgt,mx,Ex.dep];constructor<;>(repeat' split)<;>omega
  | .bin o a b=>by have:=uK a;have:=uK b;simp only[hgt,mx,Ex.dep];constructor<;>(repeat' split)<;>omega
section
attribute [local go_sem] fG dL cA jO jP eT mN eq_mk mO
theorem FA (o n:Int)(s:BA)(ho:o=1∨o=2):CB 112 [.agg (u7 (.leaf o n s))] h (.int .i64 (hgt (.leaf o n s))):=by
  refine .bz Tryz.f112 34 ?_;have hst:=(pG (o:=o) (by omega) (by omega)).2.2.1.2 ho;refine c87z ?_;refine c71z ?_;refine c110z ?_;refine c274z ?_;refine .spl 30 rfl rfl (fun e1=>by exfalso;first | omega | (replace e1:=s7z e1;omega) | (simp at e1;omega) | (simp at e1;done)) (fun e1=>?_);try simp only[e1]
  have qe1:=fact e1;refine c180z ?_;exact .ret (.ex (hq:=by rfl))
end
section
attribute [local go_sem] fG dL cA jO jP eT mN eq_mk mO
theorem FB (o:Int)(a:Ex)(ho:o=3∨o=4)(hd:a.dep≤1000)(hga:1≤a.op∧a.op≤17)(iha:∀(h:c8),CB 112 [.agg (u7 a)] h (.int .i64 (hgt a))):CB 112 [.agg (u7 (.un o a))] h (.int .i64 (hgt (.un o a))):=by
  refine .bz Tryz.f112 34 ?_;have hst:=(pG (o:=o) (by omega) (by omega)).2.2.2.2 ho;have hha:=uK a;refine c87z ?_;refine g6.rounds 2 ?_;refine c113z ?_;refine c144z ?_;refine .ca rfl rfl (T8 (by omega) hga) ?_;refine .nil ?_;refine u2z ?_ ?_
  ·intro e1 qe1;refine c1z ?_;refine c193z ?_;refine c110z ?_;refine c274z ?_;refine .spl 30 rfl rfl (fun e2=>?_) (fun e2=>by exfalso;first | omega | (replace e2:=s7z e2;omega) | (simp at e2;omega) | (simp at e2;done));try simp only[e2]
   have qe2:=fact e2;refine .T ?_;refine c1z ?_;refine .z ?_;exact .ret (.ex (hq:=t78))
  intro e1 qe1;refine .sk ?_;refine c70z ?_;change g6 _ _ _ _ _;refine c295z ?_;refine c14z ?_;refine c12z ?_;refine .seq ?_;refine c274z ?_;refine .spl 30 rfl rfl (fun e3=>?_) (fun e3=>by exfalso;first | omega | (replace e3:=s7z e3;omega) | (simp at e3;omega) | (simp at e3;done));try simp only[e3]
  have qe3:=fact e3;refine .T ?_;refine .c9 [3] ?_;refine c1z ?_;refine .z ?_;exact .ret (.ex (hq:=t78))
end
section
attribute [local go_sem] fG dL cA jO jP eT mN eq_mk mO
theorem FC (o:Int)(a b:Ex)(ho:5≤o∧o≤17)(hd:a.dep≤1000)(hd2:b.dep≤1000)(hga:1≤a.op∧a.op≤17)(hgb:1≤b.op∧b.op≤17)(iha:∀(h:c8),CB 112 [.agg (u7 a)] h (.int .i64 (hgt a)))(ihb:∀(h:c8),CB 112 [.agg (u7 b)] h (.int .i64 (hgt b))):CB 112 [.agg (u7 (.bin o a b))] h (.int .i64 (hgt (.bin o a b))):=by
  refine .bz Tryz.f112 34 ?_;have hst:=pG (o:=o) (by omega) (by omega);have hha:=uK a;have hhb:=uK b;refine c87z ?_;refine c210z ?_;refine c144z ?_;refine .ca rfl rfl (F8 (by omega) hga) ?_;refine .nil ?_;refine u2z ?_ ?_
  ·intro e1 qe1;refine c1z ?_;refine c122z ?_;refine c174z ?_;refine c144z ?_;refine .ca rfl rfl (uJ (by omega) hgb) ?_;refine .nil ?_;refine u2z ?_ ?_
   ·intro e2 qe2;refine c1z ?_;refine c193z ?_;refine c110z ?_;refine c274z ?_;refine .spl 30 rfl rfl (fun e3=>by exfalso;first | omega | (replace e3:=s7z e3;omega) | (simp at e3;omega) | (simp at e3;done)) (fun e3=>?_);try simp only[e3]
    have qe3:=fact e3;refine c180z ?_;exact .ret (.ex (hq:=t78))
   intro e2 qe2;refine .sk ?_;refine c70z ?_;change g6 _ _ _ _ _;refine c295z ?_;refine c14z ?_;refine c12z ?_;refine .seq ?_;refine c274z ?_;refine .spl 30 rfl rfl (fun e4=>by exfalso;first | omega | (replace e4:=s7z e4;omega) | (simp at e4;omega) | (simp at e4;done)) (fun e4=>?_);try simp only[e4]
   have qe4:=fact e4;refine c22z ?_;refine c189z ?_;exact .ret (.ex (hq:=t78))
  intro e1 qe1;refine .sk ?_;refine c70z ?_;change g6 _ _ _ _ _;refine c295z ?_;refine c138z ?_;refine c5z ?_;refine c40z ?_;refine .ca rfl rfl (ihb _) ?_;refine c144z ?_;refine .ca rfl rfl (uJ (by omega) hgb) ?_;refine .nil ?_;refine u2z ?_ ?_
  ·intro e5 qe5;refine c1z ?_;refine c193z ?_;refine c110z ?_;refine c274z ?_;refine .spl 30 rfl rfl (fun e6=>by exfalso;first | omega | (replace e6:=s7z e6;omega) | (simp at e6;omega) | (simp at e6;done)) (fun e6=>?_);try simp only[e6]
   have qe6:=fact e6;refine c180z ?_;exact .ret (.ex (hq:=t78))
  intro e5 qe5;refine .sk ?_;refine c70z ?_;change g6 _ _ _ _ _;refine c295z ?_;refine c14z ?_;refine c12z ?_;refine .seq ?_;refine c274z ?_;refine .spl 30 rfl rfl (fun e7=>by exfalso;first | omega | (replace e7:=s7z e7;omega) | (simp at e7;omega) | (simp at e7;done)) (fun e7=>?_);try simp only[e7]
  have qe7:=fact e7;refine c22z ?_;refine c189z ?_;exact .ret (.ex (hq:=t78))
end
theorem sR {vars:List BA}:∀{d:Nat} {e:Ex},d≤100→GE vars d e→∀(h:c8),CB 112 [.agg (u7 e)] h (.int .i64 (hgt e))
  | d,.leaf o n s,hd,hg,h=>by have h':=jZ.1 hg;exact FA o n s (by omega)
  | 0,.un o a,hd,hg,h=>hg.elim
  | 0,.bin o a b,hd,hg,h=>hg.elim
  | d+1,.un o a,hd,hg,h=>FB o a hg.1 (by have:=hg.2.dep;omega) (GE.op hg.2) (sR (by omega) hg.2)
  | d+1,.bin o a b,hd,hg,h=>FC o a b hg.1 (by have:=hg.2.1.dep;omega) (by have:=hg.2.2.dep;omega) (GE.op hg.2.1) (GE.op hg.2.2) (sR (by omega) hg.2.1) (sR (by omega) hg.2.2)
theorem T9 (hv:aV vars){d:Nat}(hd:d≤12)(e:Ex)(hg:GE vars d e):CB 93 [.agg (u7 e)] h (.bool true):=by refine .bz Tryz.f93 10 ?_;have hh:=uK e;have hdp:=hg.dep;refine c261z ?_;refine .ca rfl rfl (yW hv hg _) ?_;refine .k 2 [(2,5)] ?_;refine .ca rfl rfl (sR (by omega) hg _) ?_;refine .m [(2,5)] ?_;exact .ret (.ex (hq:=by (exact congrArg AV.bool (decide_eq_true (by omega)))))
end Go.Proofs.YtapdldekgbbomaaGreatDoor
end
section
namespace Go.Proofs.YtapdldekgbbomaaGreatDoor
open Go.Ab Go.Un
theorem mx6:(6≤maxLen)=True:=by simp;decide
theorem mx3:(3≤maxLen)=True:=by simp;decide
def sgS (k:Int):List BA:=if k=0 then [(⟨#[124,124]⟩:BA)] else if k=1 then [(⟨#[38,38]⟩:BA)] else if k=2 then [(⟨#[61,61]⟩:BA),(⟨#[33,61]⟩:BA),(⟨#[60]⟩:BA),(⟨#[60,61]⟩:BA),(⟨#[62]⟩:BA),(⟨#[62,61]⟩:BA)] else if k=3 then [(⟨#[43]⟩:BA),(⟨#[45]⟩:BA)] else [(⟨#[42]⟩:BA),(⟨#[47]⟩:BA),(⟨#[37]⟩:BA)]
def sgO (k:Int):List Int:=if k=0 then [17] else if k=1 then [16] else if k=2 then [14,15,10,11,12,13] else if k=3 then [8,9] else [5,6,7]
theorem NG {k:Int}(h0:0≤k)(h4:k≤4):(sgS k).length=(sgO k).length∧(sgO k).length≤6:=by
  have hc:k=0∨k=1∨k=2∨k=3∨k=4:=by omega
  rcases hc with rfl | rfl | rfl | rfl | rfl<;>decide
variable {o:Int}
theorem NH (h:5≤o∧o≤17):∀i,i<(sgO (hU o)).length→(sgO (hU o)).getD i 0=o→(sgS (hU o)).getD i ByteArray.empty=L0 o:=by
  have hcases:o=5∨o=6∨o=7∨o=8∨o=9∨o=10∨o=11∨o=12∨o=13∨o=14∨o=15∨o=16∨o=17:=by omega
  rcases hcases with rfl | rfl | rfl | rfl | rfl | rfl | rfl | rfl | rfl | rfl | rfl | rfl | rfl<;>decide
theorem NI (h:5≤o∧o≤17):¬∀i,i<(sgO (hU o)).length→(sgO (hU o)).getD i 0≠o:=by
  have hcases:o=5∨o=6∨o=7∨o=8∨o=9∨o=10∨o=11∨o=12∨o=13∨o=14∨o=15∨o=16∨o=17:=by omega
  rcases hcases with rfl | rfl | rfl | rfl | rfl | rfl | rfl | rfl | rfl | rfl | rfl | rfl | rfl<;>decide
theorem sS (h:5≤o∧o≤17):0≤hU o∧hU o≤4:=by
  have hcases:o=5∨o=6∨o=7∨o=8∨o=9∨o=10∨o=11∨o=12∨o=13∨o=14∨o=15∨o=16∨o=17:=by omega
  rcases hcases with rfl | rfl | rfl | rfl | rfl | rfl | rfl | rfl | rfl | rfl | rfl | rfl | rfl<;>decide
variable {i:Nat}
theorem U0 {l:List Int}(h:∀d,d<i→l.getD d 0≠o)(e:l.getD i 0≠o):∀d,d<i+1→l.getD d 0≠o:=fun d hd=>by
  by_cases hdi:d=i
  · rw[hdi];exact e
  · exact h d (by omega)
theorem yX {a:Array UInt8}:(⟨a⟩:BA).size=a.size:=rfl
variable {h:c8}{a:Ex}{p:Bool}
theorem c_innU (hp:lX (.un o a) 0=p)(h1:1≤o∧o≤17)(h2:1≤a.op∧a.op≤17):CB 121 [.agg [.int .i64 o,.int .i64 0,.str ByteArray.empty,.vec 1 (u7 a)],.int .i64 0] h (.bool p):=by subst hp;exact T8 h1 h2
theorem c_inn0 {b:Ex}(hp:lX (.bin o a b) 0=p)(h1:1≤o∧o≤17)(h2:1≤a.op∧a.op≤17):CB 121 [.agg [.int .i64 o,.int .i64 0,.str ByteArray.empty,.vec 2 (u7 a++u7 b)],.int .i64 0] h (.bool p):=by subst hp;exact F8 h1 h2
theorem c_inn1 {b:Ex}(hp:lX (.bin o a b) 1=p)(h1:1≤o∧o≤17)(h2:1≤b.op∧b.op≤17):CB 121 [.agg [.int .i64 o,.int .i64 0,.str ByteArray.empty,.vec 2 (u7 a++u7 b)],.int .i64 1] h (.bool p):=by subst hp;exact uJ h1 h2
attribute [local go_sem] g8 rd nI w3 o8 bY cR l7 Int.natCast_nonneg Int.natCast_inj List.length_map wrap64 AO wrapU eT I6 vZ A5 I7 nH max2 kC mx6 mx3 yX bB fG dL cA jO jP mN eq_mk mO nR wM Nat.reduceMul
theorem c_signs (k:Int):CB 122 [.int .i64 k] h (.tup [.vec (sgS k).length (p7 (sgS k)),.vec (sgO k).length (encI (sgO k))]):=by
  refine .bz Tryz.f122 23 ?_;refine c25z ?_;refine .z ?_;refine u2z ?_ ?_
  ·intro e1 qe1;refine .z ?_;exact .ret (.ex (hf:=t46) (hq:=t141))
  intro e1 qe1;refine .z ?_;refine u2z ?_ ?_
  ·intro e2 qe2;refine c4z ?_;exact .ret (.ex (hf:=t46) (hq:=t141))
  intro e2 qe2;refine .z ?_;refine u2z ?_ ?_
  ·intro e3 qe3;refine c4z ?_;exact .ret (.ex (hf:=t46) (hq:=t141))
  intro e3 qe3;refine .c9 [4] ?_;refine .z ?_;refine u2z ?_ ?_
  ·intro e4 qe4;refine .z ?_;exact .ret (.ex (hf:=t46) (hq:=t141))
  intro e4 qe4;refine c8z ?_;refine .z ?_;exact .ret (.ex (hf:=t46) (hq:=t141))
theorem c_text1 (n:Int)(h0:0≤n)(h1:n<4611686018427387904):CB 114 [.agg (u7 (.leaf 1 n ByteArray.empty))] h (.str (cX (.leaf 1 n ByteArray.empty))):=by refine .bz Tryz.f114 95 ?_;refine c87z ?_;refine c71z ?_;refine c275z ?_;refine .T ?_;refine c45z ?_;refine .ca rfl rfl (c_num _ (by omega) (by omega)) ?_;refine .n ?_;exact .ret (.ex (hq:=by (rw[AI,if_neg (by omega)];rfl)))
theorem c_text2 (n:Int)(s:BA):CB 114 [.agg (u7 (.leaf 2 n s))] h (.str (cX (.leaf 2 n s))):=by refine .bz Tryz.f114 95 ?_;refine c87z ?_;refine c71z ?_;refine .sb ?_;refine .c9 [1,3] ?_;refine c14z ?_;refine c138z ?_;refine c306z ?_;exact .ret (.ex (hq:=by rfl))
theorem c_textU (o:Int)(a:Ex)(ho:o=3∨o=4)(hga:1≤a.op∧a.op≤17)(iha:∀(h:c8),CB 114 [.agg (u7 a)] h (.str (cX a)))(hsa:(cX a).size<1000000):CB 114 [.agg (u7 (.un o a))] h (.str (cX (.un o a))):=by
  refine .bz Tryz.f114 95 ?_;refine c87z ?_;refine g6.rounds 2 ?_;refine c113z ?_;refine c144z ?_;refine .ca rfl rfl (c_innU rfl (by omega) hga) ?_;refine .nil ?_;refine u2z ?_ ?_
  ·intro e1 qe1;refine c1z ?_;refine c277z ?_;refine .spl 32 rfl rfl (fun e2=>by exfalso;first | omega | (replace e2:=s7z e2;omega) | (simp at e2;omega) | (simp at e2;done)) (fun e2=>?_);try simp only[e2]
   have qe2:=fact e2;refine c188z ?_;refine .spl 39 rfl rfl (fun e3=>by exfalso;first | omega | (replace e3:=s7z e3;omega) | (simp at e3;omega) | (simp at e3;done)) (fun e3=>?_);try simp only[e3]
   have qe3:=fact e3;refine .F ?_;refine c95z ?_;refine u2z ?_ ?_
   ·intro e4 qe4;refine .z ?_;exact .ret (.ex (hq:=t198))
   intro e4 qe4;refine .z ?_;refine .spl 53 rfl rfl (fun e5=>?_) (fun e5=>by exfalso;first | omega | (replace e5:=s7z e5;omega) | (simp at e5;omega) | (simp at e5;done));try simp only[e5]
   have qe5:=fact e5;refine .T ?_;refine c189z ?_;exact .ret (.ex (hq:=t198))
  intro e1 qe1;refine .sk ?_;refine c277z ?_;refine .spl 32 rfl rfl (fun e6=>by exfalso;first | omega | (replace e6:=s7z e6;omega) | (simp at e6;omega) | (simp at e6;done)) (fun e6=>?_);try simp only[e6]
  have qe6:=fact e6;refine c188z ?_;refine .spl 39 rfl rfl (fun e7=>by exfalso;first | omega | (replace e7:=s7z e7;omega) | (simp at e7;omega) | (simp at e7;done)) (fun e7=>?_);try simp only[e7]
  have qe7:=fact e7;refine .F ?_;refine c95z ?_;refine u2z ?_ ?_
  ·intro e8 qe8;refine .z ?_;exact .ret (.ex (hq:=t198))
  intro e8 qe8;refine .z ?_;refine .spl 53 rfl rfl (fun e9=>?_) (fun e9=>by exfalso;first | omega | (replace e9:=s7z e9;omega) | (simp at e9;omega) | (simp at e9;done));try simp only[e9]
  have qe9:=fact e9;refine .T ?_;refine c189z ?_;exact .ret (.ex (hq:=t198))
theorem FD (o:Int)(a b:Ex)(ho:5≤o∧o≤17)(hga:1≤a.op∧a.op≤17)(hgb:1≤b.op∧b.op≤17)(hp:lX (.bin o a b) 0=true)(hq:lX (.bin o a b) 1=true)(iha:∀(h:c8),CB 114 [.agg (u7 a)] h (.str (cX a)))(hsa:(cX a).size<1000000)(ihb:∀(h:c8),CB 114 [.agg (u7 b)] h (.str (cX b)))(hsb:(cX b).size<1000000):CB 114 [.agg (u7 (.bin o a b))] h (.str (cX (.bin o a b))):=by
  refine .bz Tryz.f114 95 ?_;have hst:=sS ho;have hsg:=NG hst.1 hst.2;have hsa2:=NH ho;have hse:=(tY ho).2;refine c87z ?_;refine c210z ?_;refine c181z ?_;refine .nil ?_;refine .T ?_;refine c1z ?_;refine c122z ?_;refine c174z ?_;refine c182z ?_;refine .nil ?_;refine .T ?_;refine c1z ?_;refine c277z ?_;refine .spl 32 rfl rfl (fun e1=>by exfalso;first | omega | (replace e1:=s7z e1;omega) | (simp at e1;omega) | (simp at e1;done)) (fun e1=>?_);try simp only[e1]
  have qe1:=fact e1;refine c188z ?_;refine .spl 39 rfl rfl (fun e2=>by exfalso;first | omega | (replace e2:=s7z e2;omega) | (simp at e2;omega) | (simp at e2;done)) (fun e2=>?_);try simp only[e2]
  have qe2:=fact e2;refine .F ?_;refine c95z ?_;refine .spl 45 rfl rfl (fun e3=>by exfalso;first | omega | (replace e3:=s7z e3;omega) | (simp at e3;omega) | (simp at e3;done)) (fun e3=>?_);try simp only[e3]
  have qe3:=fact e3;refine c188z ?_;refine .spl 53 rfl rfl (fun e4=>by exfalso;first | omega | (replace e4:=s7z e4;omega) | (simp at e4;omega) | (simp at e4;done)) (fun e4=>?_);try simp only[e4]
  have qe4:=fact e4;refine c54z ?_;refine c312z ?_;refine c296z ?_;refine .jE (fun m st=>∃(i:Nat),(m=(sgO (hU o)).length-i∧((∀d,d<i→(sgO (hU o)).getD d 0≠o)∧i≤(sgO (hU o)).length))∧st=⟨mkS 95 [(1,AV.ptr h.length 0 0),(3,AV.own (h.length+2) 1 0 2),(6,AV.vec (sgS (hU o)).length (p7 (sgS (hU o)))),(7,AV.vec (sgO (hU o)).length (encI (sgO (hU o)))),(8,AV.int .i64 ((i:Nat):Int))],h++[⟨0,false,100,4,[.int .i64 o,.int .i64 0,.str ByteArray.empty,.vec 2 (u7 a++u7 b)],0⟩,⟨0,false,9,1,[.str (⟨#[40]⟩++cX a++⟨#[41]⟩)],0⟩,⟨1,false,9,1,[.str (⟨#[40]⟩++cX a++⟨#[41]⟩),.str (⟨#[40]⟩++cX b++⟨#[41]⟩)],0⟩,⟨0,false,9,1,[.str (⟨#[40]⟩++cX b++⟨#[41]⟩)],0⟩]⟩) _ (.v ⟨0,⟨rfl,⟨t104,by omega⟩⟩,rfl⟩) ?_;rintro m sl h' ⟨i,⟨hm,⟨hI,hi⟩⟩,hst⟩;obtain ⟨rfl,rfl⟩:=St.mk.inj hst;refine c0z ?_;refine u2z ?_ ?_
  ·intro e5 qe5;refine c5z ?_;refine c170z ?_;refine u2z ?_ ?_
   ·intro e6 qe6;refine .c9 [3,6,8] ?_;have hsi:=hsa2 i (by omega) (by assumption);have hss:((sgS (hU o)).getD i ByteArray.empty).size≤2:=by rw[hsi];exact hse
    refine c90z ?_;refine .n [] ?_;exact .ret (.ex (hq:=t175))
   intro e6 qe6;refine c266z ?_;refine .rz ?_;exact ⟨_,by omega,.v ⟨(i+1),⟨rfl,⟨U0 hI (by assumption),by omega⟩⟩,rfl⟩⟩
  intro e5 qe5;refine .exit ?_;exfalso;exact NI ho (fun d hd=>hI d (by omega))
theorem FE (o:Int)(a b:Ex)(ho:5≤o∧o≤17)(hga:1≤a.op∧a.op≤17)(hgb:1≤b.op∧b.op≤17)(hp:lX (.bin o a b) 0=true)(hq:lX (.bin o a b) 1=false)(iha:∀(h:c8),CB 114 [.agg (u7 a)] h (.str (cX a)))(hsa:(cX a).size<1000000)(ihb:∀(h:c8),CB 114 [.agg (u7 b)] h (.str (cX b)))(hsb:(cX b).size<1000000):CB 114 [.agg (u7 (.bin o a b))] h (.str (cX (.bin o a b))):=by
  refine .bz Tryz.f114 95 ?_;have hst:=sS ho;have hsg:=NG hst.1 hst.2;have hsa2:=NH ho;have hse:=(tY ho).2;refine c87z ?_;refine c210z ?_;refine c181z ?_;refine .nil ?_;refine .T ?_;refine c1z ?_;refine c122z ?_;refine c174z ?_;refine c182z ?_;refine .nil ?_;refine c22z ?_;refine c277z ?_;refine .spl 32 rfl rfl (fun e1=>by exfalso;first | omega | (replace e1:=s7z e1;omega) | (simp at e1;omega) | (simp at e1;done)) (fun e1=>?_);try simp only[e1]
  have qe1:=fact e1;refine c188z ?_;refine .spl 39 rfl rfl (fun e2=>by exfalso;first | omega | (replace e2:=s7z e2;omega) | (simp at e2;omega) | (simp at e2;done)) (fun e2=>?_);try simp only[e2]
  have qe2:=fact e2;refine .F ?_;refine c95z ?_;refine .spl 45 rfl rfl (fun e3=>by exfalso;first | omega | (replace e3:=s7z e3;omega) | (simp at e3;omega) | (simp at e3;done)) (fun e3=>?_);try simp only[e3]
  have qe3:=fact e3;refine c188z ?_;refine .spl 53 rfl rfl (fun e4=>by exfalso;first | omega | (replace e4:=s7z e4;omega) | (simp at e4;omega) | (simp at e4;done)) (fun e4=>?_);try simp only[e4]
  have qe4:=fact e4;refine c54z ?_;refine c312z ?_;refine c296z ?_;refine .jE (fun m st=>∃(i:Nat),(m=(sgO (hU o)).length-i∧((∀d,d<i→(sgO (hU o)).getD d 0≠o)∧i≤(sgO (hU o)).length))∧st=⟨mkS 95 [(1,AV.ptr h.length 0 0),(3,AV.own (h.length+2) 1 0 2),(6,AV.vec (sgS (hU o)).length (p7 (sgS (hU o)))),(7,AV.vec (sgO (hU o)).length (encI (sgO (hU o)))),(8,AV.int .i64 ((i:Nat):Int))],h++[⟨0,false,100,4,[.int .i64 o,.int .i64 0,.str ByteArray.empty,.vec 2 (u7 a++u7 b)],0⟩,⟨0,false,9,1,[.str (⟨#[40]⟩++cX a++⟨#[41]⟩)],0⟩,⟨1,false,9,1,[.str (⟨#[40]⟩++cX a++⟨#[41]⟩),.str (cX b)],0⟩,⟨0,false,9,1,[.str (cX b)],0⟩]⟩) _ (.v ⟨0,⟨rfl,⟨t104,by omega⟩⟩,rfl⟩) ?_;rintro m sl h' ⟨i,⟨hm,⟨hI,hi⟩⟩,hst⟩;obtain ⟨rfl,rfl⟩:=St.mk.inj hst;refine c0z ?_;refine u2z ?_ ?_
  ·intro e5 qe5;refine c5z ?_;refine c170z ?_;refine u2z ?_ ?_
   ·intro e6 qe6;refine .c9 [3,6,8] ?_;have hsi:=hsa2 i (by omega) (by assumption);have hss:((sgS (hU o)).getD i ByteArray.empty).size≤2:=by rw[hsi];exact hse
    refine c90z ?_;refine .n [] ?_;exact .ret (.ex (hq:=t175))
   intro e6 qe6;refine c266z ?_;refine .rz ?_;exact ⟨_,by omega,.v ⟨(i+1),⟨rfl,⟨U0 hI (by assumption),by omega⟩⟩,rfl⟩⟩
  intro e5 qe5;refine .exit ?_;exfalso;exact NI ho (fun d hd=>hI d (by omega))
theorem FF (o:Int)(a b:Ex)(ho:5≤o∧o≤17)(hga:1≤a.op∧a.op≤17)(hgb:1≤b.op∧b.op≤17)(hp:lX (.bin o a b) 0=false)(hq:lX (.bin o a b) 1=true)(iha:∀(h:c8),CB 114 [.agg (u7 a)] h (.str (cX a)))(hsa:(cX a).size<1000000)(ihb:∀(h:c8),CB 114 [.agg (u7 b)] h (.str (cX b)))(hsb:(cX b).size<1000000):CB 114 [.agg (u7 (.bin o a b))] h (.str (cX (.bin o a b))):=by
  refine .bz Tryz.f114 95 ?_;have hst:=sS ho;have hsg:=NG hst.1 hst.2;have hsa2:=NH ho;have hse:=(tY ho).2;refine c87z ?_;refine c210z ?_;refine c181z ?_;refine .nil ?_;refine c22z ?_;refine c122z ?_;refine c174z ?_;refine c182z ?_;refine .nil ?_;refine .T ?_;refine c1z ?_;refine c277z ?_;refine .spl 32 rfl rfl (fun e1=>by exfalso;first | omega | (replace e1:=s7z e1;omega) | (simp at e1;omega) | (simp at e1;done)) (fun e1=>?_);try simp only[e1]
  have qe1:=fact e1;refine c188z ?_;refine .spl 39 rfl rfl (fun e2=>by exfalso;first | omega | (replace e2:=s7z e2;omega) | (simp at e2;omega) | (simp at e2;done)) (fun e2=>?_);try simp only[e2]
  have qe2:=fact e2;refine .F ?_;refine c95z ?_;refine .spl 45 rfl rfl (fun e3=>by exfalso;first | omega | (replace e3:=s7z e3;omega) | (simp at e3;omega) | (simp at e3;done)) (fun e3=>?_);try simp only[e3]
  have qe3:=fact e3;refine c188z ?_;refine .spl 53 rfl rfl (fun e4=>by exfalso;first | omega | (replace e4:=s7z e4;omega) | (simp at e4;omega) | (simp at e4;done)) (fun e4=>?_);try simp only[e4]
  have qe4:=fact e4;refine c54z ?_;refine c312z ?_;refine c296z ?_;refine .jE (fun m st=>∃(i:Nat),(m=(sgO (hU o)).length-i∧((∀d,d<i→(sgO (hU o)).getD d 0≠o)∧i≤(sgO (hU o)).length))∧st=⟨mkS 95 [(1,AV.ptr h.length 0 0),(3,AV.own (h.length+2) 1 0 2),(6,AV.vec (sgS (hU o)).length (p7 (sgS (hU o)))),(7,AV.vec (sgO (hU o)).length (encI (sgO (hU o)))),(8,AV.int .i64 ((i:Nat):Int))],h++[⟨0,false,100,4,[.int .i64 o,.int .i64 0,.str ByteArray.empty,.vec 2 (u7 a++u7 b)],0⟩,⟨0,false,9,1,[.str (cX a)],0⟩,⟨1,false,9,1,[.str (cX a),.str (⟨#[40]⟩++cX b++⟨#[41]⟩)],0⟩,⟨0,false,9,1,[.str (⟨#[40]⟩++cX b++⟨#[41]⟩)],0⟩]⟩) _ (.v ⟨0,⟨rfl,⟨t104,by omega⟩⟩,rfl⟩) ?_;rintro m sl h' ⟨i,⟨hm,⟨hI,hi⟩⟩,hst⟩;obtain ⟨rfl,rfl⟩:=St.mk.inj hst;refine c0z ?_;refine u2z ?_ ?_
  ·intro e5 qe5;refine c5z ?_;refine c170z ?_;refine u2z ?_ ?_
   ·intro e6 qe6;refine .c9 [3,6,8] ?_;have hsi:=hsa2 i (by omega) (by assumption);have hss:((sgS (hU o)).getD i ByteArray.empty).size≤2:=by rw[hsi];exact hse
    refine c90z ?_;refine .n [] ?_;exact .ret (.ex (hq:=t175))
   intro e6 qe6;refine c266z ?_;refine .rz ?_;exact ⟨_,by omega,.v ⟨(i+1),⟨rfl,⟨U0 hI (by assumption),by omega⟩⟩,rfl⟩⟩
  intro e5 qe5;refine .exit ?_;exfalso;exact NI ho (fun d hd=>hI d (by omega))
theorem FG (o:Int)(a b:Ex)(ho:5≤o∧o≤17)(hga:1≤a.op∧a.op≤17)(hgb:1≤b.op∧b.op≤17)(hp:lX (.bin o a b) 0=false)(hq:lX (.bin o a b) 1=false)(iha:∀(h:c8),CB 114 [.agg (u7 a)] h (.str (cX a)))(hsa:(cX a).size<1000000)(ihb:∀(h:c8),CB 114 [.agg (u7 b)] h (.str (cX b)))(hsb:(cX b).size<1000000):CB 114 [.agg (u7 (.bin o a b))] h (.str (cX (.bin o a b))):=by
  refine .bz Tryz.f114 95 ?_;have hst:=sS ho;have hsg:=NG hst.1 hst.2;have hsa2:=NH ho;have hse:=(tY ho).2;refine c87z ?_;refine c210z ?_;refine c181z ?_;refine .nil ?_;refine c22z ?_;refine c122z ?_;refine c174z ?_;refine c182z ?_;refine .nil ?_;refine c22z ?_;refine c277z ?_;refine .spl 32 rfl rfl (fun e1=>by exfalso;first | omega | (replace e1:=s7z e1;omega) | (simp at e1;omega) | (simp at e1;done)) (fun e1=>?_);try simp only[e1]
  have qe1:=fact e1;refine c188z ?_;refine .spl 39 rfl rfl (fun e2=>by exfalso;first | omega | (replace e2:=s7z e2;omega) | (simp at e2;omega) | (simp at e2;done)) (fun e2=>?_);try simp only[e2]
  have qe2:=fact e2;refine .F ?_;refine c95z ?_;refine .spl 45 rfl rfl (fun e3=>by exfalso;first | omega | (replace e3:=s7z e3;omega) | (simp at e3;omega) | (simp at e3;done)) (fun e3=>?_);try simp only[e3]
  have qe3:=fact e3;refine c188z ?_;refine .spl 53 rfl rfl (fun e4=>by exfalso;first | omega | (replace e4:=s7z e4;omega) | (simp at e4;omega) | (simp at e4;done)) (fun e4=>?_);try simp only[e4]
  have qe4:=fact e4;refine c54z ?_;refine c312z ?_;refine c296z ?_;refine .jE (fun m st=>∃(i:Nat),(m=(sgO (hU o)).length-i∧((∀d,d<i→(sgO (hU o)).getD d 0≠o)∧i≤(sgO (hU o)).length))∧st=⟨mkS 95 [(1,AV.ptr h.length 0 0),(3,AV.own (h.length+2) 1 0 2),(6,AV.vec (sgS (hU o)).length (p7 (sgS (hU o)))),(7,AV.vec (sgO (hU o)).length (encI (sgO (hU o)))),(8,AV.int .i64 ((i:Nat):Int))],h++[⟨0,false,100,4,[.int .i64 o,.int .i64 0,.str ByteArray.empty,.vec 2 (u7 a++u7 b)],0⟩,⟨0,false,9,1,[.str (cX a)],0⟩,⟨1,false,9,1,[.str (cX a),.str (cX b)],0⟩,⟨0,false,9,1,[.str (cX b)],0⟩]⟩) _ (.v ⟨0,⟨rfl,⟨t104,by omega⟩⟩,rfl⟩) ?_;rintro m sl h' ⟨i,⟨hm,⟨hI,hi⟩⟩,hst⟩;obtain ⟨rfl,rfl⟩:=St.mk.inj hst;refine c0z ?_;refine u2z ?_ ?_
  ·intro e5 qe5;refine c5z ?_;refine c170z ?_;refine u2z ?_ ?_
   ·intro e6 qe6;refine .c9 [3,6,8] ?_;have hsi:=hsa2 i (by omega) (by assumption);have hss:((sgS (hU o)).getD i ByteArray.empty).size≤2:=by rw[hsi];exact hse
    refine c90z ?_;refine .n [] ?_;exact .ret (.ex (hq:=t175))
   intro e6 qe6;refine c266z ?_;refine .rz ?_;exact ⟨_,by omega,.v ⟨(i+1),⟨rfl,⟨U0 hI (by assumption),by omega⟩⟩,rfl⟩⟩
  intro e5 qe5;refine .exit ?_;exfalso;exact NI ho (fun d hd=>hI d (by omega))
theorem c_textB (o:Int)(a b:Ex)(ho:5≤o∧o≤17)(hga:1≤a.op∧a.op≤17)(hgb:1≤b.op∧b.op≤17)(iha:∀(h:c8),CB 114 [.agg (u7 a)] h (.str (cX a)))(hsa:(cX a).size<1000000)(ihb:∀(h:c8),CB 114 [.agg (u7 b)] h (.str (cX b)))(hsb:(cX b).size<1000000):CB 114 [.agg (u7 (.bin o a b))] h (.str (cX (.bin o a b))):=by
  cases hp:lX (.bin o a b) 0<;>cases hq:lX (.bin o a b) 1
  · exact FG o a b ho hga hgb hp hq iha hsa ihb hsb
  · exact FF o a b ho hga hgb hp hq iha hsa ihb hsb
  · exact FE o a b ho hga hgb hp hq iha hsa ihb hsb
  · exact FD o a b ho hga hgb hp hq iha hsa ihb hsb
theorem M3:∀{d:Nat},d≤3→A4 d<1000000
  | 0,_=>by decide
  | 1,_=>by decide
  | 2,_=>by decide
  | 3,_=>by decide
theorem uL {vars:List BA}(hv:Names vars):∀{d:Nat} {e:Ex},d≤3→GE vars d e→∀(h:c8),CB 114 [.agg (u7 e)] h (.str (cX e))
  | d,.leaf o n s,hd,hg,h=>by
    rcases jZ.1 hg with ⟨rfl,h1,h2,rfl⟩ | ⟨rfl,rfl,h1⟩
    · exact c_text1 n h1 h2
    · exact c_text2 0 s
  | 0,.un o a,hd,hg,h=>hg.elim
  | 0,.bin o a b,hd,hg,h=>hg.elim
  | d+1,.un o a,hd,hg,h=>c_textU o a hg.1 (GE.op hg.2) (uL hv (by omega) hg.2) (Nat.lt_of_le_of_lt (dA hv hg.2).2 (M3 (by omega)))
  | d+1,.bin o a b,hd,hg,h=>c_textB o a b hg.1 (GE.op hg.2.1) (GE.op hg.2.2) (uL hv (by omega) hg.2.1) (Nat.lt_of_le_of_lt (dA hv hg.2.1).2 (M3 (by omega))) (uL hv (by omega) hg.2.2) (Nat.lt_of_le_of_lt (dA hv hg.2.2).2 (M3 (by omega)))
theorem FH {e:Ex}:n9 [e]=u7 e:=by simp[n9]
theorem FI (x:BA):CB 116 [.agg [.str x,.vec 0 []]] h (.str x):=by refine .bz Tryz.f116 19 ?_;refine c82z ?_;refine .T ?_;refine .z ?_;exact .ret (.ex (hq:=by rfl))
variable {vars:List BA}
theorem c_refT1 (hv:Names vars)(x:BA)(e:Ex)(hg:GE vars 1 e)(hx:x.size≤16):CB 116 [.agg [.str x,.vec 1 (u7 e)]] h (.str (x++JW++cX e++JX)):=by refine .bz Tryz.f116 19 ?_;have hse:=(dA hv hg).2;have hb:A4 1=48:=rfl;refine c82z ?_;refine c22z ?_;refine .ss w7 (mkP 11 [0,1,3,0,8,24,56,120,255,511,1023] []) ?_;refine .k 7 [] ?_;refine .ca rfl rfl (uL hv (by omega) hg _) ?_;refine .n [] ?_;exact .ret (.ex (hq:=by rfl))
variable {E:Env}
theorem U1 (hE:sH E)(hv:Names vars){r:Rf}(g:GR E vars r):CB 116 [.agg (wH r)] h (.str (JY r)):=by
  obtain ⟨x,idx⟩:=r;rcases g with ⟨m,hm,hn,⟨_,e,hi,he⟩ | ⟨_,hi⟩⟩ | ⟨p,hp,_,hn,hi⟩
  · have hx:=aP (hE.mn m hm)
    simp only at hn hi;rw[←hn]at hx;subst hi;have:=c_refT1 (h:=h) hv x e he hx;simp only[wH,List.length_singleton,FH];exact this
  · simp only at hi
    subst hi;exact FI x
  · simp only at hi
    subst hi;exact FI x
variable {xs:List Ar}
theorem NJ (h:(xs.getD i dX).mu=true)(h0:0<i):eZ xs (i+1)=eZ xs i++lY++cC++JY (xs.getD i dX).r:=by rw[eZ,if_pos h,if_pos h0]
theorem NK (h:(xs.getD i dX).mu=true)(h0:¬0<i):eZ xs (i+1)=eZ xs i++cC++JY (xs.getD i dX).r:=by rw[eZ,if_pos h,if_neg h0]
theorem NL (h:(xs.getD i dX).mu=false)(h0:0<i):eZ xs (i+1)=eZ xs i++lY++cX (xs.getD i dX).e:=by rw[eZ,if_neg t201,if_pos h0]
theorem NM (h:(xs.getD i dX).mu=false)(h0:¬0<i):eZ xs (i+1)=eZ xs i++cX (xs.getD i dX).e:=by rw[eZ,if_neg t201,if_neg h0]
theorem uM {a:Ar}:D9 a=[.bool a.mu,.str a.r.name,.vec a.r.idx.length (n9 a.r.idx),.int .i64 a.e.op,.int .i64 a.e.num,.str a.e.name,.vec a.e.args.length (n9 a.e.args)]:=by rw[D9,aI]
variable {l:List Ar}
theorem NN (h:i<l.length):List.take 1 (List.drop (i*7) (aH l))=[AV.bool (l.getD i dX).mu]:=by have:=congrArg (fun x=>x.take 1) (tV h);simp only[List.take_take,uM]at this;simpa using this
theorem read_ar (h:i<l.length):List.take 2 (List.drop (i*7+1) (aH l))=wH (l.getD i dX).r:=by have:=congrArg (fun x=>(x.drop 1).take 2) (tV h);simp only[uM,List.drop_take,List.take_take,List.drop_drop]at this;simpa [wH] using this
theorem read_ae (h:i<l.length):List.take 4 (List.drop (i*7+3) (aH l))=u7 (l.getD i dX).e:=by have:=congrArg (fun x=>(x.drop 3).take 4) (tV h);simp only[uM,List.drop_take,List.take_take,List.drop_drop]at this;rw[aI];simpa using this
theorem AQ (hE:sH E)(hv:Names vars)(h:∀a∈xs,(a.mu=true∧GR E vars a.r)∨(a.mu=false∧GE vars 2 a.e))(i:Nat)(hi:i≤xs.length):(eZ xs i).size≤1+112*i:=(yN hE hv h i hi).2.1
theorem RK (h:∀a∈xs,(a.mu=true∧GR E vars a.r)∨(a.mu=false∧GE vars 2 a.e))(hi:i<xs.length):((xs.getD i dX).mu=true→GR E vars (xs.getD i dX).r)∧((xs.getD i dX).mu=false→GE vars 2 (xs.getD i dX).e):=by
  have hm:=h _ (l6 (d:=dX) hi);rcases hm with ⟨h1,h2⟩ | ⟨h1,h2⟩
  · exact ⟨fun _=>h2,fun h=>absurd (h1.symm.trans h) (by decide)⟩
  · exact ⟨fun h=>absurd (h1.symm.trans h) (by decide),fun _=>h2⟩
section
attribute [local go_sem] NN read_ar read_ae
theorem FJ (hE:sH E)(hv:Names vars)(xs:List Ar)(ha:∀a∈xs,(a.mu=true∧GR E vars a.r)∨(a.mu=false∧GE vars 2 a.e))(hl:xs.length≤100):CB 115 [.vec xs.length (aH xs)] h (.str (QT xs)):=by
  refine .bz Tryz.f115 39 ?_;refine c87z ?_;refine .jE (fun m st=>∃(i:Nat),(m=xs.length-i∧i≤xs.length)∧st=⟨mkS 39 [(0,AV.vec xs.length (aH xs)),(3,AV.str (eZ xs i)),(4,AV.int .i64 ((i:Nat):Int))],h⟩) _ (.v ⟨0,⟨rfl,by omega⟩,rfl⟩ (hs:=t35)) ?_;rintro m sl h' ⟨i,⟨hm,hi⟩,hst⟩;obtain ⟨rfl,rfl⟩:=St.mk.inj hst;have hsz:=AQ hE hv ha i hi;refine c0z ?_;refine u2z ?_ ?_
  ·intro e1 qe1;refine c5z ?_;refine c0z ?_;refine u2z ?_ ?_
   ·intro e2 qe2;refine c1z ?_;refine .c9 [0,3,4] ?_;have har:=RK ha (i:=i) (by omega);refine .z ?_;refine u2z ?_ ?_
    ·intro e3 qe3;have hrs:=((har.1 (by assumption)).pw hE hv).2;refine .r ?_;refine .e 7 ?_;refine .ca rfl rfl (U1 hE hv (har.1 (by assumption))) ?_;refine c297z ?_;refine .rz ?_;exact ⟨_,by omega,.v ⟨(i+1),⟨rfl,by omega⟩,rfl⟩ (hs:=t35)⟩
    intro e3 qe3;have hes:=(dA hv (har.2 (by assumption))).2;have hb:A4 2=104:=rfl;refine .r ?_;refine .e 6 ?_;refine .ca rfl rfl (uL hv (by omega) (har.2 (by assumption)) _) ?_;refine c297z ?_;refine .rz ?_;exact ⟨_,by omega,.v ⟨(i+1),⟨rfl,by omega⟩,rfl⟩ (hs:=t35)⟩
   intro e2 qe2;refine .sk ?_;have har:=RK ha (i:=i) (by omega);refine .z ?_;refine u2z ?_ ?_
   ·intro e4 qe4;refine .c9 [0,3,4] ?_;have hrs:=((har.1 (by assumption)).pw hE hv).2;refine .r ?_;refine .e 7 ?_;refine .ca rfl rfl (U1 hE hv (har.1 (by assumption))) ?_;refine c297z ?_;refine .rz ?_;exact ⟨_,by omega,.v ⟨(i+1),⟨rfl,by omega⟩,rfl⟩ (hs:=t35)⟩
   intro e4 qe4;refine .c9 [0,3,4] ?_;have hes:=(dA hv (har.2 (by assumption))).2;have hb:A4 2=104:=rfl;refine .r ?_;refine .e 6 ?_;refine .ca rfl rfl (uL hv (by omega) (har.2 (by assumption)) _) ?_;refine c297z ?_;refine .rz ?_;exact ⟨_,by omega,.v ⟨(i+1),⟨rfl,by omega⟩,rfl⟩ (hs:=t35)⟩
  intro e1 qe1;refine .exit ?_;obtain rfl:i=xs.length:=by omega
  change g6 ..;refine c43z ?_;exact ⟨[],_,(List.append_nil _).symm,t66,by rfl⟩
end
section
attribute [local go_sem] l4
theorem c_noE:CB 94 [.agg (u7 l4)] h (.bool true):=by refine .bz Tryz.f94 22 ?_;refine c73z ?_;refine .k 8 [(3,6)] ?_;refine .k 8 [(8,11),(13,16)] ?_;refine .m [(13,16)] ?_;exact .ret (.ex (hq:=by rfl))
end
theorem c_noR:CB 96 [.agg (wH n5)] h (.bool true):=by show CallA _ _ _ [.agg [.str ByteArray.empty,.vec 0 []]] _ _;refine .bz Tryz.f96 12 ?_;refine c73z ?_;refine .k 8 [(3,6)] ?_;refine .n ?_;exact .ret (.ex (hq:=by rfl))
theorem RL (x:BA)(hx:isName (L8 x))(hr:sP x=false):CB 95 [.agg [.str x,.vec 0 []]] h (.bool true):=by refine .bz Tryz.f95 25 ?_;refine .z ?_;refine c45z ?_;refine .ca rfl rfl (mM _ hx hr) ?_;refine .k 8 [(3,6),(8,11)] ?_;refine .k 8 [(8,11),(13,16)] ?_;refine .m [(3,6),(8,11)] ?_;exact .ret (.ex (hq:=by rfl))
theorem c_okR1 (hv:aV vars)(x:BA)(hx:isName (L8 x))(hr:sP x=false)(e:Ex)(hg:GE vars 1 e):CB 95 [.agg [.str x,.vec 1 (u7 e)]] h (.bool true):=by refine .bz Tryz.f95 25 ?_;refine .z ?_;refine c45z ?_;refine .ca rfl rfl (mM _ hx hr) ?_;refine .k 8 [(3,6),(8,11)] ?_;refine .k 7 [(8,11),(13,16)] ?_;refine .ca rfl rfl (T9 hv (by omega) e hg) ?_;refine .m [(3,6),(8,11)] ?_;exact .ret (.ex (hq:=by rfl))
structure GRes (E:Env):Prop where
  mn:∀m∈E.c6,sP m.name=false
  pn:∀p∈E.params,sP p.name=false
theorem NO (hE:sH E)(hR:GRes E)(hv:aV vars){r:Rf}(g:GR E vars r):CB 95 [.agg (wH r)] h (.bool true):=by
  obtain ⟨x,idx⟩:=r;rcases g with ⟨m,hm,hn,⟨_,e,hi,he⟩ | ⟨_,hi⟩⟩ | ⟨p,hp,_,hn,hi⟩
  · have h1:=hE.mn m hm
    have h2:=hR.mn m hm;simp only at hn hi;rw[←hn]at h1 h2;subst hi;have:=c_okR1 (h:=h) hv x h1 h2 e he;simp only[wH,List.length_singleton,FH];exact this
  · have h1:=hE.mn m hm
    have h2:=hR.mn m hm;simp only at hn hi;rw[←hn]at h1 h2;subst hi;exact RL x h1 h2
  · have h1:=hE.pn p hp
    have h2:=hR.pn p hp;simp only at hn hi;rw[←hn]at h1 h2;subst hi;exact RL x h1 h2
end Go.Proofs.YtapdldekgbbomaaGreatDoor
end
section
namespace Go.Un
open Go.Ab
theorem bF:∀s:Sl,s.len≤s.wt
 | .nil=>Nat.le_refl _
 | .cons k n e r as1 th el rest=>by have:=bF rest;simp only[Sl.len,Sl.wt];omega
section
variable {c:Core}{ps:List Pm}{blk:List BA→Int→Int→Int→Int→BR}{vs:List BA}{deep J l:Int}
theorem RM (h:(c5 c.L J 14).1<4):o9 c ps blk vs deep J l=(row 5 ByteArray.empty l4 (l9 c ps vs (c5 c.L J 14).2).1 [] .nil .nil,vs,(l9 c ps vs (c5 c.L J 14).2).2,l):=by unfold o9 jN;rw[if_pos h]
theorem U2 (h0:¬(c5 c.L J 14).1<4)(h:(c5 c.L J 14).1<7):o9 c ps blk vs deep J l=(row 6 ByteArray.empty l4 (l9 c ps vs (c5 c.L J 14).2).1 [] .nil .nil,vs,(l9 c ps vs (c5 c.L J 14).2).2,l):=by unfold o9 jN;rw[if_neg h0,if_pos h]
theorem r_var (h:(c5 c.L J 14).1=7):o9 c ps blk vs deep J l=(row 1 (vnm l.toNat) (g5 c vs (c5 c.L J 14).2).1 n5 [] .nil .nil,vs++[vnm l.toNat],(g5 c vs (c5 c.L J 14).2).2,l):=by unfold o9 jN;rw[if_neg (by omega),if_neg (by omega),if_pos h]
theorem U3 (h:(c5 c.L J 14).1=8)(h2:0<vs.length):o9 c ps blk vs deep J l=(row 2 (vs.getD (c5 c.L (c5 c.L J 14).2 vs.length).1.toNat ByteArray.empty) (g5 c vs (c5 c.L (c5 c.L J 14).2 vs.length).2).1 n5 [] .nil .nil,vs,(g5 c vs (c5 c.L (c5 c.L J 14).2 vs.length).2).2,l):=by unfold o9 jN;rw[if_neg (by omega),if_neg (by omega),if_neg (by omega),if_pos ⟨h,h2⟩]
theorem RN (h:(c5 c.L J 14).1=9):o9 c ps blk vs deep J l=(row 3 (c.fs.getD (c5 c.L (c5 c.L J 14).2 c.fs.length).1.toNat j5).name l4 n5 (p6 c ps vs (c.fs.getD (c5 c.L (c5 c.L J 14).2 c.fs.length).1.toNat j5).params (c5 c.L (c5 c.L J 14).2 c.fs.length).2).1 .nil .nil,vs,
   (p6 c ps vs (c.fs.getD (c5 c.L (c5 c.L J 14).2 c.fs.length).1.toNat j5).params (c5 c.L (c5 c.L J 14).2 c.fs.length).2).2,l):=by
 unfold o9 jN;rw[if_neg (by omega),if_neg (by omega),if_neg (by omega),if_neg (by omega),if_pos (.inl h),if_neg (by omega)]
theorem r_go (h:(c5 c.L J 14).1=10):o9 c ps blk vs deep J l=(row 4 (c.fs.getD (c5 c.L (c5 c.L J 14).2 c.fs.length).1.toNat j5).name l4 n5 (p6 c ps vs (c.fs.getD (c5 c.L (c5 c.L J 14).2 c.fs.length).1.toNat j5).params (c5 c.L (c5 c.L J 14).2 c.fs.length).2).1 .nil .nil,vs,
   (p6 c ps vs (c.fs.getD (c5 c.L (c5 c.L J 14).2 c.fs.length).1.toNat j5).params (c5 c.L (c5 c.L J 14).2 c.fs.length).2).2,l):=by
 unfold o9 jN;rw[if_neg (by omega),if_neg (by omega),if_neg (by omega),if_neg (by omega),if_pos (.inr h),if_pos h]
variable {b:BR}
theorem r_if (h:(c5 c.L J 14).1=11)(h2:0<deep){d:BR}(hb:blk vs (deep-1) 3 (g5 c vs (c5 c.L J 14).2).2 l=b)(h3:(c5 c.L b.2.1 2).1=1)(hd:blk vs (deep-1) 3 (c5 c.L b.2.1 2).2 b.2.2=d):o9 c ps blk vs deep J l=(row 7 ByteArray.empty (g5 c vs (c5 c.L J 14).2).1 n5 [] b.1 d.1,vs,d.2.1,d.2.2):=by unfold o9 jN;rw[if_neg (by omega),if_neg (by omega),if_neg (by omega),if_neg (by omega),if_neg (by omega),if_pos ⟨h,h2⟩,hb];unfold ifK;rw[if_pos h3,hd]
theorem r_if2 (h:(c5 c.L J 14).1=11)(h2:0<deep)(hb:blk vs (deep-1) 3 (g5 c vs (c5 c.L J 14).2).2 l=b)(h3:¬(c5 c.L b.2.1 2).1=1):o9 c ps blk vs deep J l=(row 7 ByteArray.empty (g5 c vs (c5 c.L J 14).2).1 n5 [] b.1 .nil,vs,(c5 c.L b.2.1 2).2,b.2.2):=by unfold o9 jN;rw[if_neg (by omega),if_neg (by omega),if_neg (by omega),if_neg (by omega),if_neg (by omega),if_pos ⟨h,h2⟩,hb];unfold ifK;rw[if_neg h3]
theorem FK (h:(c5 c.L J 14).1=12)(h2:0<deep)(hb:blk vs (deep-1) 3 (g5 c vs (c5 c.L J 14).2).2 l=b):o9 c ps blk vs deep J l=(row 8 ByteArray.empty (g5 c vs (c5 c.L J 14).2).1 n5 [] b.1 .nil,vs,b.2.1,b.2.2):=by unfold o9 jN;rw[if_neg (by omega),if_neg (by omega),if_neg (by omega),if_neg (by omega),if_neg (by omega),if_neg (by omega),if_pos ⟨h,h2⟩,hb]
theorem r_ret (h:(c5 c.L J 14).1=13)(h2:(c5 c.L (c5 c.L J 14).2 3).1=1):o9 c ps blk vs deep J l=(row 9 ByteArray.empty l4 n5 [] .nil .nil,vs,(c5 c.L (c5 c.L J 14).2 3).2,l):=by unfold o9 jN;rw[if_neg (by omega),if_neg (by omega),if_neg (by omega),if_neg (by omega),if_neg (by omega),if_neg (by omega),if_neg (by omega),if_pos ⟨h,h2⟩]
theorem U4 (h:(c5 c.L J 14).1=13)(h2:¬(c5 c.L (c5 c.L J 14).2 3).1=1)(hb:blk vs 0 2 (l9 c ps vs (c5 c.L (c5 c.L J 14).2 3).2).2 l=b):o9 c ps blk vs deep J l=prK vs (l9 c ps vs (c5 c.L (c5 c.L J 14).2 3).2).1 b:=by unfold o9 jN;rw[if_neg (by omega),if_neg (by omega),if_neg (by omega),if_neg (by omega),if_neg (by omega),if_neg (by omega),if_neg (by omega),if_neg (by omega),if_pos h,hb]
theorem wP (h7:7<(c5 c.L J 14).1)(h13:¬(c5 c.L J 14).1=13)(h8:(c5 c.L J 14).1=8→vs.length=0)(h9:¬(c5 c.L J 14).1=9)(h10:¬(c5 c.L J 14).1=10)(h11:(c5 c.L J 14).1=11→deep≤0)(h12:(c5 c.L J 14).1=12→deep≤0)(hb:blk vs 0 2 (l9 c ps vs (c5 c.L J 14).2).2 l=b):o9 c ps blk vs deep J l=prK vs (l9 c ps vs (c5 c.L J 14).2).1 b:=by unfold o9 jN;rw[if_neg (by omega),if_neg (by omega),if_neg (by omega),if_neg (by omega),if_neg (by omega),if_neg (by omega),if_neg (by omega),if_neg (by omega),if_neg h13,hb]
end
variable {out:Sl}
theorem w4 {c:Core}{ps:List Pm}{blk:List BA→Int→Int→Int→Int→BR}{n:Nat}{vs vs':List BA}{deep J l J' l':Int}{S:Sl}{R:BR}(h:cU c ps blk (n+1) vs deep out J l=R)(hl:0<l)(hr:o9 c ps blk vs deep J (l-1)=(S,vs',J',l')):cU c ps blk n vs' deep (out.app S) J' l'=R:=by rw[cU,if_neg (by omega),hr]at h;exact h
theorem NP {c:Core}{ps:List Pm}{blk:List BA→Int→Int→Int→Int→BR}{n:Nat}{vs:List BA}{deep J l:Int}{R:BR}(h:cU c ps blk n vs deep out J l=R)(hl:n=0∨l≤0):R=(out,J,l):=by
 rw[←h];cases n with
 | zero=>rfl
 | succ n=>rw[cU,if_pos (by omega)]
theorem s5 {c:Core}(hc:OkC c){ps:List Pm}{fu:Nat}(hfu:fu≤23){all vs vs':List BA}{left0 deep J l J' l':Int}{out S:Sl}(h0:left0≤fu+1)(hd:0≤deep)(ho:OkB (T3 c ps) c.L all left0 (deep.toNat+1) (out,J,l))(hv:∀x∈vs,x∈z6 out all)(hl:0<l)
  (hr:o9 c ps (c7 c ps fu) vs deep J (l-1)=(S,vs',J',l')):OkB (T3 c ps) c.L all left0 (deep.toNat+1) (out.app S,J',l')∧l'≤l-1∧∀x∈vs',x∈z6 (out.app S) all:=by
 have hl2:=ho.ol;have hw:=ho.wt;have hdp:=ho.dep;simp only at hl2 hw hdp;obtain ⟨r1,r2,r3⟩:=T4 hc (ps:=ps) (blk:=c7 c ps fu) (vars:=vs) (all:=z6 out all) (deep:=deep) (I:=J) (left:=l-1) ho.oi ⟨by omega,by omega⟩ hd hv (ho.fr.mono t90) fun d most I all' l' a1 a2 a3 a4 a5 a6 a7=>cN hc fu vs d most I all' l' a1 a2 a3 a4 (by omega) (by omega) a6 a7;rw[hr]at r1 r2 r3;have q1:=r1.ol;have q2:=r1.wt;have q3:=r1.dep;simp only at q1 q2 q3 r2 r3;refine ⟨⟨r1.oi,⟨q1.1,t90⟩,GS.app.2 ⟨ho.gs,r1.gs⟩,?_,?_,?_⟩,r2,?_⟩
 ·simp only[gK];exact r1.fr
 ·simp only[Sl.E1];omega
 ·simp only[yQ];omega
 ·rw[gK];exact r3
def VP (l:List Mx):Prop:=∀j,j<l.length→(l.getD j cK).name=mnm j∧0≤(l.getD j cK).size∧(l.getD j cK).size≤3∧((l.getD j cK).re=true→(l.getD j cK).size=0)
def VQ (l:List Gl):Prop:=∀j,j<l.length→(l.getD j lQ).name=gnm j ∧ -10≤(l.getD j lQ).init∧(l.getD j lQ).init≤10
def FL (N n:Nat)(l:List Pm):Prop:=(n=N∧l=[])∨(N=1∧n=0∧l.map (·.name)=[pnm 1])∨(N=2∧n=1∧l.map (·.name)=[pnm 2])∨(N=2∧n=0∧l.map (·.name)=[pnm 2,pnm 1])
def JZ (l:List Fu):Prop:=∀j,j<l.length→(l.getD j j5).name=fnm j∧(j=0→(l.getD j j5).params=[])∧
  ((l.getD j j5).params.map (·.name)=[]∨(l.getD j j5).params.map (·.name)=[pnm 1]∨(l.getD j j5).params.map (·.name)=[pnm 2,pnm 1])
variable {j:Nat}
theorem uN {α:Type}{l:List α}{x d:α}(h:j<(l++[x]).length):(j<l.length∧(l++[x]).getD j d=l.getD j d)∨(j=l.length∧(l++[x]).getD j d=x):=by
 simp at h;by_cases hj:j<l.length
 ·exact .inl ⟨hj,by simp[List.getD,List.getElem?_append_left hj]⟩
 ·obtain rfl:j=l.length:=by omega
  exact .inr ⟨rfl,by simp[List.getD]⟩
theorem VP.snoc {l:List Mx}(h:VP l){m:Mx}(h1:m.name=mnm l.length)(h2:0≤m.size∧m.size≤3)(h3:m.re=true→m.size=0):VP (l++[m]):=fun j hj=>by
 rcases uN (d:=cK) hj with ⟨q,e⟩ | ⟨rfl,e⟩
 ·rw[e];exact h j q
 ·rw[e];exact ⟨h1,h2.1,h2.2,h3⟩
theorem VQ.snoc {l:List Gl}(h:VQ l){m:Gl}(h1:m.name=gnm l.length)(h2:-10≤m.init∧m.init≤10):VQ (l++[m]):=fun j hj=>by
 rcases uN (d:=lQ) hj with ⟨q,e⟩ | ⟨rfl,e⟩
 ·rw[e];exact h j q
 ·rw[e];exact ⟨h1,h2⟩
theorem JZ.snoc {l:List Fu}(h:JZ l){f:Fu}(h1:f.name=fnm l.length)(h2:l.length=0→f.params=[])(h3:f.params.map (·.name)=[]∨f.params.map (·.name)=[pnm 1]∨f.params.map (·.name)=[pnm 2,pnm 1]):JZ (l++[f]):=fun j hj=>by
 rcases uN (d:=j5) hj with ⟨q,e⟩ | ⟨rfl,e⟩
 ·rw[e];exact h j q
 ·rw[e];exact ⟨h1,h2,h3⟩
variable {N n:Nat}{l:List Pm}
theorem FL.step (h:FL N n l)(hn:0<n)(hN:N≤2){p:Pm}(hp:p.name=pnm n):FL N (n-1) (l++[p]):=by
 rcases h with ⟨rfl,rfl⟩ | ⟨_,h,_⟩ | ⟨rfl,rfl,h⟩ | ⟨_,h,_⟩
 ·have:n=1∨n=2:=by omega
  rcases this with rfl | rfl
  ·exact .inr (.inl ⟨rfl,rfl,by simp[hp]⟩)
  ·exact .inr (.inr (.inl ⟨rfl,rfl,by simp[hp]⟩))
 ·omega
 ·exact .inr (.inr (.inr ⟨rfl,rfl,by simp[h,hp]⟩))
 ·omega
theorem FL.fin (h:FL N n l)(hn:n=0∨l=[])(hN:N≤2):l.map (·.name)=[]∨l.map (·.name)=[pnm 1]∨l.map (·.name)=[pnm 2,pnm 1]:=by
 rcases h with ⟨rfl,rfl⟩ | ⟨_,_,h⟩ | ⟨_,h1,h⟩ | ⟨_,_,h⟩
 ·exact .inl rfl
 ·exact .inr (.inl h)
 ·rcases hn with hn | hn
  ·omega
  ·subst hn;exact .inl rfl
 ·exact .inr (.inr h)
theorem FL.len (h:FL N n l):l.length≤2:=by
 have:l.length=(l.map (·.name)).length:=by simp
 rcases h with ⟨rfl,rfl⟩ | ⟨_,_,h⟩ | ⟨_,_,h⟩ | ⟨_,_,h⟩
 ·simp
 all_goals rw[this,h];simp
def aF (l:List Pm):List BA:=(l.filter fun x=>!x.mu).map (·.name)
theorem pH (h:j<l.length):aF (l.take (j+1))=aF (l.take j)++(if (l.getD j fC).mu then [] else [(l.getD j fC).name]):=by unfold aF;rw[List.take_add_one,List.filter_append,List.map_append];congr 1;simp only[List.getD_eq_getElem?_getD,List.getElem?_eq_getElem h,Option.toList_some,Option.getD_some,List.filter_cons,List.filter_nil];cases l[j].mu<;>rfl
def setBody (fs:List Fu)(i:Nat)(B:Sl):List Fu:=fs.set i { fs.getD i j5 with body:=B }
def lE (fs:List Fu):List (BA×List Pm):=fs.map fun f=>(f.name,f.params)
variable {fs:List Fu}{i:Nat}{B:Sl}
theorem gL:(setBody fs i B).length=fs.length:=by simp[setBody]
theorem lF (h:i<fs.length):(setBody fs i B).getD j j5=if j=i then { fs.getD i j5 with body:=B } else fs.getD j j5:=by
 unfold setBody;by_cases e:j=i
 ·subst e;simp[List.getD,h]
 ·rw[if_neg e];simp[List.getD,List.getElem?_set_ne (Ne.symm e)]
theorem lG (h:i<fs.length):lE (setBody fs i B)=lE fs:=by
 refine List.ext_getElem (by simp[lE,setBody]) fun j h1 h2=>?_;have hj:j<fs.length:=by simpa [lE] using h2
 have e:=lF (j:=j) (B:=B) h;have e1:(setBody fs i B).getD j j5=(setBody fs i B)[j]'(by rw[gL];exact hj):=by simp[List.getD,gL,hj]
 have e2:fs.getD j j5=fs[j]:=by simp[List.getD,hj]
 simp only[lE,List.getElem_map];rw[←e1,←e2,e];split
 ·rename_i q;subst q;rfl
 ·rfl
theorem JZ.lE {l l':List Fu}(h:JZ l)(e:lE l'=lE l):JZ l':=fun j hj=>by
 have hl:l'.length=l.length:=by have:=congrArg List.length e;simpa [Un.lE] using this
 have e1:∀(m:List Fu),j<m.length→(Un.lE m).getD j (ByteArray.empty,[])=((m.getD j j5).name,(m.getD j j5).params):=fun m hm=>by simp[Un.lE,List.getD,hm]
 have h1:=e1 l' hj;have h2:=e1 l (by omega);rw[e,h2]at h1;injection h1 with h3 h4;have:=h j (by omega);rw[h3,h4]at this;exact this
structure ZE (gs:List Gl)(ms:List Mx)(fs:List Fu)(i:Nat)(left:Int):Prop where
 body:∀j,j<i→GS ⟨gs.map (·.name),ms,lE fs,(fs.getD j j5).params⟩ (fs.getD j j5).body (gs.map (·.name)++aF (fs.getD j j5).params)∧(fs.getD j j5).body.dep≤3
 wt:rM fs i≤2*(24-left).toNat
 ol:0≤left∧left≤24
theorem wQ {l l':List Fu}:∀i,(∀j,j<i→(l.getD j j5).body=(l'.getD j j5).body)→rM l i=rM l' i
 | 0,_=>rfl
 | i+1,h=>by rw[rM,rM,wQ i fun j hj=>h j (by omega),h i (by omega)]
theorem ZE.step {gs:List Gl}{ms:List Mx}{fs:List Fu}{i:Nat}{left left':Int}{L:List Int}{B:Sl}{I':Int}(h:ZE gs ms fs i left)(hi:i<fs.length)
  (hb:OkB ⟨gs.map (·.name),ms,lE fs,(fs.getD i j5).params⟩ L (gs.map (·.name)++aF (fs.getD i j5).params) left 3 (B,I',left')):ZE gs ms (setBody fs i B) (i+1) left':=by
 have hol:=hb.ol;have hwt:=hb.wt;have h1:=h.ol;have h2:=h.wt;simp only at hol hwt;refine ⟨fun j hj=>?_,?_,by omega⟩
 ·rw[lG hi,lF hi];by_cases e:j=i
  ·subst e;rw[if_pos rfl];exact ⟨hb.gs,hb.dep⟩
  ·rw[if_neg e];exact h.body j (by omega)
 ·have e1:rM (setBody fs i B) i=rM fs i:=wQ i fun j hj=>by rw[lF hi,if_neg (by omega)]
  rw[rM,e1,lF hi,if_pos rfl];simp only;omega
variable {gs:List Gl}
theorem FM {ms:List Mx}{left:Int}(hg:VQ gs)(hgl:gs.length≤2)(hm:VP ms)(hml:1≤ms.length∧ms.length≤4)(hf:JZ fs)(hfl:1≤fs.length∧fs.length≤4)(hb:ZE gs ms fs fs.length left):GP ⟨gs,ms,fs⟩:=by have hw:=hb.wt;have hl:=hb.ol;refine ⟨⟨hgl,hg,hml,hm,hfl,hf⟩,fun i hi=>?_,by show rM fs fs.length≤48;omega⟩;exact hb.body i hi
theorem wR {ps:List Pm}(hg:VQ gs)(hgl:gs.length≤2)(hp:ps.map (·.name)=[]∨ps.map (·.name)=[pnm 1]∨ps.map (·.name)=[pnm 2,pnm 1]):Fr 24 (gs.map (·.name)++aF ps):=by
 intro j hj hm;refine E6 j hj ?_;rcases List.mem_append.1 hm with hm | hm
 ·obtain ⟨g,hg1,hg2⟩:=List.mem_map.1 hm;obtain ⟨k,hk,rfl⟩:=cM (d:=lQ) hg1;rw[←hg2,(hg k hk).1];exact List.mem_append.2 (.inl (List.mem_map.2 ⟨k,List.mem_range.2 (by omega),rfl⟩))
 ·obtain ⟨p,hp1,hp2⟩:=List.mem_map.1 hm;have hp3:p.name∈ps.map (·.name):=List.mem_map.2 ⟨p,(List.mem_filter.1 hp1).1,rfl⟩;rw[hp2]at hp3;refine List.mem_append.2 (.inr (List.mem_append.2 (.inr (List.mem_append.2 (.inr ?_)))));rcases hp with e | e | e
  ·rw[e]at hp3;simp at hp3
  ·rw[e]at hp3;simp at hp3;rw[hp3];simp
  ·rw[e]at hp3;simpa using hp3
theorem RO {L:List Int}{ms:List Mx}{gF:Nat}{ar:Bool}(hm:VP ms)(hml:1≤ms.length∧ms.length≤4)(hf:JZ fs)(hfl:1≤fs.length∧fs.length≤4):OkC ⟨L,gs,ms,fs,gF,ar⟩:=by
 refine ⟨hml,fun i hi=>⟨(hm i hi).2.1,(hm i hi).2.2.1⟩,hfl,fun f hff=>?_⟩;obtain ⟨k,hk,rfl⟩:=cM (d:=j5) hff;have h1:=(hf k hk).2.2;have h2:(fs.getD k j5).params.length=((fs.getD k j5).params.map (·.name)).length:=by simp
 rw[h2];rcases h1 with e | e | e<;>rw[e]<;>simp
end Go.Un
end
section
namespace Go.Proofs.YtapdldekgbbomaaGreatDoor
open Go.Ab Go.Un
theorem uO {s:BA}:sP s=QZ.any fun x=>L8 x==L8 s:=by simp only[sP,hasB,ByteArray.toList_eq];rfl
theorem FN:∀j,j<24→sP (vnm j)=false:=by
  intro j hj;rw[uO];have key:∀j,j<24→(QZ.any fun x=>L8 x==L8 (vnm j))=false:=by decide
  exact key j hj
theorem FO:∀j,j<2→sP (gnm j)=false:=by
  intro j hj;rw[uO];have key:∀j,j<2→(QZ.any fun x=>L8 x==L8 (gnm j))=false:=by decide
  exact key j hj
theorem FP:∀j,j<4→sP (mnm j)=false:=by
  intro j hj;rw[uO];have key:∀j,j<4→(QZ.any fun x=>L8 x==L8 (mnm j))=false:=by decide
  exact key j hj
theorem FQ:∀j,j<4→sP (fnm j)=false:=by
  intro j hj;rw[uO];have key:∀j,j<4→(QZ.any fun x=>L8 x==L8 (fnm j))=false:=by decide
  exact key j hj
theorem M4:∀j,j<3→sP (pnm j)=false:=by
  intro j hj;rw[uO];have key:∀j,j<3→(QZ.any fun x=>L8 x==L8 (pnm j))=false:=by decide
  exact key j hj
variable {pre th el rest:Sl}{k:Int}{n:BA}{e:Ex}{r:Rf}{xs:List Ar}
theorem yY:List.take 11 (List.drop (pre.len*11) (n8 (pre.app (.cons k n e r xs th el rest))))=[.int .i64 k,.str n,.int .i64 e.op,.int .i64 e.num,.str e.name,.vec e.args.length (n9 e.args),.str r.name,.vec r.idx.length (n9 r.idx),.vec xs.length (aH xs),.vec th.len (n8 th),.vec el.len (n8 el)]:=by rw[read_s rfl,rowS,aI];rfl
variable {h:c8}{vars:List BA}
theorem yZ (hv:aV vars)(hg:GE vars 2 e):CB 114 [.agg [.int .i64 e.op,.int .i64 e.num,.str e.name,.vec e.args.length (n9 e.args)]] h (.str (cX e)):=by rw[←aI];exact uL hv.n (by omega) hg h
theorem zA (hv:aV vars)(hg:GE vars 2 e):CB 93 [.agg [.int .i64 e.op,.int .i64 e.num,.str e.name,.vec e.args.length (n9 e.args)]] h (.bool true):=by rw[←aI];exact T9 hv (by omega) e hg
theorem aV.snoc (h:aV vars){j:Nat}(hj:j<24):aV (vars++[vnm j]):=by
  intro x hx;rcases List.mem_append.1 hx with hx | hx
  · exact h x hx
  · simp only[List.mem_singleton]at hx
    subst hx;exact ⟨sI,FN j hj⟩
theorem M5 {pre:Sl}{k:Int}{n:BA}{e:Ex}{r:Rf}{xs:List Ar}{th el rest:Sl}:(pre.app (.cons k n e r xs th el rest)).wt=pre.wt+(1+th.wt+el.wt+rest.wt):=by rw[Sl.E1,Sl.wt]
theorem aN {pre:Sl}{k:Int}{n:BA}{e:Ex}{r:Rf}{xs:List Ar}{th el rest:Sl}:(pre.app (.cons k n e r xs th el rest)).len=pre.len+(rest.len+1):=by rw[Go.Un.Sl.w8,Go.Un.Sl.len]
theorem fJ {k:Int}{n:BA}{e:Ex}{r:Rf}{xs:List Ar}{th el rest:Sl}:(Sl.cons k n e r xs th el rest).dep=max (max th.dep el.dep+1) rest.dep:=rfl
theorem eO:pre.app (.cons k n e r xs th el rest)=(pre.app (.cons k n e r xs th el .nil)).app rest:=by rw[Sl.E0];rfl
theorem NQ:(((pre.app (.cons k n e r xs th el .nil)).len:Nat):Int)=(pre.len:Int)+1:=by rw[Go.Un.Sl.w8];simp[Go.Un.Sl.len]
theorem wS {tabs:BA}(h:Cl (L8 tabs) 0):Cl (L8 (tabs++hY)) 0:=bT h E5
attribute [local go_sem] nI w3 o8 bY cR aM l7 Int.natCast_nonneg Int.natCast_inj List.length_map wrap64 AO kC yX bB mN eq_mk mO yY Nat.reduceMul
theorem NR {E:Env}(hE:sH E)(S:Sl)(ih:∀S':Sl,S'.wt<S.wt→∀(vars:List BA) (tabs:BA),aV vars→GS E S' vars→tabs.size+S'.dep≤10→Cl (L8 tabs) 0→∀h:c8,CB 101 [.vec S'.len (n8 S'),.str tabs] h (.str (lZ S' tabs ByteArray.empty)))(vars:List BA)(tabs:BA)(hv0:aV vars)(hG0:GS E S vars)(hd:tabs.size+S.dep≤10)(ht:Cl (L8 tabs) 0)(hw:S.wt≤1000):CB 101 [.vec S.len (n8 S),.str tabs] h (.str (lZ S tabs ByteArray.empty)):=by
  refine .bz Tryz.f101 133 ?_;have hlw:=bF S;have hTs:=(jY hE S vars tabs ByteArray.empty 0 hv0.n hG0 hd ht Cl.nil).2;have hse:ByteArray.empty.size=0:=rfl;refine c87z ?_;refine .aD (fun m st=>∃(Z:Sl) (pre:Sl) (rst:Sl) (vs:List BA) (out:BA),(m=rst.len∧(Z=S∧S=pre.app rst∧GS E rst vs∧aV vs∧lZ rst tabs out=lZ S tabs ByteArray.empty∧tabs.size+rst.dep≤10))∧st=⟨mkS 133 [(0,AV.vec (Go.Un.Sl.len Z) (n8 Z)),(1,AV.str tabs),(5,AV.str out),(6,AV.int .i64 ((pre.len:Nat):Int))],h⟩) (.v ⟨S,Sl.nil,S,vars,ByteArray.empty,⟨rfl,⟨rfl,rfl,hG0,hv0,rfl,hd⟩⟩,rfl⟩ (hs:=t11)) ?_;rintro m sl h' ⟨Z,pre,rst,vs,out,⟨hm,⟨hZ,hS,hG,hv,hT,hdp⟩⟩,hst⟩;obtain ⟨rfl,rfl⟩:=St.mk.inj hst;clear hst;subst hZ;have hlen:=congrArg Go.Un.Sl.len hS;rw[Go.Un.Sl.w8]at hlen;have hos:out.size≤400000:=by have:=DX rst tabs out;rw[hT]at this;omega
  refine c0z ?_;refine u2z ?_ ?_
  ·intro e1 qe1;refine c5z ?_;obtain ⟨k,n,e,r,xs,th,el,rest,rfl⟩:=Go.Un.Sl.oD (s:=rst) (by omega);subst hS;have hwc:=@M5 pre k n e r xs th el rest;have hlc:=@aN pre k n e r xs th el rest;have hdc:=@fJ k n e r xs th el rest;rcases hG with ⟨rfl,⟨j,hj,rfl⟩,hn,he,rfl,rfl,rfl,rfl,hr⟩ | ⟨rfl,hn,he,rfl,rfl,rfl,rfl,hr⟩ | ⟨rfl | rfl,⟨f,hf,rfl,ha⟩,rfl,rfl,rfl,rfl,hr⟩ | ⟨rfl | rfl,rfl,rfl,hR,rfl,rfl,rfl,hr⟩ | ⟨rfl,rfl,he,rfl,rfl,hth,hel,hr⟩ | ⟨rfl,rfl,he,rfl,rfl,hth,rfl,hr⟩ | ⟨rfl,rfl,rfl,rfl,rfl,rfl,rfl,hr⟩
   ·have hes:=(dA hv.n he).2;have hb:A4 2=104:=rfl;have hns:=aP (sI (j:=j));refine c215z ?_;refine c138z ?_;refine .so w7 (mkP 12 [0,1,0,4,15,31,0,64,192,511,1023,2047] []) ?_;refine .k 8 [] ?_;refine .ca rfl rfl (yZ hv he) ?_;refine c86z ?_;refine c154z ?_;have hT2:=hT;simp only[lZ,show ((1:Int)=2)=False from by simp,show ((1:Int)=3)=False from by simp,show ((1:Int)=4)=False from by simp,show ((1:Int)=5)=False from by simp,show ((1:Int)=6)=False from by simp,show ((1:Int)=7)=False from by simp,show ((1:Int)=8)=False from by simp,if_true,if_false,true_or,or_true,or_false,false_or,or_self]at hT2;exact ⟨_,by omega,.v ⟨_,(pre.app (.cons 1 (vnm j) e n5 [] .nil .nil .nil)),rest,(vs++[vnm j]),_,⟨rfl,⟨rfl,eO,hr,(hv.snoc hj),hT2,by omega⟩⟩,rfl⟩ (he:=by rfl) (hs:=t11)⟩
   ·have hes:=(dA hv.n he).2;have hb:A4 2=104:=rfl;have hns:=aP (hv _ hn).1;refine c215z ?_;refine c14z ?_;refine c138z ?_;refine .c9 [0,1,5,6,7] ?_;refine .so w7 (mkP 11 [0,0,2,7,15,0,32,96,255,511,1023] []) ?_;refine .k 7 [] ?_;refine .ca rfl rfl (yZ hv he) ?_;refine c86z ?_;refine c154z ?_;have hT2:=hT;simp only[lZ,show ((2:Int)=1)=False from by simp,show ((2:Int)=3)=False from by simp,show ((2:Int)=4)=False from by simp,show ((2:Int)=5)=False from by simp,show ((2:Int)=6)=False from by simp,show ((2:Int)=7)=False from by simp,show ((2:Int)=8)=False from by simp,if_true,if_false,true_or,or_true,or_false,false_or,or_self]at hT2;exact ⟨_,by omega,.v ⟨_,(pre.app (.cons 2 n e n5 [] .nil .nil .nil)),rest,vs,_,⟨rfl,⟨rfl,eO,hr,hv,hT2,by omega⟩⟩,rfl⟩ (he:=by rfl) (hs:=t11)⟩
   ·have hns:=aP (hE.fn f hf);have has:=(L2 hE hv.n ha (hE.fp f hf)).2.1;have hxl:=(kY hE hv.n ha).1;have hfl:=hE.fp f hf;refine c243z ?_;refine c138z ?_;refine .so w7 (mkP 10 [0,0,2,7,0,16,48,127,255,511] []) ?_;refine .k 6 [] ?_;refine .ca rfl rfl (FJ hE hv.n xs (kY hE hv.n ha).2 (by omega)) ?_;refine c86z ?_;refine c154z ?_;have hT2:=hT;simp only[lZ,show ((3:Int)=1)=False from by simp,show ((3:Int)=2)=False from by simp,show ((3:Int)=4)=False from by simp,show ((3:Int)=5)=False from by simp,show ((3:Int)=6)=False from by simp,show ((3:Int)=7)=False from by simp,show ((3:Int)=8)=False from by simp,if_true,if_false,true_or,or_true,or_false,false_or,or_self]at hT2;exact ⟨_,by omega,.v ⟨_,(pre.app (.cons 3 f.1 l4 n5 xs .nil .nil .nil)),rest,vs,_,⟨rfl,⟨rfl,eO,hr,hv,hT2,by omega⟩⟩,rfl⟩ (he:=by rfl) (hs:=t11)⟩
   ·have hns:=aP (hE.fn f hf);have has:=(L2 hE hv.n ha (hE.fp f hf)).2.1;have hxl:=(kY hE hv.n ha).1;have hfl:=hE.fp f hf;refine c243z ?_;refine c14z ?_;refine c138z ?_;refine .so w7 (mkP 11 [0,1,0,4,15,0,32,96,255,511,1023] []) ?_;refine .k 7 [] ?_;refine .ca rfl rfl (FJ hE hv.n xs (kY hE hv.n ha).2 (by omega)) ?_;refine c86z ?_;refine c154z ?_;have hT2:=hT;simp only[lZ,show ((4:Int)=1)=False from by simp,show ((4:Int)=2)=False from by simp,show ((4:Int)=3)=False from by simp,show ((4:Int)=5)=False from by simp,show ((4:Int)=6)=False from by simp,show ((4:Int)=7)=False from by simp,show ((4:Int)=8)=False from by simp,if_true,if_false,true_or,or_true,or_false,false_or,or_self]at hT2;exact ⟨_,by omega,.v ⟨_,(pre.app (.cons 4 f.1 l4 n5 xs .nil .nil .nil)),rest,vs,_,⟨rfl,⟨rfl,eO,hr,hv,hT2,by omega⟩⟩,rfl⟩ (he:=by rfl) (hs:=t11)⟩
   ·have hrs:=(hR.pw hE hv.n).2;refine c243z ?_;refine c91z ?_;refine c138z ?_;refine c150z ?_;refine .ca rfl rfl (U1 hE hv.n hR) ?_;refine c42z ?_;refine c154z ?_;have hT2:=hT;simp only[lZ,show ((5:Int)=1)=False from by simp,show ((5:Int)=2)=False from by simp,show ((5:Int)=3)=False from by simp,show ((5:Int)=4)=False from by simp,show ((5:Int)=6)=False from by simp,show ((5:Int)=7)=False from by simp,show ((5:Int)=8)=False from by simp,if_true,if_false,true_or,or_true,or_false,false_or,or_self]at hT2;exact ⟨_,by omega,.v ⟨_,(pre.app (.cons 5 ByteArray.empty l4 r [] .nil .nil .nil)),rest,vs,_,⟨rfl,⟨rfl,eO,hr,hv,hT2,by omega⟩⟩,rfl⟩ (he:=by rfl) (hs:=t11)⟩
   ·have hrs:=(hR.pw hE hv.n).2;refine c243z ?_;refine c91z ?_;refine c14z ?_;refine c138z ?_;refine .c9 [0,1,5,6,7] ?_;refine c150z ?_;refine .ca rfl rfl (U1 hE hv.n hR) ?_;refine c42z ?_;refine c154z ?_;have hT2:=hT;simp only[lZ,show ((6:Int)=1)=False from by simp,show ((6:Int)=2)=False from by simp,show ((6:Int)=3)=False from by simp,show ((6:Int)=4)=False from by simp,show ((6:Int)=5)=False from by simp,show ((6:Int)=7)=False from by simp,show ((6:Int)=8)=False from by simp,if_true,if_false,true_or,or_true,or_false,false_or,or_self]at hT2;exact ⟨_,by omega,.v ⟨_,(pre.app (.cons 6 ByteArray.empty l4 r [] .nil .nil .nil)),rest,vs,_,⟨rfl,⟨rfl,eO,hr,hv,hT2,by omega⟩⟩,rfl⟩ (he:=by rfl) (hs:=t11)⟩
   ·have hes:=(dA hv.n he).2;have hb:A4 2=104:=rfl;have hts:(tabs++hY).size=tabs.size+1:=by rw[bB];rfl
    have hths:=(jY hE th vs (tabs++hY) ByteArray.empty 0 hv.n hth (by omega) (wS ht) Cl.nil).2;have hels:=(jY hE el vs (tabs++hY) ByteArray.empty 0 hv.n hel (by omega) (wS ht) Cl.nil).2;refine c243z ?_;refine c91z ?_;refine c91z ?_;refine .seq ?_;refine .c9 [0,1,5,6,7,23] ?_;refine c138z ?_;refine .sk ?_;refine .T ?_;refine c82z ?_;refine c22z ?_;refine .ss w7 (mkP 18 [0,0,3,0,8,24,63,127,0,256,0,1024,3896,8191,0,32767,65535,131071] []) ?_;refine .k 5 [] ?_;refine .ca rfl rfl (yZ hv he) ?_;refine .k 6 [] ?_;refine .ca rfl rfl (ih th (by omega) vs (tabs++hY) hv hth (by omega) (wS ht) _) ?_;refine .n [] ?_;refine .c9 [0,1,5,6,7] ?_;refine .z ?_;refine u2z ?_ ?_
    ·intro e2 qe2;refine .r ?_;refine .e 6 ?_;refine .ca rfl rfl (ih el (by omega) vs (tabs++hY) hv hel (by omega) (wS ht) _) ?_;refine c42z ?_;refine c154z ?_;have hT2:=hT;have hel0:0<el.len:=by omega
     simp only[lZ,show ((7:Int)=1)=False from by simp,show ((7:Int)=2)=False from by simp,show ((7:Int)=3)=False from by simp,show ((7:Int)=4)=False from by simp,show ((7:Int)=5)=False from by simp,show ((7:Int)=6)=False from by simp,show ((7:Int)=8)=False from by simp,if_true,if_false,true_or,or_true,or_false,false_or,or_self,if_pos hel0]at hT2;exact ⟨_,by omega,.v ⟨_,(pre.app (.cons 7 ByteArray.empty e n5 [] th el .nil)),rest,vs,_,⟨rfl,⟨rfl,eO,hr,hv,hT2,by omega⟩⟩,rfl⟩ (he:=by rfl) (hs:=t11)⟩
    intro e2 qe2;refine c8z ?_;refine c70z ?_;have hT2:=hT;have hel0:¬0<el.len:=by omega
    simp only[lZ,show ((7:Int)=1)=False from by simp,show ((7:Int)=2)=False from by simp,show ((7:Int)=3)=False from by simp,show ((7:Int)=4)=False from by simp,show ((7:Int)=5)=False from by simp,show ((7:Int)=6)=False from by simp,show ((7:Int)=8)=False from by simp,if_true,if_false,true_or,or_true,or_false,false_or,or_self,if_neg hel0]at hT2;exact ⟨_,by omega,.v ⟨_,(pre.app (.cons 7 ByteArray.empty e n5 [] th el .nil)),rest,vs,_,⟨rfl,⟨rfl,eO,hr,hv,hT2,by omega⟩⟩,rfl⟩ (he:=by rfl) (hs:=t11)⟩
   ·have hes:=(dA hv.n he).2;have hb:A4 2=104:=rfl;have hts:(tabs++hY).size=tabs.size+1:=by rw[bB];rfl
    have hths:=(jY hE th vs (tabs++hY) ByteArray.empty 0 hv.n hth (by omega) (wS ht) Cl.nil).2;refine c243z ?_;refine c91z ?_;refine c91z ?_;refine .seq ?_;refine .c9 [0,1,5,6,7,23] ?_;refine c14z ?_;refine c1z ?_;refine .T ?_;refine c82z ?_;refine .T ?_;refine .c9 [0,1,5,6,7] ?_;refine c1z ?_;refine .ss w7 (mkP 18 [0,0,3,0,8,24,63,127,0,256,0,1024,3896,8191,0,32767,65535,131071] []) ?_;refine .k 5 [] ?_;refine .ca rfl rfl (yZ hv he) ?_;refine .k 6 [] ?_;refine .ca rfl rfl (ih th (by omega) vs (tabs++hY) hv hth (by omega) (wS ht) _) ?_;refine .n [] ?_;refine .c9 [0,1,5,6,7] ?_;refine c14z ?_;refine c8z ?_;refine c70z ?_;have hT2:=hT;simp only[lZ,show ((8:Int)=1)=False from by simp,show ((8:Int)=2)=False from by simp,show ((8:Int)=3)=False from by simp,show ((8:Int)=4)=False from by simp,show ((8:Int)=5)=False from by simp,show ((8:Int)=6)=False from by simp,show ((8:Int)=7)=False from by simp,if_true,if_false,true_or,or_true,or_false,false_or,or_self,Go.Un.Sl.len,Nat.lt_irrefl]at hT2;exact ⟨_,by omega,.v ⟨_,(pre.app (.cons 8 ByteArray.empty e n5 [] th .nil .nil)),rest,vs,_,⟨rfl,⟨rfl,eO,hr,hv,hT2,by omega⟩⟩,rfl⟩ (he:=by rfl) (hs:=t11)⟩
   ·skip;refine c243z ?_;refine c91z ?_;refine c91z ?_;refine .seq ?_;refine .c9 [0,1,5,6,7,23] ?_;refine c14z ?_;refine c1z ?_;refine c267z ?_;refine c1z ?_;refine .c9 [0,1,5,6] ?_;refine .rz ?_;have hT2:=hT;simp only[lZ,show ((9:Int)=1)=False from by simp,show ((9:Int)=2)=False from by simp,show ((9:Int)=3)=False from by simp,show ((9:Int)=4)=False from by simp,show ((9:Int)=5)=False from by simp,show ((9:Int)=6)=False from by simp,show ((9:Int)=7)=False from by simp,show ((9:Int)=8)=False from by simp,if_true,if_false,true_or,or_true,or_false,false_or,or_self]at hT2;exact ⟨_,by omega,.v ⟨_,(pre.app (.cons 9 ByteArray.empty l4 n5 [] .nil .nil .nil)),rest,vs,_,⟨rfl,⟨rfl,eO,hr,hv,hT2,by omega⟩⟩,rfl⟩ (he:=by rfl) (hs:=t11)⟩
  intro e1 qe1;refine .exit ?_;obtain rfl:=Go.Un.Sl.yH (show rst.len=0 by omega);rw[lZ]at hT;change g6 ..;refine .z ?_;exact .ret (.ex (hq:=by (exact congrArg AV.str hT)))
theorem FR {E:Env}(hE:sH E):∀(n:Nat) (S:Sl),S.wt≤n→n≤1000→∀(vars:List BA) (tabs:BA),aV vars→GS E S vars→tabs.size+S.dep≤10→Cl (L8 tabs) 0→∀h:c8,CB 101 [.vec S.len (n8 S),.str tabs] h (.str (lZ S tabs ByteArray.empty))
  | n,S,hn,h1,vars,tabs,hv,hG,hd,ht,h=>by
    refine NR hE S (fun S' hS'=>?_) vars tabs hv hG hd ht (by omega);cases n with
    | zero=>omega
    | succ n=>exact FR hE n S' (by omega) (by omega)
end Go.Proofs.YtapdldekgbbomaaGreatDoor
end
section
namespace Go.Proofs.YtapdldekgbbomaaGreatDoor
open Go.Ab Go.Un
structure Frame where
  b0:Blk
  b1:Blk
  b2:Blk
  z:Blk
  m:Blk
  g:Blk
  rest:c8
def Frame.n (e:Frame):Nat:=e.rest.length+9
def hB (c:Core)(e:Frame)(I left:Int):c8:=
  e.b0::e.b1::e.b2::e.z::⟨0,false,78,2,[.vec c.L.length (encI c.L),.int .i64 I],0⟩::
  ⟨0,false,112,6,[.ptr 4 0 0,.vec c.gs.length (o6 c.gs),.vec c.ms.length (j4 c.ms),.own 8 c.gF 0 c.fs.length,.int .i64 left,.bool c.ar],0⟩::
  e.m::e.g::⟨c.gF,false,122,3,l8 c.fs,0⟩::e.rest
section
variable {c:Core}{e:Frame}{I left k:Int}{l:c8}
theorem aQ:(hB c e I left).length=e.n:=by simp[hB,Frame.n]
theorem ZF:(hB c e I left)[4]?=some ⟨0,false,78,2,[.vec c.L.length (encI c.L),.int .i64 I],0⟩:=rfl
theorem ZG:(hB c e I left)[5]?=some ⟨0,false,112,6,[.ptr 4 0 0,.vec c.gs.length (o6 c.gs),.vec c.ms.length (j4 c.ms),.own 8 c.gF 0 c.fs.length,.int .i64 left,.bool c.ar],0⟩:=rfl
theorem ZH:(hB c e I left)[8]?=some ⟨c.gF,false,122,3,l8 c.fs,0⟩:=rfl
theorem AR:(hB c e I left++l)[4]?=some ⟨0,false,78,2,[.vec c.L.length (encI c.L),.int .i64 I],0⟩:=rfl
theorem AS:(hB c e I left++l)[5]?=some ⟨0,false,112,6,[.ptr 4 0 0,.vec c.gs.length (o6 c.gs),.vec c.ms.length (j4 c.ms),.own 8 c.gF 0 c.fs.length,.int .i64 left,.bool c.ar],0⟩:=rfl
theorem AT:(hB c e I left++l)[8]?=some ⟨c.gF,false,122,3,l8 c.fs,0⟩:=rfl
theorem AU:(hB c e I left++l).set 5 ⟨0,false,112,6,[.ptr 4 0 0,.vec c.gs.length (o6 c.gs),.vec c.ms.length (j4 c.ms),.own 8 c.gF 0 c.fs.length,.int .i64 k,.bool c.ar],0⟩=hB c e I k++l:=rfl
variable {j:Nat}
theorem bC:(hB c e I left++l)[e.n+j]?=l[j]?:=by rw[List.getElem?_append_right t164,aQ,Nat.add_sub_cancel_left]
theorem mP:(hB c e I left++l)[e.n]?=l[0]?:=by rw[List.getElem?_append_right t164,aQ,Nat.sub_self]
theorem bJ {b:Blk}:(hB c e I left++l).set (e.n+j) b=hB c e I left++l.set j b:=by rw[List.set_append_right _ _ t164,aQ,Nat.add_sub_cancel_left]
theorem oF {b:Blk}:(hB c e I left++l).set e.n b=hB c e I left++l.set 0 b:=by rw[List.set_append_right _ _ t164,aQ,Nat.sub_self]
variable {left':Int}
theorem bE {I':Int}:z5 (hB c e I left) (hB c e I' left'):=by
  refine z5.of ⟨.inl rfl,.inl rfl,.inl rfl,.inl rfl,.inr (dP.get ⟨.vec _ _,.int _ _,trivial⟩),.inr (dP.get ⟨.ptr _ _ _ ?_,.vec _ _,.vec _ _,.own _ _ _ _ ?_,.int _ _,.bool _,trivial⟩),.inl rfl,.inl rfl,.inl rfl,kS.refl _ _⟩
  · rw[aQ];unfold Frame.n;omega
  · rw[aQ];unfold Frame.n;omega
theorem sT {I':Int}{l':c8}(hk:kS (e.n+l'.length) l l'):z5 (hB c e I left++l) (hB c e I' left'++l'):=
  bE.app (by rw[aQ,aQ]) (by rw[aQ];exact hk)
end
theorem Ea (c:Core)(e:Frame)(left:Int):bP 4 c.L e.n fun I=>hB c e I left:=⟨fun _=>rfl,fun _ _=>rfl,fun _=>aQ⟩
theorem dI {c:Core}{e:Frame}{left:Int}(l:c8)(I n:Int)(hI:OkI c.L I)(hL:c.L.length<4611686018427387904)(hn:0<n)(hm:n≤4611686018427387904):CH 29 [.ptr 4 0 0,.int .i64 n] (hB c e I left++l) (.int .i64 (c5 c.L I n).1) (hB c e (c5 c.L I n).2 left++l):=lA (Ea c e left) l I n hI hL hn hm
theorem oG {c:Core}{e:Frame}{left:Int}(l:c8)(I v:Int)(hI:OkI c.L I)(hL:c.L.length<4611686018427387904)(names:List BA)(hN:names.length<1000)(hv:0≤v∧v<1000):CH 89 [.ptr 4 0 0,.vec names.length (p7 names),.int .i64 v] (hB c e I left++l) (.agg (u7 (dB c.L names v.toNat I).1)) (hB c e (dB c.L names v.toNat I).2 left++l):=by have h:=EP hL names hN v.toNat (by omega) ((Ea c e left).app l) I hI;rw[Int.toNat_of_nonneg hv.1]at h;exact h
variable {i:Nat}
theorem lH {l:List Mx}(h:i<l.length):List.take 1 (List.drop (i*3+2) (j4 l))=[AV.int .i64 (l.getD i cK).size]:=by have:=congrArg (fun x=>x.drop 2) (tW h);simp only[List.drop_take,List.drop_drop]at this;simpa using this
theorem zB {l:List Mx}(h:i<l.length):List.take 1 (List.drop (i*3) (j4 l))=[AV.str (l.getD i cK).name]:=by have:=congrArg (fun x=>x.take 1) (tW h);simp only[List.take_take]at this;simpa using this
theorem pI {l:List Pm}(h:i<l.length):List.take 1 (List.drop (i*2) (p9 l))=[AV.str (l.getD i fC).name]:=by have:=congrArg (fun x=>x.take 1) (yI h);simp only[List.take_take]at this;simpa using this
theorem fK {l:List Pm}(h:i<l.length):List.take 1 (List.drop (i*2+1) (p9 l))=[AV.bool (l.getD i fC).mu]:=by have:=congrArg (fun x=>x.drop 1) (yI h);simp only[List.drop_take,List.drop_drop]at this;simpa using this
variable {vars:List BA}{size:Int}
theorem FT {c:Core}{I:Int}(h:c.ar=true)(h2:(c5 c.L I 3).1=1):bZ c vars size I=dB c.L vars 1 (c5 c.L I 3).2:=by rw[bZ,if_pos h,if_pos h2]
theorem FU {c:Core}{I:Int}(h:c.ar=true)(h2:¬(c5 c.L I 3).1=1):bZ c vars size I=(.leaf 1 (c5 c.L (c5 c.L I 3).2 size).1 ByteArray.empty,(c5 c.L (c5 c.L I 3).2 size).2):=by rw[bZ,if_pos h,if_neg h2]
theorem RP {c:Core}{I:Int}(h:c.ar=false):bZ c vars size I=(.leaf 1 (c5 c.L I size).1 ByteArray.empty,(c5 c.L I size).2):=by rw[bZ,if_neg t201]
theorem FV {c:Core}{I:Int}(h:c.ar=true):g5 c vars I=dB c.L vars (1+(c5 c.L I 2).1).toNat (c5 c.L I 2).2:=by rw[g5,if_pos h]
theorem FW {c:Core}{I:Int}(h:c.ar=false):g5 c vars I=dB c.L vars 0 I:=by rw[g5,if_neg t201]
attribute [local go_sem] l7 w3 n7 w9 o8 Int.natCast_nonneg Int.natCast_inj List.length_map aQ ZF ZG ZH AR AS AT AU bC mP bJ oF
theorem frz_E {n d:Nat}{H:c8}{a:Ex}:r6 (iT n H (d+1)) (u7 a)=some (u7 a):=by rw[aI];rfl
theorem zC {r:Rf}:mB (D9 ⟨true,r,l4⟩) (.bool true::(wH r++[.int .i64 0,.int .i64 0,.str ByteArray.empty,.j9])):=⟨.inl rfl,.inl rfl,.inl rfl,.inl rfl,.inl rfl,.inl rfl,.inr ⟨rfl,rfl⟩,trivial⟩
theorem uP {x:Ex}:mB (D9 ⟨false,n5,x⟩) (.bool false::.str ByteArray.empty::.j9::u7 x):=⟨.inl rfl,.inl rfl,.inr ⟨rfl,rfl⟩,mB.refl _⟩
theorem VR {n d:Nat}{H:c8}{l:List Ar}:r6 (kN n H (d+1)) (aH l)=some (aH l):=by
  induction l with
  | nil=>rfl
  | cons a l ih=>
    refine qR ?_ ih;simp only[D9,r6,mJ,kT,jL,L5]
section
attribute [local go_sem] eT
theorem M6 {c:Core}{e:Frame}{left I:Int}(hc:OkC c)(hI:OkI c.L I)(hL:c.L.length<4611686018427387904)(vars:List BA)(hN:vars.length<1000)(size:Int)(hs:0<size∧size≤3):CH 88 [.ptr 5 0 0,.vec vars.length (p7 vars),.int .i64 size] (hB c e I left) (.agg (u7 (bZ c vars size I).1)) (hB c e (bZ c vars size I).2 left):=by
  refine .wz Tryz.f88 32 ?_;have h3:=l3 hI (n:=3) (by omega);refine c20z ?_;refine c40z ?_;refine .spl 11 rfl rfl (fun e1=>?_) (fun e1=>?_)
  ·try simp only[e1]
   have qe1:=fact e1;refine .k 4 [(4,11)] ?_;refine .ch rfl rfl (dI _ _ 3 hI hL (by omega) (by omega)) ?_;refine .m [(4,11)] ?_;refine u2z ?_ ?_
   ·intro e2 qe2;refine .c9 [0,1,6] ?_;refine c40z ?_;refine .ch rfl rfl (oG _ _ 1 h3.2.2 hL vars hN (by omega)) ?_;refine c176z ?_;exact ⟨hB _ _ _ _,_,_,rfl,t60,bE,t4,t50⟩
   intro e2 qe2;refine .sk ?_;refine c291z ?_;refine c176z ?_;exact ⟨hB _ _ _ _,_,_,rfl,t60,bE,t4,t50⟩
  try simp only[e1]
  have qe1:=fact e1;refine .m [(4,11)] ?_;refine c22z ?_;refine c291z ?_;refine c176z ?_;exact ⟨hB _ _ _ _,_,_,rfl,t60,bE,t4,t50⟩
end
section
attribute [local go_sem] eT wrap64
theorem M7 {c:Core}{e:Frame}{left I:Int}(hc:OkC c)(hI:OkI c.L I)(hL:c.L.length<4611686018427387904)(vars:List BA)(hN:vars.length<1000):CH 65 [.ptr 5 0 0,.vec vars.length (p7 vars)] (hB c e I left) (.agg (u7 (g5 c vars I).1)) (hB c e (g5 c vars I).2 left):=by
  refine .wz Tryz.f65 28 ?_;have h2:=l3 hI (n:=2) (by omega);refine c82z ?_;refine u2z ?_ ?_
  ·intro e1 qe1;refine c40z ?_;refine .ch rfl rfl (oG _ _ 0 hI hL vars hN (by omega)) ?_;refine c176z ?_;exact ⟨hB _ _ _ _,_,_,rfl,t60,bE,t4,t81⟩
  intro e1 qe1;refine .sk ?_;refine .sm w7 (mkP 13 [0,1,3,7,0,0,32,96,224,480,992,2047,4095] [9,11,12]) [0,1,2,3,4] ?_;refine dD.p (pd:=[]) 9 ?_;refine dD.v7 rfl rfl rfl rfl rfl sF (dI _ _ 2 hI hL (by omega) (by omega)) ?_;refine dD.p 1 ?_;refine dD.v7 rfl rfl rfl rfl rfl Am (oG _ _ _ h2.2.2 hL vars hN (by omega)) ?_;refine dD.p 1 ?_;refine dD.nil t8 ?_;refine c7z ?_;exact ⟨hB _ _ _ _,_,_,rfl,t60,bE,t4,t81⟩
end
theorem fM {l:List BA}{x:BA}:p7 (l++[x])=p7 l++[.str x]:=by simp[p7]
theorem wT {c:Core}(h:i<c.ms.length):(c.ms.map (·.name)).take (i+1)=(c.ms.map (·.name)).take i++[(c.ms.getD i cK).name]:=by rw[List.take_add_one];simp[List.getD,h]
theorem mQ (l m:List Pm):extra (l++m)=extra l++extra m:=by
  induction l with
  | nil=>rfl
  | cons p l ih=>simp only[List.cons_append,extra];split<;>simp[ih]
variable {j:Nat}
theorem kG {l:List Pm}(h:j<l.length):l.take (j+1)=l.take j++[l.getD j fC]:=by rw[List.take_add_one];simp[List.getD,h]
variable {ps:List Pm}
theorem M8 {c:Core}:j0 c (ps.take 0)=c.ms.map (·.name):=by simp[j0,extra]
theorem rn_t {c:Core}(h:j<ps.length)(hm:(ps.getD j fC).mu=true):j0 c (ps.take (j+1))=j0 c (ps.take j)++[(ps.getD j fC).name]++[(ps.getD j fC).name]:=by rw[kG h];simp only[j0,mQ,List.append_assoc];simp only[extra,hm,if_true];rfl
theorem rn_f {c:Core}(h:j<ps.length)(hm:(ps.getD j fC).mu=false):j0 c (ps.take (j+1))=j0 c (ps.take j):=by rw[kG h];simp only[j0,mQ];simp only[extra,hm,Bool.false_eq_true,if_false,List.append_nil]
theorem FX {c:Core}{I:Int}(h1:(c5 c.L I (j0 c ps).length).1<c.ms.length)(h2:0<(c.ms.getD (c5 c.L I (j0 c ps).length).1.toNat cK).size):l9 c ps vars I=
    (⟨(j0 c ps).getD (c5 c.L I (j0 c ps).length).1.toNat ByteArray.empty,[(bZ c vars (c.ms.getD (c5 c.L I (j0 c ps).length).1.toNat cK).size (c5 c.L I (j0 c ps).length).2).1]⟩,(bZ c vars (c.ms.getD (c5 c.L I (j0 c ps).length).1.toNat cK).size (c5 c.L I (j0 c ps).length).2).2):=if_pos ⟨h1,h2⟩
theorem FY {c:Core}{I:Int}(h:¬((c5 c.L I (j0 c ps).length).1<c.ms.length∧0<(c.ms.getD (c5 c.L I (j0 c ps).length).1.toNat cK).size)):l9 c ps vars I=
    (⟨(j0 c ps).getD (c5 c.L I (j0 c ps).length).1.toNat ByteArray.empty,[]⟩,(c5 c.L I (j0 c ps).length).2):=if_neg h
theorem M9 {l:List BA}(h:0<l.length):p7 l≠[]:=by intro e;have:=congrArg List.length e;rw[w3,List.length_nil]at this;omega
theorem F9 {x:Ex}:n9 [x]=u7 x:=by simp[n9]
theorem uQ {c:Core}{e:Frame}{I left:Int}{fb rb:Blk}{g n:Nat}{zs:List BA}{x:AV}(hz:zs.length=n)(hn:n<1000) :
    g8 cfg 9 (hB c e I left++[fb,rb,n4 9 1 g (p7 zs),⟨0,false,9,1,[x],0⟩]) (.own (e.n+2) g 0 n) (.own (e.n+3) 0 0 1)=some (.own (e.n+2) (g+1) 0 (n+1),hB c e I left++[fb,rb,n4 9 1 (g+1) (p7 zs++[x]),⟨0,false,9,1,[x],0⟩]):=by
  have hb:(hB c e I left++[fb,rb,n4 9 1 g (p7 zs),⟨0,false,9,1,[x],0⟩])[e.n+2]?=some (n4 9 1 g (p7 zs)):=bC;rw[s9 (C:=cfg) (K:=1) (m:=1) (new:=[x]) hb rfl (by omega) t206 rfl (by omega) t105 rfl (by decide) (by omega),bJ];rfl
theorem qT {c:Core}{e:Frame}{I left:Int}{fb rb:Blk}{g n:Nat}{zs:List BA}{x y:AV}(hz:zs.length=n)(hn:n<1000) :
    g8 cfg 9 (hB c e I left++[fb,rb,n4 9 1 g (p7 zs),⟨0,false,9,1,[x,y],0⟩]) (.own (e.n+2) g 0 n) (.own (e.n+3) 0 0 2)=some (.own (e.n+2) (g+1) 0 (n+2),hB c e I left++[fb,rb,n4 9 1 (g+1) (p7 zs++[x,y]),⟨0,false,9,1,[x,y],0⟩]):=by
  have hb:(hB c e I left++[fb,rb,n4 9 1 g (p7 zs),⟨0,false,9,1,[x,y],0⟩])[e.n+2]?=some (n4 9 1 g (p7 zs)):=bC;rw[s9 (C:=cfg) (K:=1) (m:=2) (new:=[x,y]) hb rfl (by omega) t206 rfl (by omega) t105 rfl (by decide) (by omega),bJ];rfl
theorem FZ {n:Nat}{l:List BA}:∀x∈p7 l,Refs n x:=by intro x hx;obtain ⟨y,_,rfl⟩:=List.mem_map.1 hx;exact .str _
theorem Frame.n_ge (e:Frame):9≤e.n:=by unfold Frame.n;omega
theorem zD {c:Core}{e:Frame}{left I:Int}{l:c8}(hc:OkC c)(hI:OkI c.L I)(hL:c.L.length<4611686018427387904)(vars:List BA)(hN:vars.length<1000)(size:Int)(hs:0<size∧size≤3):CH 88 [.ptr 5 0 0,.vec vars.length (p7 vars),.int .i64 size] (hB c e I left++l) (.agg (u7 (bZ c vars size I).1)) (hB c e (bZ c vars size I).2 left++l):=M6 (e:=⟨e.b0,e.b1,e.b2,e.z,e.m,e.g,e.rest++l⟩) hc hI hL vars hN size hs
theorem pJ {c:Core}{e:Frame}{left I:Int}{l:c8}(hc:OkC c)(hI:OkI c.L I)(hL:c.L.length<4611686018427387904)(vars:List BA)(hN:vars.length<1000):CH 65 [.ptr 5 0 0,.vec vars.length (p7 vars)] (hB c e I left++l) (.agg (u7 (g5 c vars I).1)) (hB c e (g5 c vars I).2 left++l):=M7 (e:=⟨e.b0,e.b1,e.b2,e.z,e.m,e.g,e.rest++l⟩) hc hI hL vars hN
section
attribute [local go_sem] eT wrap64 aO uQ qT zB lH pI fK nR vZ A5 nH max2
theorem VS {c:Core}{e:Frame}{left I:Int}(hc:OkC c)(hI:OkI c.L I)(hL:c.L.length<4611686018427387904)(vars:List BA)(hN:vars.length<1000)(f:Fu)(hp:f.params.length≤2):CH 64 [.ptr 5 0 0,.agg (aO f),.vec vars.length (p7 vars)] (hB c e I left) (.agg (wH (l9 c f.params vars I).1)) (hB c e (l9 c f.params vars I).2 left):=by
  refine .wz Tryz.f64 107 ?_;have hml:=hc.ml;refine c87z ?_;refine g6.oB 7 rfl ?_;refine .aD (fun m st=>∃(i:Nat),(m=c.ms.length-i∧i≤c.ms.length)∧st=⟨mkS 107 [(0,AV.ptr 5 0 0),(2,AV.vec vars.length (p7 vars)),(4,AV.ptr e.n 0 0),(6,AV.ptr (e.n+1) 0 0),(7,AV.own (e.n+2) i 0 i),(8,AV.int .i64 ((i:Nat):Int))],hB c e I left++[⟨0,false,122,3,[.str f.name,.vec f.params.length (p9 f.params),.vec f.body.len (n8 f.body)],0⟩,⟨0,false,146,2,[.str ByteArray.empty,.j9],0⟩,n4 9 1 i (p7 ((c.ms.map (·.name)).take i))]⟩) (.v ⟨0,⟨rfl,by omega⟩,rfl⟩ (hs:=t20) (hr:=t0)) ?_;rintro m sl h' ⟨i,⟨hm,hi⟩,hst⟩;obtain ⟨rfl,rfl⟩:=St.mk.inj hst;clear hst;have htk:((c.ms.map (·.name)).take i).length=i:=by simp;omega
  refine c0z ?_;refine u2z ?_ ?_
  ·intro e1 qe1;refine c5z ?_;refine .c9 [0,2,4,6,7,8] ?_;refine c222z ?_;refine .c9 [0,2,4,6,7,8] ?_;refine .rz ?_;exact ⟨_,by omega,.v ⟨(i+1),⟨rfl,by omega⟩,rfl⟩ (he:=t180) (hl:=t12) (hk:=t84) (hs:=t20) (hr:=t0)⟩
  intro e1 qe1;refine .exit ?_;obtain rfl:i=c.ms.length:=by omega
  change g6 ..;refine .c9 [0,2,4,6,7] ?_;refine c25z ?_;refine .aD (fun m st=>∃(j:Nat) (g:Nat),(m=f.params.length-j∧j≤f.params.length)∧st=⟨mkS 107 [(0,AV.ptr 5 0 0),(2,AV.vec vars.length (p7 vars)),(4,AV.ptr e.n 0 0),(6,AV.ptr (e.n+1) 0 0),(7,AV.own (e.n+2) g 0 (j0 c (f.params.take j)).length),(9,AV.int .i64 ((c.ms.length:Nat):Int)),(10,AV.int .i64 ((j:Nat):Int))],hB c e I left++[⟨0,false,122,3,[.str f.name,.vec f.params.length (p9 f.params),.vec f.body.len (n8 f.body)],0⟩,⟨0,false,146,2,[.str ByteArray.empty,.j9],0⟩,n4 9 1 g (p7 (j0 c (f.params.take j)))]⟩) (.v ⟨0,c.ms.length,⟨rfl,by omega⟩,rfl⟩ (hs:=t37) (hr:=t0)) ?_ (he:=t168);rintro m sl h' ⟨j,g,⟨hm,hj⟩,hst⟩;obtain ⟨rfl,rfl⟩:=St.mk.inj hst;clear hst;have hxl:=(gX hc (f.params.take j)).2;have hxt:(f.params.take j).length≤2:=by simp;omega
  refine c0z ?_;refine u2z ?_ ?_
  ·intro e2 qe2;refine c177z ?_;refine u2z ?_ ?_
   ·intro e3 qe3;refine .c9 [0,2,4,6,7,9,10] ?_;refine g6.jF w7 (mkP 16 [0,0,2,0,14,30,62,0,128,0,896,1920,3968,8190,16383,32767] [13,14]) [0] (by kernel_rfl) (by kernel_rfl) ?_;refine dD.p (pd:=[]) 16 ?_;refine dD.nil t8 ?_;change g6 ..;refine c232z ?_;have hxs:=congrArg List.length (rn_t (c:=c) (j:=j) (ps:=f.params) (by omega) (by assumption));simp only[List.length_append,List.length_singleton]at hxs;exact ⟨_,by omega,.v ⟨(j+1),(g+1),⟨rfl,by omega⟩,rfl⟩ (he:=t158) (hl:=t12) (hk:=t84) (hs:=t37) (hr:=t0)⟩
   intro e3 qe3;refine c8z ?_;refine c232z ?_;have hxs:=congrArg List.length (rn_f (c:=c) (j:=j) (ps:=f.params) (by omega) (by assumption));exact ⟨_,by omega,.v ⟨(j+1),g,⟨rfl,by omega⟩,rfl⟩ (he:=t224) (hl:=t12) (hk:=t84) (hs:=t37) (hr:=t0)⟩
  intro e2 qe2;refine .exit ?_;obtain rfl:j=f.params.length:=by omega
  rw[List.take_length]at hxl ⊢;change g6 ..;have hrl:=gX hc f.params;have hk:=l3 hI (n:=((j0 c f.params).length:Int)) (by omega);rw[eR (M9 hrl.1)];refine c149z ?_;refine .n ?_;refine .c9 [0,2,6,7,9,11] ?_;refine c20z ?_;refine c30z ?_;refine .spl 80 rfl rfl (fun e4=>?_) (fun e4=>?_)
  ·try simp only[e4]
   have qe4:=fact e4;refine c262z ?_;refine u2z ?_ ?_
   ·intro e5 qe5;refine .c9 [0,2,6,11,12] ?_;have hsz:=hc.mx (c5 c.L I (j0 c f.params).length).1.toNat (by omega);refine c158z ?_;refine .e 3 ?_;refine .ch rfl rfl (zD hc hk.2.2 hL vars hN _ (by omega)) ?_;refine c42z ?_;refine c211z ?_;exact ⟨hB _ _ _ _,_,_,rfl,t60,bE,t4,t63⟩
   intro e5 qe5;refine .sk ?_;refine c211z ?_;exact ⟨hB _ _ _ _,_,_,rfl,t60,bE,t4,t63⟩
  try simp only[e4]
  have qe4:=fact e4;refine c262z ?_;refine c22z ?_;refine c211z ?_;exact ⟨hB _ _ _ _,_,_,rfl,t60,bE,t4,t63⟩
end
end Go.Proofs.YtapdldekgbbomaaGreatDoor
end
section
namespace Go.Proofs.YtapdldekgbbomaaGreatDoor
open Go.Ab Go.Un
structure Sco where
  p:Go.Un.Pg
  l:List Ent
  loc:Int
  st:Int
  code:List Ins
  sites:List Int
structure Frm where
  pre:c8
  rest:c8
def Frm.k (e:Frm):Nat:=e.pre.length
def Frm.n (e:Frm):Nat:=e.pre.length+(e.rest.length+3)
def aW (k:Nat)(s:Sco):Blk:=⟨0,false,161,10,[.vec s.p.globals.length (o6 s.p.globals),.vec s.p.c6.length (j4 s.p.c6),.vec s.p.funcs.length (l8 s.p.funcs),.vec s.l.length (j8 s.l),.int .i64 s.loc,.int .i64 s.st,.int .i64 0,.int .i64 0,.own (k+1) s.code.length 0 s.code.length,.own (k+2) s.sites.length 0 s.sites.length],0⟩
def hT (e:Frm)(b:Blk)(c:List Ins)(ss:List Int):c8:=e.pre++(b::n4 105 12 c.length (s3 c)::n4 3 1 ss.length (encI ss)::e.rest)
section
variable {e:Frm}{b b':Blk}{c c':List Ins}{ss ss':List Int}{l:c8}{j:Nat}
theorem bD:(hT e b c ss).length=e.n:=by simp[hT,Frm.n]
theorem Frm.lt (e:Frm):e.k<e.n∧e.k+1<e.n∧e.k+2<e.n:=by unfold Frm.k Frm.n;omega
theorem hT_0:(hT e b c ss)[e.k]?=some b:=by rw[hT,Frm.k,List.getElem?_append_right (Nat.le_refl _),Nat.sub_self];rfl
theorem hT_1:(hT e b c ss)[e.k+1]?=some (n4 105 12 c.length (s3 c)):=by rw[hT,Frm.k,List.getElem?_append_right (by omega),Nat.add_sub_cancel_left];rfl
theorem hT_2:(hT e b c ss)[e.k+2]?=some (n4 3 1 ss.length (encI ss)):=by rw[hT,Frm.k,List.getElem?_append_right (by omega),Nat.add_sub_cancel_left];rfl
theorem NS:(hT e b c ss++l)[e.k]?=some b:=by rw[List.getElem?_append_left (by rw[bD];exact e.lt.1),hT_0]
theorem NT:(hT e b c ss++l)[e.k+1]?=some (n4 105 12 c.length (s3 c)):=by rw[List.getElem?_append_left (by rw[bD];exact e.lt.2.1),hT_1]
theorem NU:(hT e b c ss++l)[e.k+2]?=some (n4 3 1 ss.length (encI ss)):=by rw[List.getElem?_append_left (by rw[bD];exact e.lt.2.2),hT_2]
theorem eK:(hT e b c ss++l)[e.n+j]?=l[j]?:=by rw[List.getElem?_append_right (by rw[bD];omega),bD,Nat.add_sub_cancel_left]
theorem zE:(hT e b c ss++l)[e.n]?=l[0]?:=by rw[List.getElem?_append_right (by rw[bD];omega),bD,Nat.sub_self]
theorem iC:(hT e b c ss++l).set (e.n+j) b'=hT e b c ss++l.set j b':=by rw[List.set_append_right _ _ (by rw[bD];omega),bD,Nat.add_sub_cancel_left]
theorem N0:(hT e b c ss++l).set e.n b'=hT e b c ss++l.set 0 b':=by rw[List.set_append_right _ _ (by rw[bD];omega),bD,Nat.sub_self]
theorem NV:(hT e b c ss).set e.k b'=hT e b' c ss:=by rw[hT,Frm.k,List.set_append_right _ _ (Nat.le_refl _),Nat.sub_self];rfl
theorem U5:(hT e b c ss++l).set e.k b'=hT e b' c ss++l:=by rw[List.set_append_left _ _ (by rw[bD];exact e.lt.1),NV]
theorem hT_p1:(hT e b c ss).set (e.k+1) (n4 105 12 c'.length (s3 c'))=hT e b c' ss:=by rw[hT,Frm.k,List.set_append_right _ _ (by omega),Nat.add_sub_cancel_left];rfl
theorem hT_p2:(hT e b c ss).set (e.k+2) (n4 3 1 ss'.length (encI ss'))=hT e b c ss':=by rw[hT,Frm.k,List.set_append_right _ _ (by omega),Nat.add_sub_cancel_left];rfl
theorem RQ:(hT e b c ss++l).set (e.k+1) (n4 105 12 c'.length (s3 c'))=hT e b c' ss++l:=by rw[List.set_append_left _ _ (by rw[bD];exact e.lt.2.1),hT_p1]
theorem hT_p2a:(hT e b c ss++l).set (e.k+2) (n4 3 1 ss'.length (encI ss'))=hT e b c ss'++l:=by rw[List.set_append_left _ _ (by rw[bD];exact e.lt.2.2),hT_p2]
theorem RS:hT e b c ss++l=hT ⟨e.pre,e.rest++l⟩ b c ss:=by simp[hT]
end
theorem RT (l:List Ins):z4 (s3 l):=z4.flat fun i=>by rw[eS,aI];exact .cons .int (.cons .int (.cons .bool (.cons .int (.cons .int (.cons .str (.cons .vec (.cons .bool (.cons .int (.cons .vec (.cons .vec (.cons .vec .nil)))))))))))
theorem pK (l:List Int):z4 (encI l):=z4.map fun _=>.int
theorem zF {e:Frm}{b b':Blk}{c c':List Ins}{ss ss':List Int}(hb:∀x∈b'.cells,Refs e.n x):z5 (hT e b c ss) (hT e b' c' ss'):=by unfold hT;refine z5.app (z5.refl _) rfl ⟨.inr ?_,.inr (by rw[o5];exact (RT _).refs _),.inr t219,kS.refl _ _⟩;rw[show e.pre.length+(b'::n4 105 12 c'.length (s3 c')::n4 3 1 ss'.length (encI ss')::e.rest).length=e.n from by simp[Frm.n]];exact hb
variable {s:Sco}
theorem hT_keep {e:Frm}{k:Nat}{s':Sco}:k=e.k→z5 (hT e (aW k s) s.code s.sites) (hT e (aW k s') s'.code s'.sites):=by
  rintro rfl;refine zF (dP.get ⟨.vec _ _,.vec _ _,.vec _ _,.vec _ _,.int _ _,.int _ _,.int _ _,.int _ _,.own _ _ _ _ ?_,.own _ _ _ _ ?_,trivial⟩)
  · exact e.lt.2.1
  · exact e.lt.2.2
theorem gM {f:FuncId}{args:List AV}{x:AV}{s':Sco}{l:c8}{e:Frm}(h:CH f args (hT ⟨e.pre,e.rest++l⟩ (aW e.k s) s.code s.sites) x (hT ⟨e.pre,e.rest++l⟩ (aW e.k s') s'.code s'.sites)):CH f args (hT e (aW e.k s) s.code s.sites++l) x (hT e (aW e.k s') s'.code s'.sites++l):=by rw[RS,RS];exact h
theorem A6 {α:Type}(f:α→List AV)(K j:Nat)(hK:∀a,(f a).length=K)(hj:j<K)(d:α){l:List α}{i:Nat}(h:i<l.length):List.take 1 (List.drop (i*K+j) (l.flatMap f))=List.take 1 (List.drop j (f (l.getD i d))):=by rw[←bM f K hK d h,List.drop_take,List.take_take,List.drop_drop,Nat.min_eq_left (by omega)]
theorem kH {l:List Ent}{i:Nat}(h:i<l.length):List.take 1 (List.drop (i*3) (j8 l))=[.str (l.getD i jX).name]:=A6 iU 3 0 (fun _=>rfl) (by omega) jX h
variable {x:BA}
theorem find_at {l:List Ent}:∀{i:Nat},i<l.length→(∀d,d<i→((l.getD d jX).name.toList==x.toList)=false)→((l.getD i jX).name.toList==x.toList)=true→cD l x=some (l.getD i jX):=by
  have tl:∀{a b:BA},(a.toList==b.toList)=decide (a=b):=by
    intro a b;rw[ByteArray.toList_eq,ByteArray.toList_eq,Bool.eq_iff_iff];simp only[beq_iff_eq,decide_eq_true_eq];constructor
    · intro h
      exact ByteArray.ext (Array.toList_inj.1 h)
    · rintro rfl;rfl
  induction l with
  | nil=>intro i h;simp at h
  | cons e l ih=>
    intro i hi h1 h2;rw[cD,List.find?_cons];cases i with
    | zero=>
      rw[tl]at h2;simp only[List.getD_cons_zero]at h2 ⊢;rw[h2]
    | succ i=>
      have h0:=h1 0 (by omega);rw[tl]at h0;simp only[List.getD_cons_zero]at h0;rw[h0];simp only[List.getD_cons_succ]at h2 ⊢;exact ih (by simpa using hi) (fun d hd=>by have:=h1 (d+1) (by omega);simpa using this) h2
theorem find_no {l:List Ent}(h:∀d,d<l.length→((l.getD d jX).name.toList==x.toList)=false):cD l x=none:=by rw[cD,List.find?_eq_none];intro e he;obtain ⟨i,hi,rfl⟩:=cM (d:=jX) he;have:=h i hi;intro hc;simp only[decide_eq_true_eq]at hc;rw[hc]at this;simp at this
theorem find_nx {l:List Ent}{i:Nat}(h:∀d,d<i→((l.getD d jX).name.toList==x.toList)=false)(e:((l.getD i jX).name.toList==x.toList)=false):∀d,d<i+1→((l.getD d jX).name.toList==x.toList)=false:=fun d hd=>by
  by_cases hdi:d=i
  · rw[hdi];exact e
  · exact h d (by omega)
variable {v:Ent}
theorem U6 {l:List Ent}(h:cD l x=some v):AV.tup [.agg [.str v.name,.int .i64 v.kind,.int .i64 v.n],.bool true]=.tup [.agg (iU (fA l x)),.bool (cD l x).isSome]:=by rw[eM h,h];rfl
theorem U7 {l:List Ent}(h:cD l x=none):AV.tup [.agg [.str ByteArray.empty,.int .i64 0,.int .i64 0],.bool false]=.tup [.agg (iU (fA l x)),.bool (cD l x).isSome]:=by rw[fA,h];rfl
variable {i:Ins}
theorem lI:eS i=[.int .i64 i.op,.int .i64 i.target,.bool i.global,.int .i64 i.e.op,.int .i64 i.e.num,.str i.e.name,.vec i.e.args.length (n9 i.e.args),.bool i.pl.param,.int .i64 i.pl.index,.vec i.pl.at'.length (n9 i.pl.at'),.vec i.ints.length (n9 i.ints),.vec i.places.length (dY i.places)]:=by rw[eS,aI];rfl
theorem N1 {l:List Ins}:s3 (l++[i])=s3 l++eS i:=by simp[s3]
theorem pL {l:List Int}{i:Int}:encI (l++[i])=encI l++[.int .i64 i]:=by simp[encI]
theorem VX (l:List Ex):z4 (n9 l):=z4.flat fun e=>by rw[aI];exact .cons .int (.cons .int (.cons .str (.cons .vec .nil)))
theorem GA (l:List Pl):z4 (dY l):=z4.flat fun p=>.cons .bool (.cons .int (.cons .vec .nil))
theorem uR:List.take 12 (eS i)=eS i:=List.take_of_length_le (by rw[bN];omega)
variable {b0:Blk}
theorem NX {e:Frm}{b:Blk}{c:List Ins}{ss:List Int}{l:c8}{n:Nat}(hn:c.length=n)(hl:n<100000):g8 cfg 105 (hT e b c ss++(b0::⟨1,false,105,12,eS i,0⟩::l)) (.own (e.k+1) n 0 n) (.own (e.n+1) 1 0 1)=some (.own (e.k+1) (n+1) 0 (n+1),hT e b (c++[i]) ss++(b0::⟨1,false,105,12,eS i,0⟩::l)):=by
  subst hn;have h1:(c++[i]).length=c.length+1:=by simp
  rw[s9 (C:=cfg) (K:=12) (m:=1) (new:=eS i) NT rfl (by omega) (by rw[u5,Nat.mul_comm]) (by rw[bN]) (by omega) (by simp[rd,eK,bN,uR]) rfl (by decide) (by omega),←N1,←h1,RQ]
theorem G0 {e:Frm}{b:Blk}{c:List Ins}{ss:List Int}{l:c8}{n:Nat}(hn:c.length=n)(hl:n<100000):g8 cfg 105 (hT e b c ss++(b0::⟨1,false,105,12,[.int .i64 i.op,.int .i64 i.target,.bool i.global,.int .i64 i.e.op,.int .i64 i.e.num,.str i.e.name,.vec i.e.args.length (n9 i.e.args),.bool i.pl.param,.int .i64 i.pl.index,.vec i.pl.at'.length (n9 i.pl.at'),.vec i.ints.length (n9 i.ints),.vec i.places.length (dY i.places)],0⟩::l)) (.own (e.k+1) n 0 n) (.own (e.n+1) 1 0 1)=some (.own (e.k+1) (n+1) 0 (n+1),hT e b (c++[i]) ss++(b0::⟨1,false,105,12,[.int .i64 i.op,.int .i64 i.target,.bool i.global,.int .i64 i.e.op,.int .i64 i.e.num,.str i.e.name,.vec i.e.args.length (n9 i.e.args),.bool i.pl.param,.int .i64 i.pl.index,.vec i.pl.at'.length (n9 i.pl.at'),.vec i.ints.length (n9 i.ints),.vec i.places.length (dY i.places)],0⟩::l)):=by rw[←lI];exact NX hn hl
theorem U8 {e:Frm}{b b1:Blk}{c:List Ins}{ss:List Int}{l:c8}{t:Int}{n:Nat}(hn:ss.length=n)(hl:n<100000):g8 cfg 3 (hT e b c ss++(b0::b1::⟨1,false,3,1,[.int .i64 t],0⟩::l)) (.own (e.k+2) n 0 n) (.own (e.n+2) 1 0 1)=some (.own (e.k+2) (n+1) 0 (n+1),hT e b c (ss++[t])++(b0::b1::⟨1,false,3,1,[.int .i64 t],0⟩::l)):=by
  subst hn;have h1:(ss++[t]).length=ss.length+1:=by simp
  rw[s9 (C:=cfg) (K:=1) (m:=1) (new:=[.int .i64 t]) NU rfl (by omega) (by rw[l7,Nat.mul_one]) rfl (by omega) (by simp[rd,eK]) rfl (by decide) (by omega),←pL,←h1,hT_p2a]
attribute [local go_sem] g8 rd w5 o8 bY cR u5 bN gG cS n7 aJ w9 l7 aM Int.natCast_nonneg Int.natCast_inj List.length_map wrap64 eT jO jP I6 vZ A5 I7 nH max2 fG dL cA Nat.reduceMul nG kH aW iU lH fK uR bD hT_0 hT_1 hT_2 NS NT NU eK zE iC N0 NV U5
variable {h:c8}
theorem RU (l:List Ent)(x:BA)(hl:l.length<1000000):CB 48 [.vec l.length (j8 l),.str x] h (.tup [.agg (iU (fA l x)),.bool (cD l x).isSome]):=by
  refine .bz Tryz.f48 25 ?_;refine c25z ?_;refine .jE (fun m st=>∃(i:Nat),(m=l.length-i∧((∀d,d<i→((l.getD d jX).name.toList==x.toList)=false)∧i≤l.length))∧st=⟨mkS 25 [(0,AV.vec l.length (j8 l)),(1,AV.str x),(4,AV.ptr h.length 0 0),(6,AV.int .i64 ((i:Nat):Int))],h++[⟨0,false,131,3,[.str ByteArray.empty,.int .i64 0,.int .i64 0],0⟩]⟩) _ (.v ⟨0,⟨rfl,⟨t104,by omega⟩⟩,rfl⟩) ?_;rintro m sl h' ⟨i,⟨hm,⟨hI,hi⟩⟩,hst⟩;obtain ⟨rfl,rfl⟩:=St.mk.inj hst;refine c0z ?_;refine u2z ?_ ?_
  ·intro e1 qe1;refine c177z ?_;refine u2z ?_ ?_
   ·intro e2 qe2;refine .c9 [0,4,6] ?_;refine .z ?_;exact .ret (.ex (hq:=t202))
   intro e2 qe2;refine c8z ?_;refine .c9 [0,1,4,6] ?_;refine .rz ?_;exact ⟨_,by omega,.v ⟨(i+1),⟨rfl,⟨find_nx hI (by assumption),by omega⟩⟩,rfl⟩⟩
  intro e1 qe1;refine .exit ?_;obtain rfl:i=l.length:=by omega
  change g6 ..;refine .z ?_;exact .ret (.ex (hq:=t202))
theorem N2 {l:List Ent}(hf:cD l x=some v)(hl:l.length<1000000):CB 48 [.vec l.length (j8 l),.str x] h (.tup [.agg [.str v.name,.int .i64 v.kind,.int .i64 v.n],.bool true]):=by have:=RU (h:=h) l x hl;rw[←U6 hf]at this;exact this
theorem GB {l:List Ent}(hf:cD l x=none)(hl:l.length<1000000):CB 48 [.vec l.length (j8 l),.str x] h (.tup [.agg [.str ByteArray.empty,.int .i64 0,.int .i64 0],.bool false]):=by have:=RU (h:=h) l x hl;rw[←U7 hf]at this;exact this
theorem c_var {e:Frm}(hl:s.l.length<1000000)(t:Int)(hf:cD s.l x=some v)(hk:v.kind=1∨v.kind=4):CB 104 [.ptr e.k 0 0,.str x,.int .i64 t] (hT e (aW e.k s) s.code s.sites) (.agg [.str v.name,.int .i64 v.kind,.int .i64 v.n]):=by
  refine .bz Tryz.f104 37 ?_;refine .z ?_;refine c40z ?_;refine .ca rfl rfl (N2 hf hl) ?_;refine .n ?_;refine .sb ?_;refine .c9 [0,2,6,7,8] ?_;refine c14z ?_;refine c30z ?_;refine .spl 28 rfl rfl (fun e1=>?_) (fun e1=>?_)
  ·try simp only[e1]
   have qe1:=fact e1;refine .m [(3,28)] ?_;refine uFbz ?_;intro e2 qe2;refine c8z ?_;refine c278z ?_;exact .ret (.ex (hf:=t5) (hq:=by rfl))
  try simp only[e1]
  have qe1:=fact e1;refine .m [(3,28)] ?_;refine c54z ?_;refine c278z ?_;exact .ret (.ex (hf:=t5) (hq:=by rfl))
theorem c_ex1 {e:Frm}(hl:s.l.length<1000000)(t:Int)(n:Int):CB 103 [.ptr e.k 0 0,.agg (u7 (.leaf 1 n ByteArray.empty)),.int .i64 t] (hT e (aW e.k s) s.code s.sites) (.agg (u7 (gH s.l (.leaf 1 n ByteArray.empty)))):=by refine c298z ?_;refine c22z ?_;refine c20z ?_;refine .c9 [0,2,4,6,8] ?_;refine c179z ?_;refine .c9 [6,8] ?_;refine .z ?_;exact .ret (.ex (hf:=t5) (hq:=by rfl))
theorem c_ex2 {e:Frm}(hl:s.l.length<1000000)(t:Int)(n:Int)(hf:cD s.l x=some v)(hk:v.kind=1∨v.kind=4):CB 103 [.ptr e.k 0 0,.agg (u7 (.leaf 2 n x)),.int .i64 t] (hT e (aW e.k s) s.code s.sites) (.agg (u7 (gH s.l (.leaf 2 n x)))):=by
  refine c298z ?_;refine .T ?_;refine c30z ?_;refine .ca rfl rfl (gM (c_var hl t hf hk)) ?_;refine c55z ?_;refine c278z ?_;refine u2z ?_ ?_
  ·intro e1 qe1;refine .z ?_;exact .ret (.ex (hf:=t5) (hq:=t237))
  intro e1 qe1;refine c241z ?_;exact .ret (.ex (hf:=t5) (hq:=t237))
theorem c_exU {e:Frm}(hl:s.l.length<1000000)(t:Int)(o:Int)(a:Ex)(ho:o≠2)(iha:∀e:Frm,CB 103 [.ptr e.k 0 0,.agg (u7 a),.int .i64 t] (hT e (aW e.k s) s.code s.sites) (.agg (u7 (gH s.l a)))):CB 103 [.ptr e.k 0 0,.agg (u7 (.un o a)),.int .i64 t] (hT e (aW e.k s) s.code s.sites) (.agg (u7 (gH s.l (.un o a)))):=by refine c298z ?_;refine uFbz ?_;intro e1 qe1;refine .sk ?_;refine c20z ?_;refine .c9 [0,2,4,6,8] ?_;refine c36z ?_;refine g6.rounds 2 ?_;refine c100z ?_;refine c53z ?_;refine c204z ?_;refine c233z ?_;refine .cn [true] [512,0] [_] rfl rfl (by simp only[kO,and_true,List.cons_append,List.nil_append];exact gM (iha _)) ?_;refine c103z ?_;refine c131z ?_;refine c75z ?_;refine .c9 [0,2,4,6,8,9] ?_;refine .rz ?_;refine c52z ?_;refine .c9 [6,8] ?_;refine .z ?_;exact .ret (.ex (hf:=t5) (hq:=by rfl))
theorem c_exB {e:Frm}(hl:s.l.length<1000000)(t:Int)(o:Int)(a b:Ex)(ho:o≠2)(iha:∀e:Frm,CB 103 [.ptr e.k 0 0,.agg (u7 a),.int .i64 t] (hT e (aW e.k s) s.code s.sites) (.agg (u7 (gH s.l a))))(ihb:∀e:Frm,CB 103 [.ptr e.k 0 0,.agg (u7 b),.int .i64 t] (hT e (aW e.k s) s.code s.sites) (.agg (u7 (gH s.l b)))):CB 103 [.ptr e.k 0 0,.agg (u7 (.bin o a b)),.int .i64 t] (hT e (aW e.k s) s.code s.sites) (.agg (u7 (gH s.l (.bin o a b)))):=by refine c298z ?_;refine uFbz ?_;intro e1 qe1;refine .sk ?_;refine c20z ?_;refine .c9 [0,2,4,6,8] ?_;refine c36z ?_;refine g6.rounds 3 ?_;refine c100z ?_;refine c53z ?_;refine c204z ?_;refine c233z ?_;refine .cn [true] [512,0] [_] rfl rfl (by simp only[kO,and_true,List.cons_append,List.nil_append];exact gM (iha _)) ?_;refine c103z ?_;refine c131z ?_;refine c75z ?_;refine .c9 [0,2,4,6,8,9] ?_;refine .rz ?_;refine c100z ?_;refine c53z ?_;refine c204z ?_;refine c233z ?_;refine .cn [true] [512,0] [_] rfl rfl (by simp only[kO,and_true,List.cons_append,List.nil_append];exact gM (ihb _)) ?_;refine c103z ?_;refine c131z ?_;refine c75z ?_;refine .c9 [0,2,4,6,8,9] ?_;refine .rz ?_;refine c52z ?_;refine .c9 [6,8] ?_;refine .z ?_;exact .ret (.ex (hf:=t5) (hq:=by rfl))
theorem Eg {s:Sco}(hl:s.l.length<1000000)(t:Int){vars:List BA}(hv:∀x∈vars,∃v,cD s.l x=some v∧(v.kind=1∨v.kind=4)):∀{d:Nat} {a:Ex},GE vars d a→∀e:Frm,CB 103 [.ptr e.k 0 0,.agg (u7 a),.int .i64 t] (hT e (aW e.k s) s.code s.sites) (.agg (u7 (gH s.l a)))
  | d,.leaf o n x,hg,e=>by
    rcases jZ.1 hg with ⟨rfl,_,_,rfl⟩ | ⟨rfl,_,h1⟩
    · exact c_ex1 hl t n
    · obtain ⟨v,h2,h3⟩:=hv x h1
      exact c_ex2 hl t n h2 h3
  | 0,.un o a,hg,e=>hg.elim
  | 0,.bin o a b,hg,e=>hg.elim
  | d+1,.un o a,hg,e=>c_exU hl t o a (by have:=hg.1;omega) (Eg hl t hv hg.2)
  | d+1,.bin o a b,hg,e=>c_exB hl t o a b (by have:=hg.1;omega) (Eg hl t hv hg.2.1) (Eg hl t hv hg.2.2)
theorem sz_0 {m:Int}(h:m=0):decide (m > 0)=false:=by simp;omega
theorem sz_1 {m:Int}(h:0<m):decide (m > 0)=true:=by simp;omega
theorem nJ {l:List Fu}{i:Nat}(h:i<l.length):List.take 1 (List.drop (i*3+1) (l8 l))=[AV.vec (l.getD i j5).params.length (p9 (l.getD i j5).params)]:=A6 aO 3 1 (fun _=>rfl) (by omega) j5 h
variable {y:BA}
theorem c_ref5 {e:Frm}(hl:s.l.length<1000000)(t:Int){n:Int}(hf:cD s.l x=some ⟨y,5,n⟩):CB 106 [.ptr e.k 0 0,.agg [.str x,.vec 0 []],.int .i64 t] (hT e (aW e.k s) s.code s.sites) (.agg [.bool true,.int .i64 n,.vec 0 []]):=by refine .bz Tryz.f106 92 ?_;refine .z ?_;refine c32z ?_;refine c152z ?_;refine c287z ?_;refine c201z ?_;refine .sb ?_;refine c14z ?_;refine .c9 [0,2,4,6,7,9] ?_;refine .s ?_;refine .k 8 [(3,63)] ?_;refine .n ?_;refine .F ?_;refine c105z ?_;refine .k 8 [(3,31)] ?_;refine .k 8 [(3,31)] ?_;refine .n [] ?_;refine .c9 [0,2,4,6,9,10] ?_;refine c14z ?_;refine c8z ?_;refine c6z ?_;refine c71z ?_;refine c279z ?_;exact .ret (.ex (hf:=t5) (hq:=by rfl))
section
attribute [local go_sem] sz_0
theorem c_ref2 {e:Frm}(hl:s.l.length<1000000)(t:Int){n:Int}(hf:cD s.l x=some ⟨y,2,n⟩)(hn:0≤n∧n<s.p.c6.length)(hz:(s.p.c6.getD n.toNat cK).size=0):CB 106 [.ptr e.k 0 0,.agg [.str x,.vec 0 []],.int .i64 t] (hT e (aW e.k s) s.code s.sites) (.agg [.bool false,.int .i64 n,.vec 0 []]):=by refine .bz Tryz.f106 92 ?_;refine .z ?_;refine c32z ?_;refine c152z ?_;refine c287z ?_;refine c201z ?_;refine .sb ?_;refine c14z ?_;refine .c9 [0,2,4,6,7,9] ?_;refine .s ?_;refine .k 8 [(3,63)] ?_;refine .n ?_;refine .F ?_;refine c105z ?_;refine .k 8 [(3,31)] ?_;refine .k 8 [(3,31)] ?_;refine .n [] ?_;refine .c9 [0,2,4,6,9,10] ?_;refine c14z ?_;refine c8z ?_;refine c6z ?_;refine c71z ?_;refine c279z ?_;exact .ret (.ex (hf:=t5) (hq:=by rfl))
end
section
attribute [local go_sem] sz_1
variable {vars:List BA}
theorem c_ref1 {e:Frm}(hl:s.l.length<1000000)(t:Int){n:Int}(hf:cD s.l x=some ⟨y,2,n⟩)(hn:0≤n∧n<s.p.c6.length)(hz:0<(s.p.c6.getD n.toNat cK).size)(hv:∀x∈vars,∃v,cD s.l x=some v∧(v.kind=1∨v.kind=4)){d:Nat}{a:Ex}(ha:GE vars d a):CB 106 [.ptr e.k 0 0,.agg [.str x,.vec 1 (u7 a)],.int .i64 t] (hT e (aW e.k s) s.code s.sites) (.agg [.bool false,.int .i64 n,.vec 1 (u7 (gH s.l a))]):=by refine .bz Tryz.f106 92 ?_;refine .z ?_;refine c32z ?_;refine c152z ?_;refine c287z ?_;refine c201z ?_;refine .sb ?_;refine c14z ?_;refine .c9 [0,2,4,6,7,9] ?_;refine .s ?_;refine .k 8 [(3,63)] ?_;refine .n ?_;refine .F ?_;refine c105z ?_;refine .k 8 [(3,31)] ?_;refine .k 8 [(3,31)] ?_;refine .n [] ?_;refine .c9 [0,2,4,6,9,10] ?_;refine c14z ?_;refine c8z ?_;refine c6z ?_;refine g6.rounds 2 ?_;refine c100z ?_;refine .c9 [0,2,4,6,9,11] ?_;refine c53z ?_;refine c204z ?_;refine c233z ?_;refine .cn [true] [512,0] [_] rfl rfl (by simp only[kO,and_true,List.cons_append,List.nil_append];exact gM (Eg hl t hv ha _)) ?_;refine c103z ?_;refine c131z ?_;refine c75z ?_;refine .c9 [0,2,4,6,9,11] ?_;refine .rz ?_;refine c52z ?_;refine c279z ?_;exact .ret (.ex (hf:=t5) (hq:=by rfl))
end
variable {vars:List BA}
theorem c_refL {e:Frm}(hl:s.l.length<1000000)(t:Int){E:Env}{c:Ctx}(sc:SC E c vars s.l)(hE:E.c6=s.p.c6)(hc:c.nm=s.p.c6.length){r:Rf}(g:GR E vars r):CB 106 [.ptr e.k 0 0,.agg [.str r.name,.vec r.idx.length (n9 r.idx)],.int .i64 t] (hT e (aW e.k s) s.code s.sites) (.agg (E2 (qO s.l r))):=by
  obtain ⟨x,idx⟩:=r;rcases g with ⟨m,hm,hn,⟨hz,a,hi,ha⟩ | ⟨hz,hi⟩⟩ | ⟨p,hp,hmu,hn,hi⟩
  · simp only at hn hi
    subst hn hi;obtain ⟨v,h1,h2,h3,h4,h5⟩:=sc.mx m hm;obtain ⟨y,k,n⟩:=v;simp only at h2 h3 h4 h5;subst h2;rw[hE]at h5;have:=c_ref1 (e:=e) hl t h1 ⟨h3,by omega⟩ (by rw[h5];exact hz) sc.var ha;simp only[qO,eM h1,E2,List.map_cons,List.map_nil,List.length_cons,List.length_nil,n9,List.flatMap_cons,List.flatMap_nil,List.append_nil];exact this
  · simp only at hn hi
    subst hn hi;obtain ⟨v,h1,h2,h3,h4,h5⟩:=sc.mx m hm;obtain ⟨y,k,n⟩:=v;simp only at h2 h3 h4 h5;subst h2;rw[hE]at h5;have:=c_ref2 (e:=e) hl t h1 ⟨h3,by omega⟩ (by rw[h5];exact hz);simp only[qO,eM h1];exact this
  · simp only at hn hi
    subst hn hi;obtain ⟨v,h1,h2,h3,h4⟩:=sc.pm p hp hmu;obtain ⟨y,k,n⟩:=v;simp only at h2 h3 h4;subst h2;have:=c_ref5 (e:=e) hl t h1;simp only[qO,eM h1];exact this
end Go.Proofs.YtapdldekgbbomaaGreatDoor
end
section
namespace Go.Proofs.YtapdldekgbbomaaGreatDoor
open Go.Ab Go.Un
theorem AW {l:List Ex}{x:Ex}:n9 (l++[x])=n9 l++u7 x:=by simp[n9]
theorem N4 {l:List Pl}{x:Pl}:dY (l++[x])=dY l++E2 x:=by simp[dY]
section
variable {e:Frm}{b b0 b1 b2 b3 b4 b5 b6:Blk}{c:List Ins}{ss:List Int}{l:c8}{es:List Ex}{x:Ex}{ps:List Pl}{p:Pl}{g n:Nat}
theorem GC (hn:es.length=n)(hl:n<100000):g8 cfg 100 (hT e b c ss++(b0::b1::b2::b3::n4 100 4 g (n9 es)::b5::b6::⟨0,false,100,4,u7 x,0⟩::l)) (.own (e.n+4) g 0 n) (.own (e.n+7) 0 0 1)=some (.own (e.n+4) (g+1) 0 (n+1),hT e b c ss++(b0::b1::b2::b3::n4 100 4 (g+1) (n9 (es++[x]))::b5::b6::⟨0,false,100,4,u7 x,0⟩::l)):=by subst hn;rw[s9 (C:=cfg) (K:=4) (m:=1) (new:=u7 x) (zs:=n9 es) (by rw[eK];rfl) rfl (by omega) (by rw[bY,Nat.mul_comm]) (by rw[o8]) (by omega) (by simp[rd,eK,o8,eT]) rfl (by decide) (by omega),←AW,iC];rfl
theorem GD (hn:ps.length=n)(hl:n<100000):g8 cfg 102 (hT e b c ss++(b0::b1::b2::b3::b4::n4 102 3 g (dY ps)::b6::⟨0,false,102,3,[.bool p.param,.int .i64 p.index,.vec p.at'.length (n9 p.at')],0⟩::l)) (.own (e.n+5) g 0 n) (.own (e.n+7) 0 0 1)=some (.own (e.n+5) (g+1) 0 (n+1),hT e b c ss++(b0::b1::b2::b3::b4::n4 102 3 (g+1) (dY (ps++[p]))::b6::⟨0,false,102,3,[.bool p.param,.int .i64 p.index,.vec p.at'.length (n9 p.at')],0⟩::l)):=by subst hn;rw[s9 (C:=cfg) (K:=3) (m:=1) (new:=E2 p) (zs:=dY ps) (by rw[eK];rfl) rfl (by omega) t238 rfl (by omega) (by simp[rd,eK,E2]) rfl (by decide) (by omega),←N4,iC];rfl
end
theorem hT_same {e:Frm}{b:Blk}{c:List Ins}{ss:List Int}{l l':c8}(hl:kS (e.n+l'.length) l l'):z5 (hT e b c ss++l) (hT e b c ss++l'):=
  (z5.refl _).app rfl (by rw[bD];exact hl)
variable {E:Env}{vars:List BA}{xs:List Ar}
theorem GAs.mu {ps:List Pm}(h:GAs E vars ps xs):ps.length=xs.length∧∀i,i<xs.length→(xs.getD i dX).mu=(ps.getD i fC).mu:=by
  induction ps generalizing xs with
  | nil=>
    cases xs with
    | nil=>exact ⟨rfl,fun i hi=>by simp at hi⟩
    | cons=>exact h.elim
  | cons p ps ih=>
    cases xs with
    | nil=>exact h.elim
    | cons a xs=>
      obtain ⟨⟨h1,_⟩,h3⟩:=h;obtain ⟨i1,i2⟩:=ih h3;refine ⟨by simp[i1],fun i hi=>?_⟩;cases i with
      | zero=>exact h1
      | succ i=>exact i2 i (by simpa using hi)
theorem ar_is {ps:List Pm}(h:GAs E vars ps xs){i:Nat}(hi:i<xs.length):((xs.getD i dX).mu=true→GR E vars (xs.getD i dX).r)∧((xs.getD i dX).mu=false→GE vars 2 (xs.getD i dX).e):=by
  induction ps generalizing xs i with
  | nil=>
    cases xs with
    | nil=>simp at hi
    | cons=>exact h.elim
  | cons p ps ih=>
    cases xs with
    | nil=>exact h.elim
    | cons a xs=>
      obtain ⟨⟨h1,h2⟩,h3⟩:=h;cases i with
      | succ i=>exact ih h3 (by simpa using hi)
      | zero=>
        simp only[List.getD_cons_zero];rcases h2 with ⟨q1,q2,_⟩ | ⟨q1,_,q3⟩
        · exact ⟨fun _=>q2,fun h=>absurd ((h1.trans q1).symm.trans h) (by decide)⟩
        · exact ⟨fun h=>absurd ((h1.trans q1).symm.trans h) (by decide),fun _=>q3⟩
variable {i:Nat}
theorem zG (hi:i<xs.length):xs.drop i=xs.getD i dX::xs.drop (i+1):=by rw[List.drop_eq_getElem_cons hi];simp[List.getD,hi]
theorem cEx_t {l:List Ent}(hi:i<xs.length)(h:(xs.getD i dX).mu=true){es:List Ex}(he:bO l xs=es++bO l (xs.drop i)):bO l xs=es++bO l (xs.drop (i+1)):=by rw[he,zG hi,bO,if_pos h]
theorem cEx_f {l:List Ent}(hi:i<xs.length)(h:(xs.getD i dX).mu=false){es:List Ex}(he:bO l xs=es++bO l (xs.drop i)):bO l xs=(es++[gH l (xs.getD i dX).e])++bO l (xs.drop (i+1)):=by rw[he,zG hi,bO,if_neg t201];simp
theorem cPl_t {l:List Ent}(hi:i<xs.length)(h:(xs.getD i dX).mu=true){ps:List Pl}(he:aU l xs=ps++aU l (xs.drop i)):aU l xs=(ps++[qO l (xs.getD i dX).r])++aU l (xs.drop (i+1)):=by rw[he,zG hi,aU,if_pos h];simp
theorem cPl_f {l:List Ent}(hi:i<xs.length)(h:(xs.getD i dX).mu=false){ps:List Pl}(he:aU l xs=ps++aU l (xs.drop i)):aU l xs=ps++aU l (xs.drop (i+1)):=by rw[he,zG hi,aU,if_neg t201]
theorem U9 {l:List Ar}(h:i<l.length):List.take 7 (List.drop (i*7) (aH l))=[.bool (l.getD i dX).mu,.str (l.getD i dX).r.name,.vec (l.getD i dX).r.idx.length (n9 (l.getD i dX).r.idx),.int .i64 (l.getD i dX).e.op,.int .i64 (l.getD i dX).e.num,.str (l.getD i dX).e.name,.vec (l.getD i dX).e.args.length (n9 (l.getD i dX).e.args)]:=by rw[tV h,uM]
variable {s:Sco}
theorem NY (hl:s.l.length<1000000)(t:Int)(hv:∀x∈vars,∃v,cD s.l x=some v∧(v.kind=1∨v.kind=4)){d:Nat}{a:Ex}(g:GE vars d a)(e:Frm):CB 103 [.ptr e.k 0 0,.agg [.int .i64 a.op,.int .i64 a.num,.str a.name,.vec a.args.length (n9 a.args)],.int .i64 t] (hT e (aW e.k s) s.code s.sites) (.agg (u7 (gH s.l a))):=by rw[←aI];exact Eg hl t hv g e
theorem GF {e:Frm}(hl:s.l.length<1000000)(t:Int){c:Ctx}(sc:SC E c vars s.l)(hE:E.c6=s.p.c6)(hc:c.nm=s.p.c6.length){r:Rf}(g:GR E vars r):CB 106 [.ptr e.k 0 0,.agg [.str r.name,.vec r.idx.length (n9 r.idx)],.int .i64 t] (hT e (aW e.k s) s.code s.sites) (.agg [.bool (qO s.l r).param,.int .i64 (qO s.l r).index,.vec (qO s.l r).at'.length (n9 (qO s.l r).at')]):=c_refL hl t sc hE hc g
attribute [local go_sem] rd w5 o8 bY cR u5 bN gG cS n7 aJ w9 l7 aM Int.natCast_nonneg Int.natCast_inj List.length_map wrap64 eT jO jP I6 vZ A5 I7 nH max2 fG dL cA Nat.reduceMul nG kH aW iU lH fK uR bD hT_0 hT_1 hT_2 NS NT NU eK zE iC N0 NV U5 nJ G0 U8 GC GD
section
attribute [local go_sem] G0 U8
theorem c_put {e:Frm}(hc:s.code.length<10000)(hs:s.sites.length<10000)(i:Ins)(t:Int):CH 72 [.ptr e.k 0 0,.agg (eS i),.int .i64 t] (hT e (aW e.k s) s.code s.sites) (.int .i64 ((s.code.length:Nat):Int)) (hT e (aW e.k {s with code:=s.code++[i],sites:=s.sites++[t]}) (s.code++[i]) (s.sites++[t])):=by rw[lI];refine .wz Tryz.f72 33 ?_;refine .z ?_;refine .sg w7 (mkH 22 [0,0,0,4,12,28,0,64,252,0,512,1536,3584,0,8192,32764,65533,131069,262141,524287,1048575,2097151] [7,8,14,15,18,21] [(7,0),(14,1)] [0,128,384,16384,16512,16768,49536,311680,2408832] [0,1,2,3,4,5,6,7,8,9,10,11,12]) 2 ?_;refine .p 5 ?_;refine c244z ?_;refine c216z ?_;refine .p 3 ?_;refine .rm [true,true,true] ?_;refine .p 1 ?_;refine .en [true,true,true] [16768,16512,16384,384,128,0] [_,_,_] ?_;refine .en [true,false,false,false,false,false] [49536,16768,16512,16384,384,128,0] [_] ?_;refine .p 2 ?_;refine .en [true,false,false,false,false,false,false] [311680,49536,16768,16512,16384,384,128,0] [_] ?_;refine .p 2 ?_;refine .en [true,false,false,false,false,false,false,false] [2408832,311680,49536,16768,16512,16384,384,128,0] [_] ?_;refine .po [false,false,false,true,true,true,true,true,true] ?_;refine .po [false,false,false,false,true,false,false,true,false] ?_;refine .po [false,false,false,false,false,true,false,false,true] ?_;refine .po [false,false,false,false,false,true,false,false,true] ?_;refine .po [false,false,false,false,true,true,false,true,true] ?_;refine aC.nil rfl ?_;refine .c9 [0] ?_;refine c43z ?_;exact ⟨hT _ _ _ _,_,_,rfl,by (simp only[bD];exact Nat.le_refl _),(zF (dP.get ⟨.vec _ _,.vec _ _,.vec _ _,.vec _ _,.int _ _,.int _ _,.int _ _,.int _ _,.own _ _ _ _ e.lt.2.1,.own _ _ _ _ e.lt.2.2,trivial⟩)),t5,by exact ⟨congrArg (AV.int .i64) (by omega),by simp only[aW,List.length_append,List.length_cons,List.length_nil]⟩⟩
end
section
attribute [local go_sem] nJ U9 GC GD
theorem c_call3 {e:Frm}(hl:s.l.length<1000000)(t:Int){c:Ctx}(sc:SC E c vars s.l)(hE:E.c6=s.p.c6)(hc:c.nm=s.p.c6.length){x y:BA}{n:Int}(hf:cD s.l x=some ⟨y,3,n⟩)(hn:0≤n∧n<s.p.funcs.length){ps:List Pm}(hp:(s.p.funcs.getD n.toNat j5).params=ps)(hp2:ps.length≤2)(ha:GAs E vars ps xs):CB 105 [.ptr e.k 0 0,.agg [.int .i64 3,.str x,.int .i64 0,.int .i64 0,.str ByteArray.empty,.vec 0 [],.str ByteArray.empty,.vec 0 [],.vec xs.length (aH xs),.vec 0 [],.vec 0 []],.int .i64 t] (hT e (aW e.k s) s.code s.sites) (.agg (eS ⟨2,n,false,l4,cL,bO s.l xs,aU s.l xs⟩)):=by
  refine .bz Tryz.f105 112 ?_;refine .z ?_;refine c82z ?_;refine c22z ?_;refine c32z ?_;refine c152z ?_;refine c287z ?_;refine .sb ?_;refine .c9 [0,2,4,6,7,8,9] ?_;refine c91z ?_;refine c8z ?_;refine c201z ?_;refine .ss w7 (mkP 11 [0,1,3,7,15,0,32,127,255,511,1023] []) ?_;refine c190z ?_;refine .seq ?_;refine .c9 [0,2,4,6,7,10] ?_;have hml:=GAs.mu ha;have hml1:=hml.1;rw[hp];refine .z ?_;refine .spl 61 rfl rfl (fun e1=>by exfalso;have hml1:=(GAs.mu ha).1;have q:=fact e1;omega) (fun e1=>?_);try simp only[e1]
  have qe1:=fact e1;refine c22z ?_;refine c6z ?_;refine g6.jU (β:=e.n+2) (k:=10) t110 rfl ?_;simp only[List.append_assoc,List.cons_append,List.nil_append,eK,iC,List.set_cons_succ,List.set_cons_zero,List.length_append,bD,List.length_cons,List.length_nil,Nat.reduceAdd,Nat.zero_add];refine g6.jU (β:=e.n+2) (k:=11) t110 rfl ?_;simp only[List.append_assoc,List.cons_append,List.nil_append,eK,iC,List.set_cons_succ,List.set_cons_zero,List.length_append,bD,List.length_cons,List.length_nil,Nat.reduceAdd,Nat.zero_add];refine .aD (fun m st=>∃(q:Nat) (es:List Ex) (ps':List Pl) (gi:Nat) (gp:Nat),(m=ps.length-q∧(q≤ps.length∧bO s.l xs=es++bO s.l (xs.drop q)∧aU s.l xs=ps'++aU s.l (xs.drop q)∧es.length≤q∧ps'.length≤q))∧st=⟨mkS 112 [(0,AV.ptr e.k 0 0),(2,AV.int .i64 t),(4,AV.ptr e.n 0 0),(6,AV.ptr (e.n+1) 0 0),(7,AV.ptr (e.n+2) 0 0),(10,AV.vec ps.length (p9 ps)),(11,AV.int .i64 ((q:Nat):Int))],(hT e (aW e.k s) s.code s.sites)++[⟨0,false,149,11,[.int .i64 3,.str x,.int .i64 0,.int .i64 0,.str ByteArray.empty,.vec 0 [],.str ByteArray.empty,.vec 0 [],.vec xs.length (aH xs),.vec 0 [],.vec 0 []],0⟩,⟨0,false,105,12,[.int .i64 0,.int .i64 0,.bool false,.int .i64 0,.int .i64 0,.str ByteArray.empty,.j9,.bool false,.int .i64 0,.j9,.j9,.j9],0⟩,⟨0,false,105,12,[.int .i64 2,.int .i64 n,.bool false,.int .i64 0,.int .i64 0,.str ByteArray.empty,.j9,.bool false,.int .i64 0,.j9,.own (e.n+4) gi 0 es.length,.own (e.n+5) gp 0 ps'.length],0⟩,⟨0,false,131,3,[.str y,.int .i64 3,.int .i64 n],0⟩,n4 100 4 gi (n9 es),n4 102 3 gp (dY ps')]⟩) (.v ⟨0,([]:List Ex),([]:List Pl),0,0,⟨rfl,⟨by omega,by simp,by simp,by simp,by simp⟩⟩,rfl⟩ (hr:=t25)) ?_;rintro m sl h' ⟨q,es,ps',gi,gp,⟨hm,⟨hq,hes,hps,hel,hpl⟩⟩,hst⟩;obtain ⟨rfl,rfl⟩:=St.mk.inj hst;clear hst;refine c0z ?_;refine u2z ?_ ?_
  ·intro e2 qe2;refine c5z ?_;have har:=ar_is ha (i:=q) (by omega);refine c20z ?_;refine .c9 [0,2,4,6,7,10,11,12] ?_;refine .ss w7 (mkP 8 [0,1,0,0,12,28,60,127] []) ?_;refine .n [] ?_;refine .spl 84 rfl rfl (fun e3=>by exfalso;have hml2:=(GAs.mu ha).2 q (by omega);simp_all) (fun e3=>?_);try simp only[e3]
   have qe3:=fact e3;refine c22z ?_;refine .c9 [0,2,4,6,7,10,11,12] ?_;refine .z ?_;refine u2z ?_ ?_
   ·intro e4 qe4;have hmu:(xs.getD q dX).mu=true:=by assumption
    refine c61z ?_;refine c204z ?_;refine c31z ?_;refine .cn [true] [64,0] [_] rfl rfl t183 ?_;refine c111z ?_;refine c142z ?_;refine c75z ?_;refine .c9 [0,2,4,6,7,10,11] ?_;refine .rz ?_;exact ⟨_,by omega,.v ⟨(q+1),es,(ps'++[qO s.l (xs.getD q dX).r]),gi,(gp+1),⟨rfl,⟨by omega,cEx_t (by omega) hmu hes,cPl_t (by omega) hmu hps,by omega,t74⟩⟩,rfl⟩ (he:=t48) (hl:=t125) (hk:=t39) (hr:=t25)⟩
   intro e4 qe4;have hmu:(xs.getD q dX).mu=false:=by assumption
   refine c61z ?_;refine c204z ?_;refine c31z ?_;refine .cn [true] [64,0] [_] rfl rfl t184 ?_;refine c111z ?_;refine c142z ?_;refine c75z ?_;refine .c9 [0,2,4,6,7,10,11,105] ?_;refine .rz ?_;exact ⟨_,by omega,.v ⟨(q+1),(es++[gH s.l (xs.getD q dX).e]),ps',(gi+1),gp,⟨rfl,⟨by omega,cEx_f (by omega) hmu hes,cPl_f (by omega) hmu hps,t74,by omega⟩⟩,rfl⟩ (he:=t48) (hl:=t125) (hk:=t39) (hr:=t25)⟩
  intro e2 qe2;refine .exit ?_;obtain rfl:q=ps.length:=by omega
  rw[List.drop_of_length_le (by omega)]at hes hps;simp only[bO,aU,List.append_nil]at hes hps;refine g6.mK (γ:=e.n+4) (β:=e.n+2) (k:=10) (len:=es.length) t110 (by rw[bY,Nat.mul_comm]) (by omega) (VX _) t110 (by omega) rfl ?_;simp only[List.append_assoc,List.cons_append,List.nil_append,eK,iC,List.set_cons_succ,List.set_cons_zero,List.length_append,bD,List.length_cons,List.length_nil,Nat.reduceAdd,Nat.zero_add];refine g6.mK (γ:=e.n+5) (β:=e.n+2) (k:=11) (len:=ps'.length) t110 t238 (by omega) (GA _) t110 (by omega) rfl ?_;simp only[List.append_assoc,List.cons_append,List.nil_append,eK,iC,List.set_cons_succ,List.set_cons_zero,List.length_append,bD,List.length_cons,List.length_nil,Nat.reduceAdd,Nat.zero_add];generalize eI 100 4 gi (n9 es) (es.length*4)=Eb;generalize eI 102 3 gp (dY ps') (ps'.length*3)=Pb;change g6 ..;refine c278z ?_;exact .ret (.ex (hf:=t5) (hq:=t239))
end
section
attribute [local go_sem] nJ U9 GC GD
theorem c_call4 {e:Frm}(hl:s.l.length<1000000)(t:Int){c:Ctx}(sc:SC E c vars s.l)(hE:E.c6=s.p.c6)(hc:c.nm=s.p.c6.length){x y:BA}{n:Int}(hf:cD s.l x=some ⟨y,3,n⟩)(hn:0≤n∧n<s.p.funcs.length){ps:List Pm}(hp:(s.p.funcs.getD n.toNat j5).params=ps)(hp2:ps.length≤2)(ha:GAs E vars ps xs):CB 105 [.ptr e.k 0 0,.agg [.int .i64 4,.str x,.int .i64 0,.int .i64 0,.str ByteArray.empty,.vec 0 [],.str ByteArray.empty,.vec 0 [],.vec xs.length (aH xs),.vec 0 [],.vec 0 []],.int .i64 t] (hT e (aW e.k s) s.code s.sites) (.agg (eS ⟨3,n,false,l4,cL,bO s.l xs,aU s.l xs⟩)):=by
  refine .bz Tryz.f105 112 ?_;refine .z ?_;refine c82z ?_;refine .T ?_;refine c1z ?_;refine c32z ?_;refine c152z ?_;refine c287z ?_;refine .sb ?_;refine .c9 [0,2,4,6,7,8,9] ?_;refine c91z ?_;refine c8z ?_;refine c201z ?_;refine .ss w7 (mkP 11 [0,1,3,7,15,0,32,127,255,511,1023] []) ?_;refine c190z ?_;refine .seq ?_;refine .c9 [0,2,4,6,7,10] ?_;have hml:=GAs.mu ha;have hml1:=hml.1;rw[hp];refine .z ?_;refine .spl 61 rfl rfl (fun e1=>by exfalso;have hml1:=(GAs.mu ha).1;have q:=fact e1;omega) (fun e1=>?_);try simp only[e1]
  have qe1:=fact e1;refine c22z ?_;refine c6z ?_;refine g6.jU (β:=e.n+2) (k:=10) t110 rfl ?_;simp only[List.append_assoc,List.cons_append,List.nil_append,eK,iC,List.set_cons_succ,List.set_cons_zero,List.length_append,bD,List.length_cons,List.length_nil,Nat.reduceAdd,Nat.zero_add];refine g6.jU (β:=e.n+2) (k:=11) t110 rfl ?_;simp only[List.append_assoc,List.cons_append,List.nil_append,eK,iC,List.set_cons_succ,List.set_cons_zero,List.length_append,bD,List.length_cons,List.length_nil,Nat.reduceAdd,Nat.zero_add];refine .aD (fun m st=>∃(q:Nat) (es:List Ex) (ps':List Pl) (gi:Nat) (gp:Nat),(m=ps.length-q∧(q≤ps.length∧bO s.l xs=es++bO s.l (xs.drop q)∧aU s.l xs=ps'++aU s.l (xs.drop q)∧es.length≤q∧ps'.length≤q))∧st=⟨mkS 112 [(0,AV.ptr e.k 0 0),(2,AV.int .i64 t),(4,AV.ptr e.n 0 0),(6,AV.ptr (e.n+1) 0 0),(7,AV.ptr (e.n+2) 0 0),(10,AV.vec ps.length (p9 ps)),(11,AV.int .i64 ((q:Nat):Int))],(hT e (aW e.k s) s.code s.sites)++[⟨0,false,149,11,[.int .i64 4,.str x,.int .i64 0,.int .i64 0,.str ByteArray.empty,.vec 0 [],.str ByteArray.empty,.vec 0 [],.vec xs.length (aH xs),.vec 0 [],.vec 0 []],0⟩,⟨0,false,105,12,[.int .i64 0,.int .i64 0,.bool false,.int .i64 0,.int .i64 0,.str ByteArray.empty,.j9,.bool false,.int .i64 0,.j9,.j9,.j9],0⟩,⟨0,false,105,12,[.int .i64 3,.int .i64 n,.bool false,.int .i64 0,.int .i64 0,.str ByteArray.empty,.j9,.bool false,.int .i64 0,.j9,.own (e.n+4) gi 0 es.length,.own (e.n+5) gp 0 ps'.length],0⟩,⟨0,false,131,3,[.str y,.int .i64 3,.int .i64 n],0⟩,n4 100 4 gi (n9 es),n4 102 3 gp (dY ps')]⟩) (.v ⟨0,([]:List Ex),([]:List Pl),0,0,⟨rfl,⟨by omega,by simp,by simp,by simp,by simp⟩⟩,rfl⟩ (hr:=t25)) ?_;rintro m sl h' ⟨q,es,ps',gi,gp,⟨hm,⟨hq,hes,hps,hel,hpl⟩⟩,hst⟩;obtain ⟨rfl,rfl⟩:=St.mk.inj hst;clear hst;refine c0z ?_;refine u2z ?_ ?_
  ·intro e2 qe2;refine c5z ?_;have har:=ar_is ha (i:=q) (by omega);refine c20z ?_;refine .c9 [0,2,4,6,7,10,11,12] ?_;refine .ss w7 (mkP 8 [0,1,0,0,12,28,60,127] []) ?_;refine .n [] ?_;refine .spl 84 rfl rfl (fun e3=>by exfalso;have hml2:=(GAs.mu ha).2 q (by omega);simp_all) (fun e3=>?_);try simp only[e3]
   have qe3:=fact e3;refine c22z ?_;refine .c9 [0,2,4,6,7,10,11,12] ?_;refine .z ?_;refine u2z ?_ ?_
   ·intro e4 qe4;have hmu:(xs.getD q dX).mu=true:=by assumption
    refine c61z ?_;refine c204z ?_;refine c31z ?_;refine .cn [true] [64,0] [_] rfl rfl t183 ?_;refine c111z ?_;refine c142z ?_;refine c75z ?_;refine .c9 [0,2,4,6,7,10,11] ?_;refine .rz ?_;exact ⟨_,by omega,.v ⟨(q+1),es,(ps'++[qO s.l (xs.getD q dX).r]),gi,(gp+1),⟨rfl,⟨by omega,cEx_t (by omega) hmu hes,cPl_t (by omega) hmu hps,by omega,t74⟩⟩,rfl⟩ (he:=t48) (hl:=t125) (hk:=t39) (hr:=t25)⟩
   intro e4 qe4;have hmu:(xs.getD q dX).mu=false:=by assumption
   refine c61z ?_;refine c204z ?_;refine c31z ?_;refine .cn [true] [64,0] [_] rfl rfl t184 ?_;refine c111z ?_;refine c142z ?_;refine c75z ?_;refine .c9 [0,2,4,6,7,10,11,105] ?_;refine .rz ?_;exact ⟨_,by omega,.v ⟨(q+1),(es++[gH s.l (xs.getD q dX).e]),ps',(gi+1),gp,⟨rfl,⟨by omega,cEx_f (by omega) hmu hes,cPl_f (by omega) hmu hps,t74,by omega⟩⟩,rfl⟩ (he:=t48) (hl:=t125) (hk:=t39) (hr:=t25)⟩
  intro e2 qe2;refine .exit ?_;obtain rfl:q=ps.length:=by omega
  rw[List.drop_of_length_le (by omega)]at hes hps;simp only[bO,aU,List.append_nil]at hes hps;refine g6.mK (γ:=e.n+4) (β:=e.n+2) (k:=10) (len:=es.length) t110 (by rw[bY,Nat.mul_comm]) (by omega) (VX _) t110 (by omega) rfl ?_;simp only[List.append_assoc,List.cons_append,List.nil_append,eK,iC,List.set_cons_succ,List.set_cons_zero,List.length_append,bD,List.length_cons,List.length_nil,Nat.reduceAdd,Nat.zero_add];refine g6.mK (γ:=e.n+5) (β:=e.n+2) (k:=11) (len:=ps'.length) t110 t238 (by omega) (GA _) t110 (by omega) rfl ?_;simp only[List.append_assoc,List.cons_append,List.nil_append,eK,iC,List.set_cons_succ,List.set_cons_zero,List.length_append,bD,List.length_cons,List.length_nil,Nat.reduceAdd,Nat.zero_add];generalize eI 100 4 gi (n9 es) (es.length*4)=Eb;generalize eI 102 3 gp (dY ps') (ps'.length*3)=Pb;change g6 ..;refine c278z ?_;exact .ret (.ex (hf:=t5) (hq:=t239))
end
end Go.Proofs.YtapdldekgbbomaaGreatDoor
end
