/- My own texts, put together by a program of mine. -/
import Derived.Test.YtapdldekgbbomaaGreatDoorGW15
set_option linter.unusedSimpArgs false
set_option linter.unusedVariables false
set_option maxRecDepth 100000
set_option maxHeartbeats 4000000
section
namespace Go.Proofs.YtapdldekgbbomaaGreatDoor
open Go.Ab
set_option maxRecDepth 1000000
theorem PZ:A3 cfg dS (lW TC iE) 14 [] []=some (.bool true,[]):=by kernel_rfl
theorem JL (h:c8):CallA Tryz.prog cfg 14 [] h fun y h'=>y=.bool true∧h'=h:=CallA.frame0 rfl (eD w7 aB (cI JK bQ) _ _ _ _ _ PZ) h
end Go.Proofs.YtapdldekgbbomaaGreatDoor
end
section
namespace Go.Proofs.YtapdldekgbbomaaGreatDoor
open Go.Ab Go.Un
attribute [local go_sem] rd Int.natCast_nonneg Int.natCast_inj Int.toNat_natCast_add_one mnI mxI wrap64 nH max2 v9 s7 aT kB fR fT fV iX fW fY iY cW u6 z7 u5 n7 bL l7 cP cQ bG eP dW jC eY lP l7 eY eqEf fQ
end Go.Proofs.YtapdldekgbbomaaGreatDoor
end
section
namespace Go.Proofs.YtapdldekgbbomaaGreatDoor
open Go.Ab Go.Un
variable {l:List Ru}
theorem Y2:∀{k:Nat},List.take (k*3) (encRus l)=encRus (l.take k):=fun {k}=>by
 induction l generalizing k with
 | nil=>simp[encRus]
 | cons x l ih=>
  cases k with
  | zero=>simp[encRus]
  | succ k=>
   have e1:encRus (x::l)=.int .i64 x.inst::.bool x.op'::.vec x.items.length (j6 x.items)::encRus l:=rfl;have e2:encRus ((x::l).take (k+1))=.int .i64 x.inst::.bool x.op'::.vec x.items.length (j6 x.items)::encRus (l.take k):=rfl;rw[e1,e2,←ih,show (k+1)*3=k*3+1+1+1 from by omega];rfl
theorem Y3 {l:List (Int×Int)}:∀{k:Nat},List.take (k*2) (j6 l)=j6 (l.take k):=fun {k}=>by
 induction l generalizing k with
 | nil=>simp[j6]
 | cons x l ih=>
  cases k with
  | zero=>simp[j6]
  | succ k=>
   have e1:j6 (x::l)=.int .i64 x.1::.int .i64 x.2::j6 l:=rfl;have e2:j6 ((x::l).take (k+1))=.int .i64 x.1::.int .i64 x.2::j6 (l.take k):=rfl;rw[e1,e2,←ih,show (k+1)*2=k*2+1+1 from by omega];rfl
theorem Y4 {l:List (Int×Int)}{i:Nat}{v:Int}(h:i<l.length):List.take (i*2+1) (j6 l)++AV.int .i64 v::List.drop (i*2+1+1) (j6 l)=j6 (l.set i ((l.getD i (0,0)).1,v)):=by
 induction l generalizing i with
 | nil=>simp at h
 | cons x l ih=>
  cases i with
  | zero=>rfl
  | succ i=>
   have:=ih (i:=i) (by simpa using h);have e1:j6 (x::l)=.int .i64 x.1::.int .i64 x.2::j6 l:=rfl;have e2:j6 ((x::l).set (i+1) (((x::l).getD (i+1) (0,0)).1,v))=.int .i64 x.1::.int .i64 x.2::j6 (l.set i ((l.getD i (0,0)).1,v)):=rfl;rw[e1,e2,←this,show (i+1)*2=i*2+1+1 from by omega];rfl
theorem QA {k n:Nat}{r:Ru}(h:∀x∈l,x.items.length<n)(hr:r.items.length<n):∀x∈l.set k r,x.items.length<n:=fun x hx=>by
 rcases List.mem_or_eq_of_mem_set hx with q | q
 ·exact h x q
 ·rw[q];exact hr
theorem JM {h:c8}{a0 a1:Blk}{l':c8}{n:Nat}(hn:l.length=n)(hl:n<100000):g8 cfg 53 (h++(a0::a1::⟨0,false,53,3,[],0⟩::l')) (.own (h.length+2) 0 0 0) (.vec n (encRus l))=some (.own (h.length+2) (gP 0 n) 0 n,h++(a0::a1::⟨gP 0 n,false,53,3,encRus l,0⟩::l')):=by
 subst hn;have e1:cfg.sz 53=3:=rfl;have e2:(cfg.ti 53).bytes=40:=rfl;have hm:l.length≤maxLen:=by
  have:(100000:Nat)≤maxLen:=by decide
  omega
 have hb:l.length*40≤140737488355328:=by omega
 cases l with
 | nil=>simp[g8,rd,lenOf,e1,e2,gP,encRus,v5,u4]
 | cons x l=>
  have hx:(encRus (x::l)).length=3*(l.length+1):=by rw[v9];rfl
  generalize encRus (x::l)=zs at*;simp only[List.length_cons]at hm hb;have hx2:zs.length=(l.length+1)*3:=by omega
  have hnl:¬(l.length+1)*3≤0:=by omega
  simp[g8,rd,lenOf,e1,e2,gP,hx2,hm,hb,v5,u4]
attribute [local go_sem] rd Int.natCast_nonneg Int.natCast_inj Int.toNat_natCast_add_one mnI mxI wrap64 nH max2 v9 s7 aT kB fR fT fV iX fW fY iY cW u6 z7 u5 n7 bL l7 cP cQ bG eP dW jC eY lP l7 JM Y2 Y3 Y4 Nat.sub_zero Option.bind_some Option.bind_eq_bind oI dO List.length_set
attribute [local go_sem] rd Int.natCast_nonneg Int.natCast_inj Int.toNat_natCast_add_one mnI mxI wrap64 nH max2 v9 s7 aT kB fR fT fV iX fW fY iY cW u6 z7 u5 n7 bL l7 cP cQ bG eP dW jC eY lP l7 eY fQ
end Go.Proofs.YtapdldekgbbomaaGreatDoor
end
section
namespace Go.Proofs.YtapdldekgbbomaaGreatDoor
open Go.Ab Go.Un
theorem keepS' {P:Program}{C:Cfg}{h:c8}(g:Ab.Good P C){f:FuncId}{fn:Func}{c:Code}{args:List AV}{R:AV→c8→Prop}(n:Nat)(hf:C.fns f=some fn)(hb:fn.body=some c)(hn:fn.ntmps=n)(hl:args.length+(n-args.length)=n)
    (r:g6 P C c ⟨mkS n (AD 0 args),h⟩ (Go.Ab.Ends C fn R)):CallA P C f args h R:=CallA.keep g hf hb t235
def TD (r:Ru):Ru:=⟨r.inst,r.op',r.items.take (min r.items.length 20)⟩
def KH (l:List Ru)(i:Nat):List Ru:=(l.take i).map TD++l.drop i
variable {l:List Ru}{i:Nat}
theorem QB (h:i≤l.length):(KH l i).length=l.length:=by unfold KH;simp;omega
theorem QC (h:i<l.length):(KH l i).getD i g7=l.getD i g7:=by
  unfold KH;have hl:((l.take i).map TD).length=i:=by simp;omega
  rw[List.getD_eq_getElem?_getD,List.getD_eq_getElem?_getD,List.getElem?_append_right (by omega),hl,List.getElem?_drop];simp
theorem JN (h:i<l.length):(KH l i).set i (TD (l.getD i g7))=KH l (i+1):=by
  unfold KH;have hl:((l.take i).map TD).length=i:=by simp;omega
  rw[List.set_append_right _ _ (by omega),hl,Nat.sub_self,List.take_add_one,List.getElem?_eq_getElem h,List.map_append,List.append_assoc,List.drop_eq_getElem_cons h,List.set_cons_zero];simp[List.getD,h]
theorem QD (h:l.length≤i):KH l i=l.map TD:=by unfold KH;rw[List.take_of_length_le h,List.drop_of_length_le h,List.append_nil]
theorem min20 {n:Nat}:(min ((n:Nat):Int) 20).toNat=min n 20:=by omega
theorem Y5 {k m:Nat}{its:List (Int×Int)}(hk:k<l.length)(hm:its.length=m):List.take (k*3+2) (encRus l)++AV.vec m (j6 its)::List.drop (k*3+2+1) (encRus l)=encRus (l.set k ⟨(l.getD k g7).inst,(l.getD k g7).op',its⟩):=by
  subst hm;induction l generalizing k with
  | nil=>simp at hk
  | cons x l ih=>
    cases k with
    | zero=>rfl
    | succ k=>
      have:=ih (k:=k) (by simpa using hk);have e1:encRus (x::l)=.int .i64 x.inst::.bool x.op'::.vec x.items.length (j6 x.items)::encRus l:=rfl;have e2:encRus ((x::l).set (k+1) ⟨((x::l).getD (k+1) g7).inst,((x::l).getD (k+1) g7).op',its⟩)=.int .i64 x.inst::.bool x.op'::.vec x.items.length (j6 x.items)::encRus (l.set k ⟨(l.getD k g7).inst,(l.getD k g7).op',its⟩):=rfl;rw[e1,e2,←this,show (k+1)*3+2=k*3+2+1+1+1 from by omega];rfl
attribute [local go_sem] rd Int.natCast_nonneg Int.natCast_inj Int.toNat_natCast_add_one mnI mxI wrap64 nH max2 v9 s7 aT fR fT fV iX fW fY iY cW u6 z7 u5 n7 bL l7 cP cQ bG eP dW jC eY lP l7 JM Y2 Y3 oI dO Option.bind_some Option.bind_eq_bind Nat.sub_zero min20 Y5 List.length_set QC
theorem c_few {h:c8}{lock xi xp xd:Int}(hl:l.length≤9223372036854775807)(hit:∀r∈l,r.items.length≤9223372036854775807):CH 15 [.agg [.int .i64 lock,.int .i64 xi,.int .i64 xp,.int .i64 xd,.vec l.length (encRus l)]] h (.agg [.int .i64 lock,.int .i64 xi,.int .i64 xp,.int .i64 xd,.own (h.length+2) (gP 0 (min l.length 20)) 0 (min l.length 20)]) (h++[⟨0,false,39,5,[.int .i64 lock,.int .i64 xi,.int .i64 xp,.int .i64 xd,.own (h.length+2) (gP 0 (min l.length 20)) 0 (min l.length 20)],0⟩,⟨0,false,39,5,[.int .i64 lock,.int .i64 xi,.int .i64 xp,.int .i64 xd,.own (h.length+2) (gP 0 (min l.length 20)) 0 (min l.length 20)],0⟩,⟨gP 0 (min l.length 20),false,53,3,encRus ((l.take (min l.length 20)).map TD),0⟩]):=by
  refine keepS' w7 42 fn15 rfl ntm15 rfl ?_;have hlk:(l.take (min l.length 20)).length=(min l.length 20):=by rw[List.length_take];omega
  refine c263z ?_;refine c55z ?_;refine .c9 [1,2] ?_;refine c36z ?_;refine .aD (fun m st=>∃(i:Nat),(m=(min l.length 20)-i∧(i≤(min l.length 20)))∧st=⟨mkS 42 [(1,AV.ptr h.length 0 0),(2,AV.ptr (h.length+1) 0 0),(3,AV.int .i64 ((i:Nat):Int))],(h++[⟨0,false,39,5,[.int .i64 lock,.int .i64 xi,.int .i64 xp,.int .i64 xd,.own (h.length+2) (gP 0 (min l.length 20)) 0 (min l.length 20)],0⟩,⟨0,false,39,5,[.int .i64 0,.int .i64 0,.int .i64 0,.int .i64 0,.j9],0⟩,⟨gP 0 (min l.length 20),false,53,3,encRus (KH (l.take (min l.length 20)) i),0⟩])⟩) (.v ⟨0,⟨rfl,by omega⟩,rfl⟩) ?_ (he:=by rfl);rintro m sl h' ⟨i,⟨hm,hi⟩,hst⟩;obtain ⟨rfl,rfl⟩:=St.mk.inj hst;clear hst;have hfl:=QB (l:=(l.take (min l.length 20))) (i:=i) (by omega);have hti:(((l.take (min l.length 20)).getD i g7).items.take (min ((l.take (min l.length 20)).getD i g7).items.length 20)).length=min ((l.take (min l.length 20)).getD i g7).items.length 20:=by rw[List.length_take];omega
  refine c0z ?_;refine u2z ?_ ?_
  ·intro e1 qe1;refine c5z ?_;have hri:((l.take (min l.length 20)).getD i g7).items.length≤9223372036854775807:=hit _ (List.mem_of_mem_take (l6 (by omega)));refine .so w7 (mkP 21 [0,1,0,0,8,0,56,120,248,0,512,0,3584,7680,15872,32256,65024,131064,262143,524287,1048575] [20]) ?_;refine .k 8 [] ?_;refine .k 8 [] ?_;refine c86z ?_;refine .c9 [1,2,3,39] ?_;refine .rz ?_;exact ⟨_,by omega,.v ⟨(i+1),⟨rfl,by omega⟩,rfl⟩ (he:=by (rw[←JN (by omega)];simp only[List.append_assoc,List.cons_append,List.nil_append];rfl)) (hk:=by exact (z5.refl h).app rfl ⟨.inl rfl,.inl rfl,.inr ((P0 _).refs _),trivial⟩)⟩
  intro e1 qe1;refine c163z ?_;exact ⟨rfl,by rw[QD (l:=(l.take (min l.length 20))) (by omega)]⟩
end Go.Proofs.YtapdldekgbbomaaGreatDoor
end
section
namespace Go.Proofs.YtapdldekgbbomaaGreatDoor.Sh
open Go.Ab Go.Un
structure Frame where
  bx:Blk
  b0:Blk
  b1:Blk
  b2:Blk
  z:Blk
  m:Blk
  g:Blk
  rest:c8
def Frame.n (e:Frame):Nat:=e.rest.length+10
def hB (c:Core)(e:Frame)(I left:Int):c8:=
  e.bx::e.b0::e.b1::e.b2::e.z::⟨0,false,78,2,[.vec c.L.length (encI c.L),.int .i64 I],0⟩::
  ⟨0,false,112,6,[.ptr 5 0 0,.vec c.gs.length (o6 c.gs),.vec c.ms.length (j4 c.ms),.own 9 c.gF 0 c.fs.length,.int .i64 left,.bool c.ar],0⟩::
  e.m::e.g::⟨c.gF,false,122,3,l8 c.fs,0⟩::e.rest
section
variable {c:Core}{e:Frame}{I left k:Int}{l:c8}
theorem aQ:(hB c e I left).length=e.n:=by simp[hB,Frame.n]
theorem ZF:(hB c e I left)[5]?=some ⟨0,false,78,2,[.vec c.L.length (encI c.L),.int .i64 I],0⟩:=rfl
theorem ZG:(hB c e I left)[6]?=some ⟨0,false,112,6,[.ptr 5 0 0,.vec c.gs.length (o6 c.gs),.vec c.ms.length (j4 c.ms),.own 9 c.gF 0 c.fs.length,.int .i64 left,.bool c.ar],0⟩:=rfl
theorem ZH:(hB c e I left)[9]?=some ⟨c.gF,false,122,3,l8 c.fs,0⟩:=rfl
theorem AR:(hB c e I left++l)[5]?=some ⟨0,false,78,2,[.vec c.L.length (encI c.L),.int .i64 I],0⟩:=rfl
theorem AS:(hB c e I left++l)[6]?=some ⟨0,false,112,6,[.ptr 5 0 0,.vec c.gs.length (o6 c.gs),.vec c.ms.length (j4 c.ms),.own 9 c.gF 0 c.fs.length,.int .i64 left,.bool c.ar],0⟩:=rfl
theorem AT:(hB c e I left++l)[9]?=some ⟨c.gF,false,122,3,l8 c.fs,0⟩:=rfl
theorem AU:(hB c e I left++l).set 6 ⟨0,false,112,6,[.ptr 5 0 0,.vec c.gs.length (o6 c.gs),.vec c.ms.length (j4 c.ms),.own 9 c.gF 0 c.fs.length,.int .i64 k,.bool c.ar],0⟩=hB c e I k++l:=rfl
variable {j:Nat}
theorem bC:(hB c e I left++l)[e.n+j]?=l[j]?:=by rw[List.getElem?_append_right t164,aQ,Nat.add_sub_cancel_left]
theorem mP:(hB c e I left++l)[e.n]?=l[0]?:=by rw[List.getElem?_append_right t164,aQ,Nat.sub_self]
theorem bJ {b:Blk}:(hB c e I left++l).set (e.n+j) b=hB c e I left++l.set j b:=by rw[List.set_append_right _ _ t164,aQ,Nat.add_sub_cancel_left]
theorem oF {b:Blk}:(hB c e I left++l).set e.n b=hB c e I left++l.set 0 b:=by rw[List.set_append_right _ _ t164,aQ,Nat.sub_self]
variable {left':Int}
theorem bE {I':Int}:z5 (hB c e I left) (hB c e I' left'):=by
  refine z5.of ⟨.inl rfl,.inl rfl,.inl rfl,.inl rfl,.inl rfl,.inr (dP.get ⟨.vec _ _,.int _ _,trivial⟩),.inr (dP.get ⟨.ptr _ _ _ ?_,.vec _ _,.vec _ _,.own _ _ _ _ ?_,.int _ _,.bool _,trivial⟩),.inl rfl,.inl rfl,.inl rfl,kS.refl _ _⟩
  · rw[aQ];unfold Frame.n;omega
  · rw[aQ];unfold Frame.n;omega
theorem sT {I':Int}{l':c8}(hk:kS (e.n+l'.length) l l'):z5 (hB c e I left++l) (hB c e I' left'++l'):=
  bE.app (by rw[aQ,aQ]) (by rw[aQ];exact hk)
end
theorem Ea (c:Core)(e:Frame)(left:Int):bP 5 c.L e.n fun I=>hB c e I left:=⟨fun _=>rfl,fun _ _=>rfl,fun _=>aQ⟩
theorem dI {c:Core}{e:Frame}{left:Int}(l:c8)(I n:Int)(hI:OkI c.L I)(hL:c.L.length<4611686018427387904)(hn:0<n)(hm:n≤4611686018427387904):CH 29 [.ptr 5 0 0,.int .i64 n] (hB c e I left++l) (.int .i64 (c5 c.L I n).1) (hB c e (c5 c.L I n).2 left++l):=lA (Ea c e left) l I n hI hL hn hm
theorem oG {c:Core}{e:Frame}{left:Int}(l:c8)(I v:Int)(hI:OkI c.L I)(hL:c.L.length<4611686018427387904)(names:List BA)(hN:names.length<1000)(hv:0≤v∧v<1000):CH 89 [.ptr 5 0 0,.vec names.length (p7 names),.int .i64 v] (hB c e I left++l) (.agg (u7 (dB c.L names v.toNat I).1)) (hB c e (dB c.L names v.toNat I).2 left++l):=by have h:=EP hL names hN v.toNat (by omega) ((Ea c e left).app l) I hI;rw[Int.toNat_of_nonneg hv.1]at h;exact h
variable {i:Nat}
theorem lH {l:List Mx}(h:i<l.length):List.take 1 (List.drop (i*3+2) (j4 l))=[AV.int .i64 (l.getD i cK).size]:=by have:=congrArg (fun x=>x.drop 2) (tW h);simp only[List.drop_take,List.drop_drop]at this;simpa using this
theorem zB {l:List Mx}(h:i<l.length):List.take 1 (List.drop (i*3) (j4 l))=[AV.str (l.getD i cK).name]:=by have:=congrArg (fun x=>x.take 1) (tW h);simp only[List.take_take]at this;simpa using this
theorem pI {l:List Pm}(h:i<l.length):List.take 1 (List.drop (i*2) (p9 l))=[AV.str (l.getD i fC).name]:=by have:=congrArg (fun x=>x.take 1) (yI h);simp only[List.take_take]at this;simpa using this
theorem fK {l:List Pm}(h:i<l.length):List.take 1 (List.drop (i*2+1) (p9 l))=[AV.bool (l.getD i fC).mu]:=by have:=congrArg (fun x=>x.drop 1) (yI h);simp only[List.drop_take,List.drop_drop]at this;simpa using this
variable {vars:List BA}{size:Int}
theorem FT {c:Core}{I:Int}(h:c.ar=true)(h2:(c5 c.L I 3).1=1):bZ c vars size I=dB c.L vars 1 (c5 c.L I 3).2:=by rw[bZ,if_pos h,if_pos h2]
theorem FU {c:Core}{I:Int}(h:c.ar=true)(h2:¬(c5 c.L I 3).1=1):bZ c vars size I=(.leaf 1 (c5 c.L (c5 c.L I 3).2 size).1 ByteArray.empty,(c5 c.L (c5 c.L I 3).2 size).2):=by rw[bZ,if_pos h,if_neg h2]
theorem RP {c:Core}{I:Int}(h:c.ar=false):bZ c vars size I=(.leaf 1 (c5 c.L I size).1 ByteArray.empty,(c5 c.L I size).2):=by rw[bZ,if_neg t201]
theorem FV {c:Core}{I:Int}(h:c.ar=true):g5 c vars I=dB c.L vars (1+(c5 c.L I 2).1).toNat (c5 c.L I 2).2:=by rw[g5,if_pos h]
theorem FW {c:Core}{I:Int}(h:c.ar=false):g5 c vars I=dB c.L vars 0 I:=by rw[g5,if_neg t201]
attribute [local go_sem] l7 w3 n7 w9 o8 Int.natCast_nonneg Int.natCast_inj List.length_map aQ ZF ZG ZH AR AS AT AU bC mP bJ oF
theorem frz_E {n d:Nat}{H:c8}{a:Ex}:r6 (iT n H (d+1)) (u7 a)=some (u7 a):=by rw[aI];rfl
theorem zC {r:Rf}:mB (D9 ⟨true,r,l4⟩) (.bool true::(wH r++[.int .i64 0,.int .i64 0,.str ByteArray.empty,.j9])):=⟨.inl rfl,.inl rfl,.inl rfl,.inl rfl,.inl rfl,.inl rfl,.inr ⟨rfl,rfl⟩,trivial⟩
theorem uP {x:Ex}:mB (D9 ⟨false,n5,x⟩) (.bool false::.str ByteArray.empty::.j9::u7 x):=⟨.inl rfl,.inl rfl,.inr ⟨rfl,rfl⟩,mB.refl _⟩
theorem VR {n d:Nat}{H:c8}{l:List Ar}:r6 (kN n H (d+1)) (aH l)=some (aH l):=by
  induction l with
  | nil=>rfl
  | cons a l ih=>
    refine qR ?_ ih;simp only[D9,r6,mJ,kT,jL,L5]
section
attribute [local go_sem] eT
theorem M6 {c:Core}{e:Frame}{left I:Int}(hc:OkC c)(hI:OkI c.L I)(hL:c.L.length<4611686018427387904)(vars:List BA)(hN:vars.length<1000)(size:Int)(hs:0<size∧size≤3):CH 88 [.ptr 6 0 0,.vec vars.length (p7 vars),.int .i64 size] (hB c e I left) (.agg (u7 (bZ c vars size I).1)) (hB c e (bZ c vars size I).2 left):=by
  refine .wz Tryz.f88 32 ?_;have h3:=l3 hI (n:=3) (by omega);refine c20z ?_;refine c40z ?_;refine .spl 11 rfl rfl (fun e1=>?_) (fun e1=>?_)
  ·try simp only[e1]
   have qe1:=fact e1;refine .k 4 [(4,11)] ?_;refine .ch rfl rfl (dI _ _ 3 hI hL (by omega) (by omega)) ?_;refine .m [(4,11)] ?_;refine u2z ?_ ?_
   ·intro e2 qe2;refine .c9 [0,1,6] ?_;refine c40z ?_;refine .ch rfl rfl (oG _ _ 1 h3.2.2 hL vars hN (by omega)) ?_;refine c176z ?_;exact ⟨hB _ _ _ _,_,_,rfl,t60,bE,t4,t50⟩
   intro e2 qe2;refine .sk ?_;refine c291z ?_;refine c176z ?_;exact ⟨hB _ _ _ _,_,_,rfl,t60,bE,t4,t50⟩
  try simp only[e1]
  have qe1:=fact e1;refine .m [(4,11)] ?_;refine c22z ?_;refine c291z ?_;refine c176z ?_;exact ⟨hB _ _ _ _,_,_,rfl,t60,bE,t4,t50⟩
end
section
attribute [local go_sem] eT wrap64
theorem M7 {c:Core}{e:Frame}{left I:Int}(hc:OkC c)(hI:OkI c.L I)(hL:c.L.length<4611686018427387904)(vars:List BA)(hN:vars.length<1000):CH 65 [.ptr 6 0 0,.vec vars.length (p7 vars)] (hB c e I left) (.agg (u7 (g5 c vars I).1)) (hB c e (g5 c vars I).2 left):=by
  refine .wz Tryz.f65 28 ?_;have h2:=l3 hI (n:=2) (by omega);refine c82z ?_;refine u2z ?_ ?_
  ·intro e1 qe1;refine c40z ?_;refine .ch rfl rfl (oG _ _ 0 hI hL vars hN (by omega)) ?_;refine c176z ?_;exact ⟨hB _ _ _ _,_,_,rfl,t60,bE,t4,t81⟩
  intro e1 qe1;refine .sk ?_;refine .sm w7 (mkP 13 [0,1,3,7,0,0,32,96,224,480,992,2047,4095] [9,11,12]) [0,1,2,3,4] ?_;refine dD.p (pd:=[]) 9 ?_;refine dD.v7 rfl rfl rfl rfl rfl sF (dI _ _ 2 hI hL (by omega) (by omega)) ?_;refine dD.p 1 ?_;refine dD.v7 rfl rfl rfl rfl rfl Am (oG _ _ _ h2.2.2 hL vars hN (by omega)) ?_;refine dD.p 1 ?_;refine dD.nil t8 ?_;refine c7z ?_;exact ⟨hB _ _ _ _,_,_,rfl,t60,bE,t4,t81⟩
end
theorem fM {l:List BA}{x:BA}:p7 (l++[x])=p7 l++[.str x]:=by simp[p7]
theorem wT {c:Core}(h:i<c.ms.length):(c.ms.map (·.name)).take (i+1)=(c.ms.map (·.name)).take i++[(c.ms.getD i cK).name]:=by rw[List.take_add_one];simp[List.getD,h]
theorem mQ (l m:List Pm):extra (l++m)=extra l++extra m:=by
  induction l with
  | nil=>rfl
  | cons p l ih=>simp only[List.cons_append,extra];split<;>simp[ih]
variable {j:Nat}
theorem kG {l:List Pm}(h:j<l.length):l.take (j+1)=l.take j++[l.getD j fC]:=by rw[List.take_add_one];simp[List.getD,h]
variable {ps:List Pm}
theorem M8 {c:Core}:j0 c (ps.take 0)=c.ms.map (·.name):=by simp[j0,extra]
theorem rn_t {c:Core}(h:j<ps.length)(hm:(ps.getD j fC).mu=true):j0 c (ps.take (j+1))=j0 c (ps.take j)++[(ps.getD j fC).name]++[(ps.getD j fC).name]:=by rw[kG h];simp only[j0,mQ,List.append_assoc];simp only[extra,hm,if_true];rfl
theorem rn_f {c:Core}(h:j<ps.length)(hm:(ps.getD j fC).mu=false):j0 c (ps.take (j+1))=j0 c (ps.take j):=by rw[kG h];simp only[j0,mQ];simp only[extra,hm,Bool.false_eq_true,if_false,List.append_nil]
theorem FX {c:Core}{I:Int}(h1:(c5 c.L I (j0 c ps).length).1<c.ms.length)(h2:0<(c.ms.getD (c5 c.L I (j0 c ps).length).1.toNat cK).size):l9 c ps vars I=
    (⟨(j0 c ps).getD (c5 c.L I (j0 c ps).length).1.toNat ByteArray.empty,[(bZ c vars (c.ms.getD (c5 c.L I (j0 c ps).length).1.toNat cK).size (c5 c.L I (j0 c ps).length).2).1]⟩,(bZ c vars (c.ms.getD (c5 c.L I (j0 c ps).length).1.toNat cK).size (c5 c.L I (j0 c ps).length).2).2):=if_pos ⟨h1,h2⟩
theorem FY {c:Core}{I:Int}(h:¬((c5 c.L I (j0 c ps).length).1<c.ms.length∧0<(c.ms.getD (c5 c.L I (j0 c ps).length).1.toNat cK).size)):l9 c ps vars I=
    (⟨(j0 c ps).getD (c5 c.L I (j0 c ps).length).1.toNat ByteArray.empty,[]⟩,(c5 c.L I (j0 c ps).length).2):=if_neg h
theorem M9 {l:List BA}(h:0<l.length):p7 l≠[]:=by intro e;have:=congrArg List.length e;rw[w3,List.length_nil]at this;omega
theorem F9 {x:Ex}:n9 [x]=u7 x:=by simp[n9]
theorem uQ {c:Core}{e:Frame}{I left:Int}{fb rb:Blk}{g n:Nat}{zs:List BA}{x:AV}(hz:zs.length=n)(hn:n<1000) :
    g8 cfg 9 (hB c e I left++[fb,rb,n4 9 1 g (p7 zs),⟨0,false,9,1,[x],0⟩]) (.own (e.n+2) g 0 n) (.own (e.n+3) 0 0 1)=some (.own (e.n+2) (g+1) 0 (n+1),hB c e I left++[fb,rb,n4 9 1 (g+1) (p7 zs++[x]),⟨0,false,9,1,[x],0⟩]):=by
  have hb:(hB c e I left++[fb,rb,n4 9 1 g (p7 zs),⟨0,false,9,1,[x],0⟩])[e.n+2]?=some (n4 9 1 g (p7 zs)):=bC;rw[s9 (C:=cfg) (K:=1) (m:=1) (new:=[x]) hb rfl (by omega) t206 rfl (by omega) t105 rfl (by decide) (by omega),bJ];rfl
theorem qT {c:Core}{e:Frame}{I left:Int}{fb rb:Blk}{g n:Nat}{zs:List BA}{x y:AV}(hz:zs.length=n)(hn:n<1000) :
    g8 cfg 9 (hB c e I left++[fb,rb,n4 9 1 g (p7 zs),⟨0,false,9,1,[x,y],0⟩]) (.own (e.n+2) g 0 n) (.own (e.n+3) 0 0 2)=some (.own (e.n+2) (g+1) 0 (n+2),hB c e I left++[fb,rb,n4 9 1 (g+1) (p7 zs++[x,y]),⟨0,false,9,1,[x,y],0⟩]):=by
  have hb:(hB c e I left++[fb,rb,n4 9 1 g (p7 zs),⟨0,false,9,1,[x,y],0⟩])[e.n+2]?=some (n4 9 1 g (p7 zs)):=bC;rw[s9 (C:=cfg) (K:=1) (m:=2) (new:=[x,y]) hb rfl (by omega) t206 rfl (by omega) t105 rfl (by decide) (by omega),bJ];rfl
theorem FZ {n:Nat}{l:List BA}:∀x∈p7 l,Refs n x:=by intro x hx;obtain ⟨y,_,rfl⟩:=List.mem_map.1 hx;exact .str _
theorem Frame.n_ge (e:Frame):10≤e.n:=by unfold Frame.n;omega
theorem zD {c:Core}{e:Frame}{left I:Int}{l:c8}(hc:OkC c)(hI:OkI c.L I)(hL:c.L.length<4611686018427387904)(vars:List BA)(hN:vars.length<1000)(size:Int)(hs:0<size∧size≤3):CH 88 [.ptr 6 0 0,.vec vars.length (p7 vars),.int .i64 size] (hB c e I left++l) (.agg (u7 (bZ c vars size I).1)) (hB c e (bZ c vars size I).2 left++l):=M6 (e:=⟨e.bx,e.b0,e.b1,e.b2,e.z,e.m,e.g,e.rest++l⟩) hc hI hL vars hN size hs
theorem pJ {c:Core}{e:Frame}{left I:Int}{l:c8}(hc:OkC c)(hI:OkI c.L I)(hL:c.L.length<4611686018427387904)(vars:List BA)(hN:vars.length<1000):CH 65 [.ptr 6 0 0,.vec vars.length (p7 vars)] (hB c e I left++l) (.agg (u7 (g5 c vars I).1)) (hB c e (g5 c vars I).2 left++l):=M7 (e:=⟨e.bx,e.b0,e.b1,e.b2,e.z,e.m,e.g,e.rest++l⟩) hc hI hL vars hN
section
attribute [local go_sem] eT wrap64 aO uQ qT zB lH pI fK nR vZ A5 nH max2
theorem VS {c:Core}{e:Frame}{left I:Int}(hc:OkC c)(hI:OkI c.L I)(hL:c.L.length<4611686018427387904)(vars:List BA)(hN:vars.length<1000)(f:Fu)(hp:f.params.length≤2):CH 64 [.ptr 6 0 0,.agg (aO f),.vec vars.length (p7 vars)] (hB c e I left) (.agg (wH (l9 c f.params vars I).1)) (hB c e (l9 c f.params vars I).2 left):=by
  refine .wz Tryz.f64 107 ?_;have hml:=hc.ml;refine c87z ?_;refine g6.oB 7 rfl ?_;refine .aD (fun m st=>∃(i:Nat),(m=c.ms.length-i∧i≤c.ms.length)∧st=⟨mkS 107 [(0,AV.ptr 6 0 0),(2,AV.vec vars.length (p7 vars)),(4,AV.ptr e.n 0 0),(6,AV.ptr (e.n+1) 0 0),(7,AV.own (e.n+2) i 0 i),(8,AV.int .i64 ((i:Nat):Int))],hB c e I left++[⟨0,false,122,3,[.str f.name,.vec f.params.length (p9 f.params),.vec f.body.len (n8 f.body)],0⟩,⟨0,false,146,2,[.str ByteArray.empty,.j9],0⟩,n4 9 1 i (p7 ((c.ms.map (·.name)).take i))]⟩) (.v ⟨0,⟨rfl,by omega⟩,rfl⟩ (hs:=t20) (hr:=t0)) ?_;rintro m sl h' ⟨i,⟨hm,hi⟩,hst⟩;obtain ⟨rfl,rfl⟩:=St.mk.inj hst;clear hst;have htk:((c.ms.map (·.name)).take i).length=i:=by simp;omega
  refine c0z ?_;refine u2z ?_ ?_
  ·intro e1 qe1;refine c5z ?_;refine .c9 [0,2,4,6,7,8] ?_;refine c222z ?_;refine .c9 [0,2,4,6,7,8] ?_;refine .rz ?_;exact ⟨_,by omega,.v ⟨(i+1),⟨rfl,by omega⟩,rfl⟩ (he:=t180) (hl:=t12) (hk:=t84) (hs:=t20) (hr:=t0)⟩
  intro e1 qe1;refine .exit ?_;obtain rfl:i=c.ms.length:=by omega
  change g6 ..;refine .c9 [0,2,4,6,7] ?_;refine c25z ?_;refine .aD (fun m st=>∃(j:Nat) (g:Nat),(m=f.params.length-j∧j≤f.params.length)∧st=⟨mkS 107 [(0,AV.ptr 6 0 0),(2,AV.vec vars.length (p7 vars)),(4,AV.ptr e.n 0 0),(6,AV.ptr (e.n+1) 0 0),(7,AV.own (e.n+2) g 0 (j0 c (f.params.take j)).length),(9,AV.int .i64 ((c.ms.length:Nat):Int)),(10,AV.int .i64 ((j:Nat):Int))],hB c e I left++[⟨0,false,122,3,[.str f.name,.vec f.params.length (p9 f.params),.vec f.body.len (n8 f.body)],0⟩,⟨0,false,146,2,[.str ByteArray.empty,.j9],0⟩,n4 9 1 g (p7 (j0 c (f.params.take j)))]⟩) (.v ⟨0,c.ms.length,⟨rfl,by omega⟩,rfl⟩ (hs:=t37) (hr:=t0)) ?_ (he:=t168);rintro m sl h' ⟨j,g,⟨hm,hj⟩,hst⟩;obtain ⟨rfl,rfl⟩:=St.mk.inj hst;clear hst;have hxl:=(gX hc (f.params.take j)).2;have hxt:(f.params.take j).length≤2:=by simp;omega
  refine c0z ?_;refine u2z ?_ ?_
  ·intro e2 qe2;refine c177z ?_;refine u2z ?_ ?_
   ·intro e3 qe3;refine .c9 [0,2,4,6,7,9,10] ?_;refine g6.jF w7 (mkP 16 [0,0,2,0,14,30,62,0,128,0,896,1920,3968,8190,16383,32767] [13,14]) [0] (by kernel_rfl) (by kernel_rfl) ?_;refine dD.p (pd:=[]) 16 ?_;refine dD.nil t8 ?_;change g6 ..;refine c232z ?_;have hxs:=congrArg List.length (rn_t (c:=c) (j:=j) (ps:=f.params) (by omega) (by assumption));simp only[List.length_append,List.length_singleton]at hxs;exact ⟨_,by omega,.v ⟨(j+1),(g+1),⟨rfl,by omega⟩,rfl⟩ (he:=t158) (hl:=t12) (hk:=t84) (hs:=t37) (hr:=t0)⟩
   intro e3 qe3;refine c8z ?_;refine c232z ?_;have hxs:=congrArg List.length (rn_f (c:=c) (j:=j) (ps:=f.params) (by omega) (by assumption));exact ⟨_,by omega,.v ⟨(j+1),g,⟨rfl,by omega⟩,rfl⟩ (he:=t224) (hl:=t12) (hk:=t84) (hs:=t37) (hr:=t0)⟩
  intro e2 qe2;refine .exit ?_;obtain rfl:j=f.params.length:=by omega
  rw[List.take_length]at hxl ⊢;change g6 ..;have hrl:=gX hc f.params;have hk:=l3 hI (n:=((j0 c f.params).length:Int)) (by omega);rw[eR (M9 hrl.1)];refine c149z ?_;refine .n ?_;refine .c9 [0,2,6,7,9,11] ?_;refine c20z ?_;refine c30z ?_;refine .spl 80 rfl rfl (fun e4=>?_) (fun e4=>?_)
  ·try simp only[e4]
   have qe4:=fact e4;refine c262z ?_;refine u2z ?_ ?_
   ·intro e5 qe5;refine .c9 [0,2,6,11,12] ?_;have hsz:=hc.mx (c5 c.L I (j0 c f.params).length).1.toNat (by omega);refine c158z ?_;refine .e 3 ?_;refine .ch rfl rfl (zD hc hk.2.2 hL vars hN _ (by omega)) ?_;refine c42z ?_;refine c211z ?_;exact ⟨hB _ _ _ _,_,_,rfl,t60,bE,t4,t63⟩
   intro e5 qe5;refine .sk ?_;refine c211z ?_;exact ⟨hB _ _ _ _,_,_,rfl,t60,bE,t4,t63⟩
  try simp only[e4]
  have qe4:=fact e4;refine c262z ?_;refine c22z ?_;refine c211z ?_;exact ⟨hB _ _ _ _,_,_,rfl,t60,bE,t4,t63⟩
end
end Go.Proofs.YtapdldekgbbomaaGreatDoor.Sh
end
section
namespace Go.Proofs.YtapdldekgbbomaaGreatDoor.Sh
open Go.Ab Go.Un
attribute [local go_sem] l7 w3 n7 w9 o8 Int.natCast_nonneg Int.natCast_inj List.length_map aQ ZF ZG ZH AR AS AT AU bC mP bJ oF
variable {c:Core}{e:Frame}{left I:Int}
theorem G7 {l:c8}(hc:OkC c)(hI:OkI c.L I)(hL:c.L.length<4611686018427387904)(vars:List BA)(hN:vars.length<1000)(f:Fu)(hp:f.params.length≤2):CH 64 [.ptr 6 0 0,.agg (aO f),.vec vars.length (p7 vars)] (hB c e I left++l) (.agg (wH (l9 c f.params vars I).1)) (hB c e (l9 c f.params vars I).2 left++l):=VS (e:=⟨e.bx,e.b0,e.b1,e.b2,e.z,e.m,e.g,e.rest++l⟩) hc hI hL vars hN f hp
variable {n:Nat}
theorem pY {c:Core}{e:Frame}{I left:Int}{fb rb:Blk}{g:Nat}{zs:List AV}{x1 x2 x3 x4 x5 x6 x7:AV}(hz:zs.length=n*7)(hn:n<1000) :
    g8 cfg 185 (hB c e I left++[fb,rb,n4 185 7 g zs,⟨0,false,185,7,[x1,x2,x3,x4,x5,x6,x7],0⟩]) (.own (e.n+2) g 0 n) (.own (e.n+3) 0 0 1)=some (.own (e.n+2) (g+1) 0 (n+1),hB c e I left++[fb,rb,n4 185 7 (g+1) (zs++[x1,x2,x3,x4,x5,x6,x7]),⟨0,false,185,7,[x1,x2,x3,x4,x5,x6,x7],0⟩]):=by
  have hb:(hB c e I left++[fb,rb,n4 185 7 g zs,⟨0,false,185,7,[x1,x2,x3,x4,x5,x6,x7],0⟩])[e.n+2]?=some (n4 185 7 g zs):=bC;rw[s9 (C:=cfg) (K:=7) (m:=1) (new:=[x1,x2,x3,x4,x5,x6,x7]) hb rfl (by omega) hz rfl (by omega) t105 rfl (by decide) (by omega),bJ];rfl
theorem vB {c:Core}{e:Frame}{I left:Int}{fb rb:Blk}{g:Nat}{zs:List AV}{x1 x2 x3:AV}{x:Ex}(hz:zs.length=n*7)(hn:n<1000) :
    g8 cfg 185 (hB c e I left++[fb,rb,n4 185 7 g zs,⟨0,false,185,7,x1::x2::x3::u7 x,0⟩]) (.own (e.n+2) g 0 n) (.own (e.n+3) 0 0 1)=some (.own (e.n+2) (g+1) 0 (n+1),hB c e I left++[fb,rb,n4 185 7 (g+1) (zs++x1::x2::x3::u7 x),⟨0,false,185,7,x1::x2::x3::u7 x,0⟩]):=by
  rw[aI];exact pY hz hn
variable {ps l:List Pm}{vars:List BA}{j:Nat}{J:Int}
theorem IJ (h:j<l.length)(hm:(l.getD j fC).mu=true):p6 c ps vars (l.drop j) J=(⟨true,(l9 c ps vars J).1,l4⟩::(p6 c ps vars (l.drop (j+1)) (l9 c ps vars J).2).1,(p6 c ps vars (l.drop (j+1)) (l9 c ps vars J).2).2):=by rw[List.drop_eq_getElem_cons h,p6,if_pos (by simpa [List.getD,h] using hm)]
theorem IK (h:j<l.length)(hm:(l.getD j fC).mu=false):p6 c ps vars (l.drop j) J=(⟨false,n5,(g5 c vars J).1⟩::(p6 c ps vars (l.drop (j+1)) (g5 c vars J).2).1,(p6 c ps vars (l.drop (j+1)) (g5 c vars J).2).2):=by rw[List.drop_eq_getElem_cons h,p6,if_neg t218]
theorem kM {l:List Ar}{a:Ar}:aH (l++[a])=aH l++D9 a:=by simp[aH]
theorem SS {l:List Ar}:∀x∈aH l,Refs n x:=by
  intro x hx;obtain ⟨a,_,hx⟩:=List.mem_flatMap.1 hx;simp only[D9,aI,List.mem_cons,List.not_mem_nil,or_false]at hx;rcases hx with rfl | rfl | rfl | rfl | rfl | rfl | rfl
  · exact .bool _
  · exact .str _
  · exact .vec _ _
  · exact .int _ _
  · exact .int _ _
  · exact .str _
  · exact .vec _ _
theorem mU {J':Int}{xs:List Ar}{a:Ar}(h:p6 c ps vars l I=(xs++(p6 c ps vars (l.drop j) J).1,(p6 c ps vars (l.drop j) J).2))(hs:p6 c ps vars (l.drop j) J=(a::(p6 c ps vars (l.drop (j+1)) J').1,(p6 c ps vars (l.drop (j+1)) J').2)):p6 c ps vars l I=((xs++[a])++(p6 c ps vars (l.drop (j+1)) J').1,(p6 c ps vars (l.drop (j+1)) J').2):=by rw[h,hs];simp only[List.append_assoc,List.cons_append,List.nil_append]
section
attribute [local go_sem] eT wrap64 aO wH pY vB fK vZ nH
theorem IL (hc:OkC c)(hI:OkI c.L I)(hL:c.L.length<4611686018427387904)(vars:List BA)(hN:vars.length<1000)(f g:Fu)(hp:f.params.length≤2)(hq:g.params.length≤2):CH 66 [.ptr 6 0 0,.agg (aO f),.agg (aO g),.vec vars.length (p7 vars)] (hB c e I left) (.vec (p6 c f.params vars g.params I).1.length (aH (p6 c f.params vars g.params I).1)) (hB c e (p6 c f.params vars g.params I).2 left):=by
  refine .wz Tryz.f66 40 ?_;refine c87z ?_;refine g6.oB 9 rfl ?_;refine .aD (fun m st=>∃(j:Nat) (J:Int) (xs:List Ar),(m=g.params.length-j∧(j≤g.params.length∧OkI c.L J∧xs.length=j∧p6 c f.params vars g.params I=(xs++(p6 c f.params vars (g.params.drop j) J).1,(p6 c f.params vars (g.params.drop j) J).2)))∧st=⟨mkS 40 [(0,AV.ptr 6 0 0),(3,AV.vec vars.length (p7 vars)),(5,AV.ptr e.n 0 0),(6,AV.ptr (e.n+1) 0 0),(9,AV.own (e.n+2) j 0 j),(10,AV.int .i64 ((j:Nat):Int))],hB c e J left++[⟨0,false,122,3,[.str f.name,.vec f.params.length (p9 f.params),.vec f.body.len (n8 f.body)],0⟩,⟨0,false,122,3,[.str g.name,.vec g.params.length (p9 g.params),.vec g.body.len (n8 g.body)],0⟩,n4 185 7 j (aH xs)]⟩) (.v ⟨0,I,[],⟨rfl,⟨by omega,hI,rfl,rfl⟩⟩,rfl⟩ (hs:=t20) (hr:=t0)) ?_;rintro m sl h' ⟨j,J,xs,⟨hm,⟨hj,hJ,hal,hA⟩⟩,hst⟩;obtain ⟨rfl,rfl⟩:=St.mk.inj hst;clear hst;have hz7:(aH xs).length=j*7:=by rw[cR,hal];omega
  refine c0z ?_;refine u2z ?_ ?_
  ·intro e1 qe1;refine c177z ?_;refine u2z ?_ ?_
   ·intro e2 qe2;refine .c9 [0,3,5,6,9,10] ?_;refine c150z ?_;refine .ch rfl rfl (G7 hc hJ hL vars hN f hp) ?_;refine c42z ?_;refine .c9 [0,3,5,6,9,10] ?_;refine g6.LQ (β:=e.n+2) (aH (xs++[(⟨true,(l9 c f.params vars J).1,l4⟩:Ar)])) t51 (by rw[kM];exact (mB.refl _).app zC) ?_;refine c161z ?_;exact ⟨_,by omega,.v ⟨(j+1),(l9 c f.params vars J).2,(xs++[(⟨true,(l9 c f.params vars J).1,l4⟩:Ar)]),⟨rfl,⟨by omega,(jM hc hJ).2,by simp[hal],mU hA (IJ (by omega) (by assumption))⟩⟩,rfl⟩ (he:=t82) (hl:=t12) (hk:=t111) (hs:=t20) (hr:=t0)⟩
   intro e2 qe2;refine .c9 [0,3,5,6,9,10] ?_;refine c283z ?_;refine .ch rfl rfl (pJ hc hJ hL vars hN) ?_;refine c42z ?_;refine g6.LQ (β:=e.n+2) (aH (xs++[(⟨false,n5,(g5 c vars J).1⟩:Ar)])) t51 (by rw[kM];exact (mB.refl _).app uP) ?_;refine c161z ?_;exact ⟨_,by omega,.v ⟨(j+1),(g5 c vars J).2,(xs++[(⟨false,n5,(g5 c vars J).1⟩:Ar)]),⟨rfl,⟨by omega,(fF hJ).2,by simp[hal],mU hA (IK (by omega) (by assumption))⟩⟩,rfl⟩ (he:=t82) (hl:=t12) (hk:=t111) (hs:=t20) (hr:=t0)⟩
  intro e1 qe1;refine c12z ?_;refine .c9 [9] ?_;refine c43z ?_;exact ⟨hB _ _ _ _,_,.vec xs.length (aH xs),rfl,t60,bE,t132,t189⟩
end
end Go.Proofs.YtapdldekgbbomaaGreatDoor.Sh
end
section
namespace Go.Proofs.YtapdldekgbbomaaGreatDoor.Sh
open Go.Ab Go.Un
theorem P1 {c:Core}{e:Frame}{left I:Int}{l:c8}(hc:OkC c)(hI:OkI c.L I)(hL:c.L.length<4611686018427387904)(vars:List BA)(hN:vars.length<1000)(f g:Fu)(hp:f.params.length≤2)(hq:g.params.length≤2):CH 66 [.ptr 6 0 0,.agg (aO f),.agg (aO g),.vec vars.length (p7 vars)] (hB c e I left++l) (.vec (p6 c f.params vars g.params I).1.length (aH (p6 c f.params vars g.params I).1)) (hB c e (p6 c f.params vars g.params I).2 left++l):=IL (e:=⟨e.bx,e.b0,e.b1,e.b2,e.z,e.m,e.g,e.rest++l⟩) hc hI hL vars hN f g hp hq
theorem P2 {l:List BA}:r6 oS (p7 l)=some (p7 l):=by
 induction l with
 | nil=>rfl
 | cons x l ih=>
  have e:oS (.str x)=some (.str x):=rfl;simp only[p7,List.map_cons,r6,e]at ih ⊢;rw[ih]
variable {β:Nat}
theorem zV {H:c8}{b:Blk}(h:H[β]?=some b):H.set β b=H:=by obtain ⟨h1,h2⟩:=List.getElem?_eq_some_iff.1 h;rw[←h2];exact List.set_getElem_self h1
variable {g:Nat}
theorem qJ {f:FuncId}{args args':List AV}{H:c8}{Q:AV→c8→Prop}{vs:List BA}(hb:H[β]?=some ⟨g,false,9,1,p7 vs,vs.length⟩)(ha:J1 β g 0 vs.length (p7 vs) args' args)(r:CallA Tryz.prog cfg f args' H Q):CallA Tryz.prog cfg f args H Q:=by
 have e:H.set β (dM ⟨g,false,9,1,p7 vs,vs.length⟩ (0+vs.length*1))=H:=by rw[show dM ⟨g,false,9,1,p7 vs,vs.length⟩ (0+vs.length*1)=⟨g,false,9,1,p7 vs,vs.length⟩ from by simp[dM]];exact zV hb
 refine CallA.K0 (β:=β) (off:=0) (len:=vs.length) (cs:=p7 vs) hb rfl (by simp[w3]) ?_ ha (by rw[e];exact r);simp only[List.drop_zero,Nat.mul_one];rw[List.take_of_length_le t129];exact P2
theorem raise {c:Code}{sl:List AV}{h:c8}{Q:Exit→St→Prop}{k:Nat}{b:Blk}(hb:h[β]?=some b)(hk:b.frz≤k)(r:g6 Tryz.prog cfg c ⟨sl,h.set β ⟨b.gen,b.cG,b.elem,b.esz,b.cells,k⟩⟩ Q):g6 Tryz.prog cfg c ⟨sl,h⟩ Q:=by
 refine g6.step _ (fun B φ w i=>?_) r;have:=nC k i hb;have e:dM b k=⟨b.gen,b.cG,b.elem,b.esz,b.cells,k⟩:=by simp only[dM,Nat.max_eq_right hk]
 rw[e]at this;exact this
section
variable {c:Core}{e:Frame}{I left:Int}{l:c8}{fb:Blk}{gv:Nat}{vs:List BA}
theorem PV:(hB c e I left++(fb::⟨gv,false,9,1,p7 vs,vs.length⟩::l))[e.n+1]?=some ⟨gv,false,9,1,p7 vs,vs.length⟩:=bC
theorem lM (hc:OkC c)(hI:OkI c.L I)(hL:c.L.length<4611686018427387904)(hN:vs.length<1000):CH 65 [.ptr 6 0 0,.own (e.n+1) gv 0 vs.length] (hB c e I left++(fb::⟨gv,false,9,1,p7 vs,vs.length⟩::l)) (.agg (u7 (g5 c vs I).1)) (hB c e (g5 c vs I).2 left++(fb::⟨gv,false,9,1,p7 vs,vs.length⟩::l)):=
 qJ (args':=[.ptr 6 0 0,.vec vs.length (p7 vs)]) PV ⟨.inl rfl,.inr ⟨rfl,rfl⟩,trivial⟩ (pJ hc hI hL vs hN)
theorem W9 (hc:OkC c)(hI:OkI c.L I)(hL:c.L.length<4611686018427387904)(hN:vs.length<1000)(f:Fu)(hp:f.params.length≤2):CH 64 [.ptr 6 0 0,.agg (aO f),.own (e.n+1) gv 0 vs.length] (hB c e I left++(fb::⟨gv,false,9,1,p7 vs,vs.length⟩::l)) (.agg (wH (l9 c f.params vs I).1)) (hB c e (l9 c f.params vs I).2 left++(fb::⟨gv,false,9,1,p7 vs,vs.length⟩::l)):=
 qJ (args':=[.ptr 6 0 0,.agg (aO f),.vec vs.length (p7 vs)]) PV ⟨.inl rfl,.inl rfl,.inr ⟨rfl,rfl⟩,trivial⟩ (G7 hc hI hL vs hN f hp)
theorem IM (hc:OkC c)(hI:OkI c.L I)(hL:c.L.length<4611686018427387904)(hN:vs.length<1000)(f g:Fu)(hp:f.params.length≤2)(hq:g.params.length≤2):CH 66 [.ptr 6 0 0,.agg (aO f),.agg (aO g),.own (e.n+1) gv 0 vs.length] (hB c e I left++(fb::⟨gv,false,9,1,p7 vs,vs.length⟩::l)) (.vec (p6 c f.params vs g.params I).1.length (aH (p6 c f.params vs g.params I).1)) (hB c e (p6 c f.params vs g.params I).2 left++(fb::⟨gv,false,9,1,p7 vs,vs.length⟩::l)):=
 qJ (args':=[.ptr 6 0 0,.agg (aO f),.agg (aO g),.vec vs.length (p7 vs)]) PV ⟨.inl rfl,.inl rfl,.inl rfl,.inr ⟨rfl,rfl⟩,trivial⟩ (P1 hc hI hL vs hN f g hp hq)
def rD (c:Core)(f:Fu)(fu:Nat)(left:Int):Prop:=∀{e:Frame} (I l':Int) (vs all:List BA) (d m:Int),OkI c.L I→0≤l'→l'<left→0≤d→d≤100→0≤m→m≤100→(∀x∈vs,x∈all)→Fr l'.toNat all→vs.length+l'.toNat≤500→
 CallA Tryz.prog cfg 45 [.ptr 6 0 0,.agg (aO f),.vec vs.length (p7 vs),.int .i64 d,.int .i64 m] (hB c e I l') (fun y' h'=>y'=.vec (c7 c f.params fu vs d m I l').1.len (n8 (c7 c f.params fu vs d m I l').1)∧h'=hB c e (c7 c f.params fu vs d m I l').2.1 (c7 c f.params fu vs d m I l').2.2)
theorem rD.V {f:Fu}{fu:Nat}{left0:Int}(h:rD c f fu left0)(l':Int)(all:List BA)(d m:Int)(hI:OkI c.L I)(h1:0≤l')(h2:l'<left0)(h3:0≤d)(h4:d≤100)(h5:0≤m)(h6:m≤100)(h7:∀x∈vs,x∈all)(h8:Fr l'.toNat all)(h9:vs.length+l'.toNat≤500) :
  CallA Tryz.prog cfg 45 [.ptr 6 0 0,.agg (aO f),.own (e.n+1) gv 0 vs.length,.int .i64 d,.int .i64 m] (hB c e I l'++(fb::⟨gv,false,9,1,p7 vs,vs.length⟩::l)) (fun y' h'=>y'=.vec (c7 c f.params fu vs d m I l').1.len (n8 (c7 c f.params fu vs d m I l').1)∧h'=hB c e (c7 c f.params fu vs d m I l').2.1 (c7 c f.params fu vs d m I l').2.2++(fb::⟨gv,false,9,1,p7 vs,vs.length⟩::l)):=
 qJ (args':=[.ptr 6 0 0,.agg (aO f),.vec vs.length (p7 vs),.int .i64 d,.int .i64 m]) PV ⟨.inl rfl,.inl rfl,.inr ⟨rfl,rfl⟩,.inl rfl,.inl rfl,trivial⟩ (h (e:=⟨e.bx,e.b0,e.b1,e.b2,e.z,e.m,e.g,e.rest++(fb::⟨gv,false,9,1,p7 vs,vs.length⟩::l)⟩) I l' vs all d m hI h1 h2 h3 h4 h5 h6 h7 h8 h9)
def gO (g n:Nat):Nat:=if n=0 then g else g+1
theorem zW (hn:vs.length<1000):g8 cfg 9 (hB c e I left++[fb,⟨0,false,9,1,[],0⟩]) (.own (e.n+1) 0 0 0) (.vec vs.length (p7 vs))=some (.own (e.n+1) (gO 0 vs.length) 0 vs.length,hB c e I left++[fb,⟨gO 0 vs.length,false,9,1,p7 vs,0⟩]):=by
 have e1:cfg.sz 9=1:=rfl;have e2:(cfg.ti 9).bytes=16:=rfl;have hm:vs.length≤maxLen:=by
  have:(1000:Nat)≤maxLen:=by decide
  omega
 have hb:vs.length*16≤140737488355328:=by omega
 cases vs with
 | nil=>simp[g8,rd,lenOf,e1,e2,bC,gO,p7]
 | cons x vs=>
  have h0:(p7 (x::vs)).length=vs.length+1:=by simp[p7]
  simp only[List.length_cons]at hm hb;simp[g8,rd,lenOf,e1,e2,bC,gO,h0,hm,hb,bJ]
variable {t:Blk}
theorem IN {O p:Blk}{x:BA}(hn:vs.length<1000):g8 cfg 9 (hB c e I left++[fb,⟨gv,false,9,1,p7 vs,vs.length⟩,O,t,p,⟨0,false,9,1,[.str x],0⟩]) (.own (e.n+1) gv 0 vs.length) (.own (e.n+5) 0 0 1)=some (.own (e.n+1) (gv+1) 0 (vs.length+1),hB c e I left++[fb,⟨gv+1,false,9,1,p7 (vs++[x]),vs.length⟩,O,t,p,⟨0,false,9,1,[.str x],0⟩]):=by
 have e1:cfg.sz 9=1:=rfl;have e2:(cfg.ti 9).bytes=16:=rfl;have hm:vs.length+1≤maxLen:=by
  have:(1001:Nat)≤maxLen:=by decide
  omega
 have hb:(vs.length+1)*16≤140737488355328:=by omega
 have ht:List.take vs.length (p7 vs)=p7 vs:=List.take_of_length_le t129;have hnl:¬vs.length+1≤vs.length:=by omega
 simp[g8,rd,lenOf,e1,e2,bC,w3,hm,hb,bJ,ht,hnl,fM]
variable {n:Nat}{zs:List AV}
theorem zX {vb t:Blk}{g:Nat}{x1 x2 x3 x4 x5 x6 x7 x8 x9 x10 x11:AV}(hz:zs.length=n*11)(hn:n<1000) :
  g8 cfg 149 (hB c e I left++[fb,vb,n4 149 11 g zs,t,⟨0,false,149,11,[x1,x2,x3,x4,x5,x6,x7,x8,x9,x10,x11],0⟩]) (.own (e.n+2) g 0 n) (.own (e.n+4) 0 0 1)=some (.own (e.n+2) (g+1) 0 (n+1),hB c e I left++[fb,vb,n4 149 11 (g+1) (zs++[x1,x2,x3,x4,x5,x6,x7,x8,x9,x10,x11]),t,⟨0,false,149,11,[x1,x2,x3,x4,x5,x6,x7,x8,x9,x10,x11],0⟩]):=by
 have hb:(hB c e I left++[fb,vb,n4 149 11 g zs,t,⟨0,false,149,11,[x1,x2,x3,x4,x5,x6,x7,x8,x9,x10,x11],0⟩])[e.n+2]?=some (n4 149 11 g zs):=bC;rw[s9 (C:=cfg) (K:=11) (m:=1) (new:=[x1,x2,x3,x4,x5,x6,x7,x8,x9,x10,x11]) hb rfl (by omega) hz rfl (by omega) t105 rfl (by decide) (by omega),bJ];rfl
theorem zY {vb t u:Blk}{g:Nat}{x1 x2 x3 x4 x5 x6 x7 x8 x9 x10 x11:AV}(hz:zs.length=n*11)(hn:n<1000) :
  g8 cfg 149 (hB c e I left++[fb,vb,n4 149 11 g zs,t,u,⟨0,false,149,11,[x1,x2,x3,x4,x5,x6,x7,x8,x9,x10,x11],0⟩]) (.own (e.n+2) g 0 n) (.own (e.n+5) 0 0 1)=some (.own (e.n+2) (g+1) 0 (n+1),hB c e I left++[fb,vb,n4 149 11 (g+1) (zs++[x1,x2,x3,x4,x5,x6,x7,x8,x9,x10,x11]),t,u,⟨0,false,149,11,[x1,x2,x3,x4,x5,x6,x7,x8,x9,x10,x11],0⟩]):=by
 have hb:(hB c e I left++[fb,vb,n4 149 11 g zs,t,u,⟨0,false,149,11,[x1,x2,x3,x4,x5,x6,x7,x8,x9,x10,x11],0⟩])[e.n+2]?=some (n4 149 11 g zs):=bC;rw[s9 (C:=cfg) (K:=11) (m:=1) (new:=[x1,x2,x3,x4,x5,x6,x7,x8,x9,x10,x11]) hb rfl (by omega) hz rfl (by omega) t105 rfl (by decide) (by omega),bJ];rfl
theorem pZ {vb t u v:Blk}{g:Nat}{x1 x2 x3 x4 x5 x6 x7 x8 x9 x10 x11:AV}(hz:zs.length=n*11)(hn:n<1000) :
  g8 cfg 149 (hB c e I left++[fb,vb,n4 149 11 g zs,t,u,v,⟨0,false,149,11,[x1,x2,x3,x4,x5,x6,x7,x8,x9,x10,x11],0⟩]) (.own (e.n+2) g 0 n) (.own (e.n+6) 0 0 1)=some (.own (e.n+2) (g+1) 0 (n+1),hB c e I left++[fb,vb,n4 149 11 (g+1) (zs++[x1,x2,x3,x4,x5,x6,x7,x8,x9,x10,x11]),t,u,v,⟨0,false,149,11,[x1,x2,x3,x4,x5,x6,x7,x8,x9,x10,x11],0⟩]):=by
 have hb:(hB c e I left++[fb,vb,n4 149 11 g zs,t,u,v,⟨0,false,149,11,[x1,x2,x3,x4,x5,x6,x7,x8,x9,x10,x11],0⟩])[e.n+2]?=some (n4 149 11 g zs):=bC;rw[s9 (C:=cfg) (K:=11) (m:=1) (new:=[x1,x2,x3,x4,x5,x6,x7,x8,x9,x10,x11]) hb rfl (by omega) hz rfl (by omega) t105 rfl (by decide) (by omega),bJ];rfl
variable {m:Nat}{cs:List AV}
theorem vC {vb t u s:Blk}{g:Nat}(hz:zs.length=n*11)(hcs:cs.length=m*11)(hn:n<1000)(hm:m<1000) :
  g8 cfg 149 (hB c e I left++[fb,vb,n4 149 11 g zs,t,u,s]) (.own (e.n+2) g 0 n) (.vec m cs)=some (.own (e.n+2) (gO g m) 0 (n+m),hB c e I left++[fb,vb,n4 149 11 (gO g m) (zs++cs),t,u,s]):=by
 have hb:(hB c e I left++[fb,vb,n4 149 11 g zs,t,u,s])[e.n+2]?=some (n4 149 11 g zs):=bC;by_cases h0:m=0
 ·subst h0;obtain rfl:cs=[]:=List.length_eq_zero_iff.1 (by simpa using hcs);have e1:cfg.sz 149=11:=rfl;have e2:(cfg.ti 149).bytes=192:=rfl;have hmx:n≤maxLen:=by
   have:(1000:Nat)≤maxLen:=by decide
   omega
  have hbd:n*192≤140737488355328:=by omega
  simp[g8,rd,lenOf,e1,e2,hb,pA,gO,hmx,hbd]
 ·rw[s9 (C:=cfg) (K:=11) (m:=m) (new:=cs) hb rfl (by omega) hz hcs (by omega) rfl rfl (by decide) (by omega),bJ];simp only[gO,h0,if_false];rfl
theorem zZ {vb t u s:Blk}{g:Nat}{y1 y2 y3 y4 y5 y6 y7 y8 y9 y10 y11:AV}(hz:zs.length=n*11)(hcs:cs.length=m*11)(hn:n<900)(hm:m<1000) :
  g8 cfg 149 (hB c e I left++[fb,vb,n4 149 11 g (zs++[y1,y2,y3,y4,y5,y6,y7,y8,y9,y10,y11]),t,u,s]) (.own (e.n+2) g 0 (n+1)) (.vec m cs)=some (.own (e.n+2) (gO g m) 0 (n+1+m),hB c e I left++[fb,vb,n4 149 11 (gO g m) ((zs++[y1,y2,y3,y4,y5,y6,y7,y8,y9,y10,y11])++cs),t,u,s]):=
 vC (by rw[List.length_append,hz];simp;omega) hcs (by omega) hm
theorem A0 {vb t u v:Blk}{g:Nat}{y1 y2 y3 y4 y5 y6 y7 y8 y9 y10 y11 x1 x2 x3 x4 x5 x6 x7 x8 x9 x10 x11:AV}(hz:zs.length=n*11)(hcs:cs.length=m*11)(hn:n<400)(hm:m<400) :
  g8 cfg 149 (hB c e I left++[fb,vb,n4 149 11 g (zs++y1::y2::y3::y4::y5::y6::y7::y8::y9::y10::y11::cs),t,u,v,⟨0,false,149,11,[x1,x2,x3,x4,x5,x6,x7,x8,x9,x10,x11],0⟩]) (.own (e.n+2) g 0 (n+1+m)) (.own (e.n+6) 0 0 1)=some (.own (e.n+2) (g+1) 0 (n+1+m+1),hB c e I left++[fb,vb,n4 149 11 (g+1) ((zs++y1::y2::y3::y4::y5::y6::y7::y8::y9::y10::y11::cs)++[x1,x2,x3,x4,x5,x6,x7,x8,x9,x10,x11]),t,u,v,⟨0,false,149,11,[x1,x2,x3,x4,x5,x6,x7,x8,x9,x10,x11],0⟩]):=
 pZ t226 (by omega)
end
theorem X0 {n:Nat}:∀(s:Sl),∀x∈n8 s,Refs n x
 | .nil,x,hx=>by simp[n8]at hx
 | .cons k nm e r as' th el rest,x,hx=>by
  simp only[n8,aI,List.cons_append,List.nil_append,List.mem_cons]at hx;rcases hx with rfl | rfl | rfl | rfl | rfl | rfl | rfl | rfl | rfl | rfl | rfl | hx
  ·exact .int _ _
  ·exact .str _
  ·exact .int _ _
  ·exact .int _ _
  ·exact .str _
  ·exact .vec _ _
  ·exact .str _
  ·exact .vec _ _
  ·exact .vec _ _
  ·exact .vec _ _
  ·exact .vec _ _
  ·exact X0 rest x hx
theorem PW {n d:Nat}{H:c8}:∀(s:Sl),r6 (kN n H (d+1)) (n8 s)=some (n8 s)
 | .nil=>rfl
 | .cons k nm e r as' th el rest=>by have ih:=PW (n:=n) (d:=d) (H:=H) rest;simp only[n8,aI,List.cons_append,List.nil_append,r6,oZ,kT,jL,ih]
theorem p8 {k:Int}{nm:BA}{x:Ex}{r:Rf}{xs:List Ar}{th el:Sl}{a b c d f:AV}(ha:a=.vec x.args.length (n9 x.args)∨(a=.j9∧x.args=[]))(hb:b=.vec r.idx.length (n9 r.idx)∨(b=.j9∧r.idx=[]))(hc:c=.vec xs.length (aH xs)∨(c=.j9∧xs=[]))
  (hd:d=.vec th.len (n8 th)∨(d=.j9∧th=.nil)) (hf:f=.vec el.len (n8 el)∨(f=.j9∧el=.nil)) :
  mB (n8 (row k nm x r xs th el)) [.int .i64 k,.str nm,.int .i64 x.op,.int .i64 x.num,.str x.name,a,.str r.name,b,c,d,f]:=by
 simp only[row,n8,aI,List.cons_append,List.nil_append];refine ⟨.inl rfl,.inl rfl,.inl rfl,.inl rfl,.inl rfl,?_,.inl rfl,?_,?_,?_,?_,trivial⟩
 ·rcases ha with rfl | ⟨rfl,h⟩
  ·exact .inl rfl
  ·rw[h];exact .inr ⟨rfl,rfl⟩
 ·rcases hb with rfl | ⟨rfl,h⟩
  ·exact .inl rfl
  ·rw[h];exact .inr ⟨rfl,rfl⟩
 ·rcases hc with rfl | ⟨rfl,h⟩
  ·exact .inl rfl
  ·rw[h];exact .inr ⟨rfl,rfl⟩
 ·rcases hd with rfl | ⟨rfl,h⟩
  ·exact .inl rfl
  ·rw[h];exact .inr ⟨rfl,rfl⟩
 ·rcases hf with rfl | ⟨rfl,h⟩
  ·exact .inl rfl
  ·rw[h];exact .inr ⟨rfl,rfl⟩
theorem jD {k:Int}{nm:BA}{x:Ex}{r:Rf}{xs:List Ar}{th el:Sl}:n8 (row k nm x r xs th el)=[.int .i64 k,.str nm,.int .i64 x.op,.int .i64 x.num,.str x.name,.vec x.args.length (n9 x.args),.str r.name,.vec r.idx.length (n9 r.idx),.vec xs.length (aH xs),.vec th.len (n8 th),.vec el.len (n8 el)]:=by simp only[row,n8,aI,List.cons_append,List.nil_append]
theorem IP {n:Int}(h1:0≤n)(h2:n<256):IntKind.wrap .u8 n=n:=by unfold IntKind.wrap;have e1:(2:Int)^IntKind.bits .u8=256:=rfl;have e3:IntKind.signed .u8=false:=rfl;simp only[e1,e3,Bool.false_and,Bool.false_eq_true,if_false];omega
theorem IQ {l:Int}(h0:0≤l)(h1:l<24):(⟨#[118]⟩:BA)++(⟨#[UInt8.ofNat (97+l.tmod 26).toNat,UInt8.ofNat (97+(l.tdiv 26).tmod 26).toNat]⟩:BA)=vnm l.toNat:=by
 obtain ⟨n,rfl⟩:=Int.eq_ofNat_of_zero_le h0;have key:∀n:Fin 24,(⟨#[118]⟩:BA)++(⟨#[UInt8.ofNat (97+((n.1:Nat):Int).tmod 26).toNat,UInt8.ofNat (97+(((n.1:Nat):Int).tdiv 26).tmod 26).toNat]⟩:BA)=vnm n.1:=by decide +kernel
 exact key ⟨n,by omega⟩
theorem Il {l:Int}(h0:0≤l):0≤l.tmod 26∧l.tmod 26<26:=⟨Int.tmod_nonneg _ h0,Int.tmod_lt_of_pos _ (by omega)⟩
theorem td26 {l:Int}(h0:0≤l)(h1:l<24):l.tdiv 26=0:=by
 obtain ⟨n,rfl⟩:=Int.eq_ofNat_of_zero_le h0;have key:∀n:Fin 24,(((n.1:Nat):Int).tdiv 26)=0:=by decide
 exact key ⟨n,by omega⟩
theorem n26:((26:Int)=0)=False:=by simp
attribute [local go_sem] rd l7 w3 n7 w9 aJ o8 aI Int.natCast_nonneg Int.natCast_inj List.length_map aQ ZF ZG ZH AR AS AT AU bC mP bJ oF wrap64 IP aO wH zW IN zX zY pZ zZ A0 nR mL I6 vZ A5 I7 nH max2 kC iA IQ sz_v1 sz_v2 n26 List.flatten_nil List.flatten_cons
theorem qA {c:Core}(hc:OkC c)(hL:c.L.length<4611686018427387904)(f:Fu)(hp:f.params.length≤2)(fu:Nat)(hfu:fu≤23){left:Int}(hl0:0≤left)(hlf:left≤fu+1)(ih:rD c f fu left){e:Frame}(I:Int)(hI:OkI c.L I)(vars all:List BA)(deep most:Int)(hd:0≤deep∧deep≤100)(hm:0≤most∧most≤100)(hv:∀x∈vars,x∈all)(hfr:Fr left.toNat all)(hN:vars.length+left.toNat≤500):CH 45 [.ptr 6 0 0,.agg (aO f),.vec vars.length (p7 vars),.int .i64 deep,.int .i64 most] (hB c e I left) (.vec (c7 c f.params (fu+1) vars deep most I left).1.len (n8 (c7 c f.params (fu+1) vars deep most I left).1)) (hB c e (c7 c f.params (fu+1) vars deep most I left).2.1 (c7 c f.params (fu+1) vars deep most I left).2.2):=by
  have hmx:=l3 hI (n:=most+1) (by omega);generalize hR:c7 c f.params (fu+1) vars deep most I left=R;rw[c7]at hR;refine .wz Tryz.f45 249 ?_;refine .z ?_;refine c136z ?_;refine raise (β:=e.n+1) (k:=vars.length) t51 (Nat.zero_le _) ?_;simp only[bJ,List.set_cons_succ,List.set_cons_zero];refine c149z ?_;refine c164z ?_;refine g6.oB 11 rfl ?_;refine .aD (fun m st=>∃(mm:Nat) (J:Int) (l:Int) (vs:List BA) (out:Sl) (go:Nat) (gv:Nat),(m=mm∧(OkB (T3 c f.params) c.L all left (deep.toNat+1) (out,J,l)∧(∀x∈vs,x∈z6 out all)∧vs.length+l.toNat≤500∧mm≤200∧cU c f.params (c7 c f.params fu) mm vs deep out J l=R))∧st=⟨mkS 249 [(0,AV.ptr 6 0 0),(2,AV.own (e.n+1) gv 0 vs.length),(3,AV.int .i64 deep),(6,AV.ptr e.n 0 0),(11,AV.own (e.n+2) go 0 out.len),(12,AV.int .i64 ((mm:Nat):Int))],hB c e J l++[⟨0,false,122,3,[.str f.name,.vec f.params.length (p9 f.params),.vec f.body.len (n8 f.body)],0⟩,⟨gv,false,9,1,p7 vs,vs.length⟩,n4 149 11 go (n8 out)]⟩) (.v ⟨(c5 c.L I (most+1)).1.toNat,(c5 c.L I (most+1)).2,left,vars,Sl.nil,0,(gO 0 vars.length),⟨rfl,⟨⟨hmx.2.2,⟨hl0,Int.le_refl _⟩,trivial,hfr,by simp[Sl.wt],t210⟩,hv,hN,by omega,hR⟩⟩,rfl⟩ (hs:=t2) (hr:=t0)) ?_;rintro m sl h' ⟨mm,J,l,vs,out,go,gv,⟨hm,⟨hO,hV,hvl,hmm,hF⟩⟩,hst⟩;obtain ⟨rfl,rfl⟩:=St.mk.inj hst;clear hst;have hz:(n8 out).length=out.len*11:=by rw[aM];omega
  have hlw:=bF out;have hw:=hO.wt;have hol:=hO.ol;have hJ:=hO.oi;simp only at hw hol hJ;have hlen:out.len<100:=by omega
  have h14:=l3 hJ (n:=14) (by omega);have hfl:=hc.fl;refine c300z ?_;refine .spl 29 rfl rfl (fun e1=>?_) (fun e1=>?_)
  ·try simp only[e1]
   have qe1:=fact e1;refine .m [(2,29)] ?_;refine u2z ?_ ?_
   ·intro e2 qe2;refine c5z ?_;refine .c9 [0,2,3,6,11,12] ?_;refine c136z ?_;refine c219z ?_;refine .ch rfl rfl (dI _ _ 14 hJ hL (by omega) (by omega)) ?_;refine .n ?_;refine c98z ?_;refine u2z ?_ ?_
    ·intro e3 qe3;refine .c9 [0,2,3,6,11,12,13] ?_;refine c283z ?_;refine c37z ?_;change g6 ..;refine g6.dF (β:=e.n+3) (n8 (row 5 ByteArray.empty l4 (l9 c f.params vs (c5 c.L J 14).2).1 [] .nil .nil)) t51 ?_ ?_;exact p8 t3 t3 t3 t3 t3;refine c301z ?_;have hround:o9 c f.params (c7 c f.params fu) vs deep J (l-1)=((row 5 ByteArray.empty l4 (l9 c f.params vs (c5 c.L J 14).2).1 [] .nil .nil),vs,(l9 c f.params vs (c5 c.L J 14).2).2,(l-1)):=RM (by omega);obtain ⟨hO2,hl2,hV2⟩:=s5 hc hfu hlf hd.1 hO hV (by omega) hround;have hF1:cU c f.params (c7 c f.params fu) (mm-1+1) vs deep out J l=R:=by rw[Nat.sub_add_cancel (by omega)];exact hF
     have hF2:=w4 hF1 (by omega) hround;have hlq:=hO2.ol;simp only at hlq;have hlo:(out.app (row 5 ByteArray.empty l4 (l9 c f.params vs (c5 c.L J 14).2).1 [] .nil .nil)).len=out.len+1:=by simp only[Go.Un.Sl.w8,row,Go.Un.Sl.len]
     exact ⟨_,by omega,.v ⟨(mm-1),(l9 c f.params vs (c5 c.L J 14).2).2,(l-1),vs,(out.app (row 5 ByteArray.empty l4 (l9 c f.params vs (c5 c.L J 14).2).1 [] .nil .nil)),(go+1),gv,⟨rfl,⟨hO2,hV2,by omega,by omega,hF2⟩⟩,rfl⟩ (he:=t31) (hl:=t12) (hk:=t10) (hs:=t2) (hr:=t0)⟩
    intro e3 qe3;refine c123z ?_;refine u2z ?_ ?_
    ·intro e4 qe4;refine c283z ?_;refine c37z ?_;refine c63z ?_;refine g6.dF (β:=e.n+3) (n8 (row 6 ByteArray.empty l4 (l9 c f.params vs (c5 c.L J 14).2).1 [] .nil .nil)) t51 ?_ ?_;exact p8 t3 t3 t3 t3 t3;refine c78z ?_;have hround:o9 c f.params (c7 c f.params fu) vs deep J (l-1)=((row 6 ByteArray.empty l4 (l9 c f.params vs (c5 c.L J 14).2).1 [] .nil .nil),vs,(l9 c f.params vs (c5 c.L J 14).2).2,(l-1)):=U2 (by omega) (by omega);obtain ⟨hO2,hl2,hV2⟩:=s5 hc hfu hlf hd.1 hO hV (by omega) hround;have hF1:cU c f.params (c7 c f.params fu) (mm-1+1) vs deep out J l=R:=by rw[Nat.sub_add_cancel (by omega)];exact hF
     have hF2:=w4 hF1 (by omega) hround;have hlq:=hO2.ol;simp only at hlq;have hlo:(out.app (row 6 ByteArray.empty l4 (l9 c f.params vs (c5 c.L J 14).2).1 [] .nil .nil)).len=out.len+1:=by simp only[Go.Un.Sl.w8,row,Go.Un.Sl.len]
     exact ⟨_,by omega,.v ⟨(mm-1),(l9 c f.params vs (c5 c.L J 14).2).2,(l-1),vs,(out.app (row 6 ByteArray.empty l4 (l9 c f.params vs (c5 c.L J 14).2).1 [] .nil .nil)),(go+1),gv,⟨rfl,⟨hO2,hV2,by omega,by omega,hF2⟩⟩,rfl⟩ (he:=t31) (hl:=t12) (hk:=t10) (hs:=t2) (hr:=t0)⟩
    intro e4 qe4;refine .z ?_;refine u2z ?_ ?_
    ·intro e5 qe5;have ht:=Il (l:=l-1) (by omega);have htd:=td26 (l:=l-1) (by omega) (by omega);have ht2:=Il (l:=(l-1).tdiv 26) (by omega);refine .sg w7 (mkH 27 [0,0,3,0,8,24,56,120,248,504,0,1024,3072,7168,15360,31744,64512,130048,262136,524280,1048568,0,2097159,6291463,14680071,33554431,67108863] [2,18,22,24,26] [(18,0)] [0,4,262144,262148,4194308,4456452,20971524,21233668,88342532] [0,1,2,3,4,5,6,7,8,9,10,11,12,13,14,15,16,17,18,19,20]) 1 ?_;refine aC.bA t23 ?_;refine .p 2 ?_;refine .cm [true] [4,0] [_] rfl rfl t177 ?_;refine .p 3 ?_;refine .rm [true,true] ?_;refine .p 6 ?_;refine .rm [true,true] ?_;refine .p 4 ?_;refine .em [true,true] [262148,262144,4,0] [_,_] ?_;refine .rm [true,true,false,false] ?_;refine .p 2 ?_;refine .en [true,false,true,false] [4456452,4194308,262148,262144,4,0] [_,_] ?_;refine .p 1 ?_;refine .en [true,true,false,false,false,false] [21233668,20971524,4456452,4194308,262148,262144,4,0] [_,_] ?_;refine .p 1 ?_;refine .en [true,false,false,false,false,false,false,false] [88342532,21233668,20971524,4456452,4194308,262148,262144,4,0] [_] ?_;refine .po [false,true,false,true,false,true,true,false,false] ?_;refine .po [false,false,true,false,true,false,false,true,true] ?_;refine .po [false,false,true,false,true,false,false,true,true] ?_;refine .po [false,false,true,false,true,false,false,true,true] ?_;refine aC.pop [false,false,false,false,false,false,true,false,true] (by kernel_rfl) t116 ?_;refine aC.nil rfl ?_;refine c227z ?_;refine raise (β:=e.n+1) (k:=(vs++[vnm (l-1).toNat]).length) t51 (by simp) ?_;simp only[bJ,List.set_cons_succ,List.set_cons_zero];refine g6.dF (β:=e.n+3) (n8 (row 1 (vnm (l-1).toNat) (g5 c vs (c5 c.L J 14).2).1 n5 [] .nil .nil)) t51 ?_ ?_;exact p8 t3 t3 t3 t3 t3;refine c301z ?_;have hround:o9 c f.params (c7 c f.params fu) vs deep J (l-1)=((row 1 (vnm (l-1).toNat) (g5 c vs (c5 c.L J 14).2).1 n5 [] .nil .nil),(vs++[vnm (l-1).toNat]),(g5 c vs (c5 c.L J 14).2).2,(l-1)):=r_var (by omega);obtain ⟨hO2,hl2,hV2⟩:=s5 hc hfu hlf hd.1 hO hV (by omega) hround;have hF1:cU c f.params (c7 c f.params fu) (mm-1+1) vs deep out J l=R:=by rw[Nat.sub_add_cancel (by omega)];exact hF
     have hF2:=w4 hF1 (by omega) hround;have hlq:=hO2.ol;simp only at hlq;have hlo:(out.app (row 1 (vnm (l-1).toNat) (g5 c vs (c5 c.L J 14).2).1 n5 [] .nil .nil)).len=out.len+1:=by simp only[Go.Un.Sl.w8,row,Go.Un.Sl.len]
     have hvl2:(vs++[vnm (l-1).toNat]).length=vs.length+1:=by simp
     exact ⟨_,by omega,.v ⟨(mm-1),(g5 c vs (c5 c.L J 14).2).2,(l-1),(vs++[vnm (l-1).toNat]),(out.app (row 1 (vnm (l-1).toNat) (g5 c vs (c5 c.L J 14).2).1 n5 [] .nil .nil)),(go+1),(gv+1),⟨rfl,⟨hO2,hV2,by omega,by omega,hF2⟩⟩,rfl⟩ (he:=t192) (hl:=t12) (hk:=t10) (hs:=t2) (hr:=t0)⟩
    intro e5 qe5;refine c13z ?_;refine .spl 122 rfl rfl (fun e6=>?_) (fun e6=>?_)
    ·try simp only[e6]
     have qe6:=fact e6;refine .m [(2,122)] ?_;refine u2z ?_ ?_
     ·intro e7 qe7;refine .c9 [0,2,3,6,11,12,13] ?_;have hnv:=l3 h14.2.2 (n:=(vs.length:Int)) (by omega);refine g6.jF w7 (mkP 19 [0,0,2,6,14,0,32,126,255,511,0,0,3326,0,15614,32767,65535,131071,262143] [7,12,14,16,18]) [0,8,9,10,11,13] (by kernel_rfl) (by kernel_rfl) ?_;refine dD.p (pd:=[]) 7 ?_;refine dD.v7 rfl rfl rfl rfl rfl sF (dI _ _ (vs.length:Int) h14.2.2 hL (by omega) (by omega)) ?_;refine dD.p 4 ?_;refine dD.v7 rfl rfl rfl rfl rfl Al (lM (vs:=vs) hc hnv.2.2 hL (by omega)) ?_;refine dD.p 6 ?_;refine c168z ?_;refine g6.dF (β:=e.n+3) (n8 (row 2 (vs.getD (c5 c.L (c5 c.L J 14).2 vs.length).1.toNat ByteArray.empty) (g5 c vs (c5 c.L (c5 c.L J 14).2 vs.length).2).1 n5 [] .nil .nil)) t51 ?_ ?_;exact p8 t3 t3 t3 t3 t3;refine c78z ?_;have hround:o9 c f.params (c7 c f.params fu) vs deep J (l-1)=((row 2 (vs.getD (c5 c.L (c5 c.L J 14).2 vs.length).1.toNat ByteArray.empty) (g5 c vs (c5 c.L (c5 c.L J 14).2 vs.length).2).1 n5 [] .nil .nil),vs,(g5 c vs (c5 c.L (c5 c.L J 14).2 vs.length).2).2,(l-1)):=U3 (by omega) (by omega);obtain ⟨hO2,hl2,hV2⟩:=s5 hc hfu hlf hd.1 hO hV (by omega) hround;have hF1:cU c f.params (c7 c f.params fu) (mm-1+1) vs deep out J l=R:=by rw[Nat.sub_add_cancel (by omega)];exact hF
      have hF2:=w4 hF1 (by omega) hround;have hlq:=hO2.ol;simp only at hlq;have hlo:(out.app (row 2 (vs.getD (c5 c.L (c5 c.L J 14).2 vs.length).1.toNat ByteArray.empty) (g5 c vs (c5 c.L (c5 c.L J 14).2 vs.length).2).1 n5 [] .nil .nil)).len=out.len+1:=by simp only[Go.Un.Sl.w8,row,Go.Un.Sl.len]
      exact ⟨_,by omega,.v ⟨(mm-1),(g5 c vs (c5 c.L (c5 c.L J 14).2 vs.length).2).2,(l-1),vs,(out.app (row 2 (vs.getD (c5 c.L (c5 c.L J 14).2 vs.length).1.toNat ByteArray.empty) (g5 c vs (c5 c.L (c5 c.L J 14).2 vs.length).2).1 n5 [] .nil .nil)),(go+1),gv,⟨rfl,⟨hO2,hV2,by omega,by omega,hF2⟩⟩,rfl⟩ (he:=t31) (hl:=t12) (hk:=t10) (hs:=t2) (hr:=t0)⟩
     intro e7 qe7;refine c57z ?_;refine .spl 146 rfl rfl (fun e8=>by exfalso;(simp at e8;omega)) (fun e8=>?_);try simp only[e8]
     have qe8:=fact e8;refine .m [(2,146)] ?_;refine uFcz ?_;intro e9 qe9;refine c13z ?_;refine .spl 184 rfl rfl (fun e10=>by exfalso;(simp at e10;omega)) (fun e10=>?_);try simp only[e10]
     have qe10:=fact e10;refine .m [(2,184)] ?_;refine .F ?_;refine c57z ?_;refine .spl 216 rfl rfl (fun e11=>by exfalso;(simp at e11;omega)) (fun e11=>?_);try simp only[e11]
     have qe11:=fact e11;refine c237z ?_;have h3:=l3 h14.2.2 (n:=3) (by omega);refine c13z ?_;refine .spl 235 rfl rfl (fun e12=>by exfalso;(simp at e12;omega)) (fun e12=>?_);try simp only[e12]
     have qe12:=fact e12;refine c212z ?_;have hr9:=jM hc (ps:=f.params) (vars:=vs) (I:=(c5 c.L J 14).2) (h14.2.2);refine c303z ?_;refine g6.dF (β:=e.n+3) (n8 (row 5 ByteArray.empty l4 (l9 c f.params vs (c5 c.L J 14).2).1 [] .nil .nil)) t51 ?_ ?_;exact p8 t3 t3 t3 t3 t3;refine c48z ?_;have hb1:=cN hc (ps:=f.params) fu vs 0 2 (l9 c f.params vs (c5 c.L J 14).2).2 (z6 out all) (l-1) (by omega) (by omega) hr9.2 (by omega) (by omega) (by omega) hV (hO.fr.mono t90);have hb1l:=hb1.ol;have hb1w:=hb1.wt;have hb1n:=bF (c7 c f.params fu vs 0 2 (l9 c f.params vs (c5 c.L J 14).2).2 (l-1)).1;have hb1z:(n8 (c7 c f.params fu vs 0 2 (l9 c f.params vs (c5 c.L J 14).2).2 (l-1)).1).length=(c7 c f.params fu vs 0 2 (l9 c f.params vs (c5 c.L J 14).2).2 (l-1)).1.len*11:=by rw[aM];omega
     refine c258z ?_;refine g6.dF (β:=e.n+3) (n8 (row 6 ByteArray.empty l4 (l9 c f.params vs (c5 c.L J 14).2).1 [] .nil .nil)) t51 ?_ ?_;exact p8 t3 t3 t3 t3 t3;refine c78z ?_;have hround:o9 c f.params (c7 c f.params fu) vs deep J (l-1)=(((row 5 ByteArray.empty l4 (l9 c f.params vs (c5 c.L J 14).2).1 [] .nil .nil).app ((c7 c f.params fu vs 0 2 (l9 c f.params vs (c5 c.L J 14).2).2 (l-1)).1.app (row 6 ByteArray.empty l4 (l9 c f.params vs (c5 c.L J 14).2).1 [] .nil .nil))),vs,(c7 c f.params fu vs 0 2 (l9 c f.params vs (c5 c.L J 14).2).2 (l-1)).2.1,(c7 c f.params fu vs 0 2 (l9 c f.params vs (c5 c.L J 14).2).2 (l-1)).2.2):=wP (by omega) (by omega) (fun _=>by first | omega | (rw[‹vs=[]›];rfl)) (by omega) (by omega) (by omega) (by omega) rfl;obtain ⟨hO2,hl2,hV2⟩:=s5 hc hfu hlf hd.1 hO hV (by omega) hround;have hF1:cU c f.params (c7 c f.params fu) (mm-1+1) vs deep out J l=R:=by rw[Nat.sub_add_cancel (by omega)];exact hF
     have hF2:=w4 hF1 (by omega) hround;have hlq:=hO2.ol;simp only at hlq;have hlo:(out.app ((row 5 ByteArray.empty l4 (l9 c f.params vs (c5 c.L J 14).2).1 [] .nil .nil).app ((c7 c f.params fu vs 0 2 (l9 c f.params vs (c5 c.L J 14).2).2 (l-1)).1.app (row 6 ByteArray.empty l4 (l9 c f.params vs (c5 c.L J 14).2).1 [] .nil .nil)))).len=out.len+1+(c7 c f.params fu vs 0 2 (l9 c f.params vs (c5 c.L J 14).2).2 (l-1)).1.len+1:=by simp only[Go.Un.Sl.w8,row,Go.Un.Sl.len];omega
     exact ⟨_,by omega,.v ⟨(mm-1),(c7 c f.params fu vs 0 2 (l9 c f.params vs (c5 c.L J 14).2).2 (l-1)).2.1,(c7 c f.params fu vs 0 2 (l9 c f.params vs (c5 c.L J 14).2).2 (l-1)).2.2,vs,(out.app ((row 5 ByteArray.empty l4 (l9 c f.params vs (c5 c.L J 14).2).1 [] .nil .nil).app ((c7 c f.params fu vs 0 2 (l9 c f.params vs (c5 c.L J 14).2).2 (l-1)).1.app (row 6 ByteArray.empty l4 (l9 c f.params vs (c5 c.L J 14).2).1 [] .nil .nil)))),(gO (go+1) (c7 c f.params fu vs 0 2 (l9 c f.params vs (c5 c.L J 14).2).2 (l-1)).1.len+1),gv,⟨rfl,⟨hO2,hV2,by omega,by omega,hF2⟩⟩,rfl⟩ (he:=t55) (hl:=t12) (hk:=t10) (hs:=t2) (hr:=t0)⟩
    try simp only[e6]
    have qe6:=fact e6;refine .m [(2,122)] ?_;refine .F ?_;refine c57z ?_;refine .spl 146 rfl rfl (fun e13=>?_) (fun e13=>?_)
    ·try simp only[e13]
     have qe13:=fact e13;refine .m [(2,146)] ?_;refine .T ?_;refine c20z ?_;refine c123z ?_;refine uFcz ?_;intro e14 qe14;refine .sk ?_;have hnf:=l3 h14.2.2 (n:=(c.fs.length:Int)) (by omega);refine c28z ?_;refine c147z ?_;refine c206z ?_;refine c147z ?_;refine c192z ?_;refine c292z ?_;refine c68z ?_;refine c84z ?_;refine c77z ?_;refine c173z ?_;refine c49z ?_;refine c39z ?_;refine dD.p 4 ?_;refine c168z ?_;refine g6.dF (β:=e.n+3) (n8 (row 3 (c.fs.getD (c5 c.L (c5 c.L J 14).2 c.fs.length).1.toNat j5).name l4 n5 (p6 c f.params vs (c.fs.getD (c5 c.L (c5 c.L J 14).2 c.fs.length).1.toNat j5).params (c5 c.L (c5 c.L J 14).2 c.fs.length).2).1 .nil .nil)) t51 ?_ ?_;exact p8 t3 t3 t3 t3 t3;refine c78z ?_;have hround:o9 c f.params (c7 c f.params fu) vs deep J (l-1)=((row 3 (c.fs.getD (c5 c.L (c5 c.L J 14).2 c.fs.length).1.toNat j5).name l4 n5 (p6 c f.params vs (c.fs.getD (c5 c.L (c5 c.L J 14).2 c.fs.length).1.toNat j5).params (c5 c.L (c5 c.L J 14).2 c.fs.length).2).1 .nil .nil),vs,(p6 c f.params vs (c.fs.getD (c5 c.L (c5 c.L J 14).2 c.fs.length).1.toNat j5).params (c5 c.L (c5 c.L J 14).2 c.fs.length).2).2,(l-1)):=RN (by omega);obtain ⟨hO2,hl2,hV2⟩:=s5 hc hfu hlf hd.1 hO hV (by omega) hround;have hF1:cU c f.params (c7 c f.params fu) (mm-1+1) vs deep out J l=R:=by rw[Nat.sub_add_cancel (by omega)];exact hF
     have hF2:=w4 hF1 (by omega) hround;have hlq:=hO2.ol;simp only at hlq;have hlo:(out.app (row 3 (c.fs.getD (c5 c.L (c5 c.L J 14).2 c.fs.length).1.toNat j5).name l4 n5 (p6 c f.params vs (c.fs.getD (c5 c.L (c5 c.L J 14).2 c.fs.length).1.toNat j5).params (c5 c.L (c5 c.L J 14).2 c.fs.length).2).1 .nil .nil)).len=out.len+1:=by simp only[Go.Un.Sl.w8,row,Go.Un.Sl.len]
     exact ⟨_,by omega,.v ⟨(mm-1),(p6 c f.params vs (c.fs.getD (c5 c.L (c5 c.L J 14).2 c.fs.length).1.toNat j5).params (c5 c.L (c5 c.L J 14).2 c.fs.length).2).2,(l-1),vs,(out.app (row 3 (c.fs.getD (c5 c.L (c5 c.L J 14).2 c.fs.length).1.toNat j5).name l4 n5 (p6 c f.params vs (c.fs.getD (c5 c.L (c5 c.L J 14).2 c.fs.length).1.toNat j5).params (c5 c.L (c5 c.L J 14).2 c.fs.length).2).1 .nil .nil)),(go+1),gv,⟨rfl,⟨hO2,hV2,by omega,by omega,hF2⟩⟩,rfl⟩ (he:=t31) (hl:=t12) (hk:=t10) (hs:=t2) (hr:=t0)⟩
    try simp only[e13]
    have qe13:=fact e13;refine .m [(2,146)] ?_;refine u2z ?_ ?_
    ·intro e15 qe15;refine c20z ?_;refine c123z ?_;refine uTcz ?_;intro e16 qe16;refine c1z ?_;have hnf:=l3 h14.2.2 (n:=(c.fs.length:Int)) (by omega);refine c28z ?_;refine c147z ?_;refine c206z ?_;refine c147z ?_;refine c192z ?_;refine c292z ?_;refine c68z ?_;refine c84z ?_;refine c77z ?_;refine c173z ?_;refine c49z ?_;refine c39z ?_;refine dD.p 4 ?_;refine c168z ?_;refine g6.dF (β:=e.n+3) (n8 (row 4 (c.fs.getD (c5 c.L (c5 c.L J 14).2 c.fs.length).1.toNat j5).name l4 n5 (p6 c f.params vs (c.fs.getD (c5 c.L (c5 c.L J 14).2 c.fs.length).1.toNat j5).params (c5 c.L (c5 c.L J 14).2 c.fs.length).2).1 .nil .nil)) t51 ?_ ?_;exact p8 t3 t3 t3 t3 t3;refine c78z ?_;have hround:o9 c f.params (c7 c f.params fu) vs deep J (l-1)=((row 4 (c.fs.getD (c5 c.L (c5 c.L J 14).2 c.fs.length).1.toNat j5).name l4 n5 (p6 c f.params vs (c.fs.getD (c5 c.L (c5 c.L J 14).2 c.fs.length).1.toNat j5).params (c5 c.L (c5 c.L J 14).2 c.fs.length).2).1 .nil .nil),vs,(p6 c f.params vs (c.fs.getD (c5 c.L (c5 c.L J 14).2 c.fs.length).1.toNat j5).params (c5 c.L (c5 c.L J 14).2 c.fs.length).2).2,(l-1)):=r_go (by omega);obtain ⟨hO2,hl2,hV2⟩:=s5 hc hfu hlf hd.1 hO hV (by omega) hround;have hF1:cU c f.params (c7 c f.params fu) (mm-1+1) vs deep out J l=R:=by rw[Nat.sub_add_cancel (by omega)];exact hF
     have hF2:=w4 hF1 (by omega) hround;have hlq:=hO2.ol;simp only at hlq;have hlo:(out.app (row 4 (c.fs.getD (c5 c.L (c5 c.L J 14).2 c.fs.length).1.toNat j5).name l4 n5 (p6 c f.params vs (c.fs.getD (c5 c.L (c5 c.L J 14).2 c.fs.length).1.toNat j5).params (c5 c.L (c5 c.L J 14).2 c.fs.length).2).1 .nil .nil)).len=out.len+1:=by simp only[Go.Un.Sl.w8,row,Go.Un.Sl.len]
     exact ⟨_,by omega,.v ⟨(mm-1),(p6 c f.params vs (c.fs.getD (c5 c.L (c5 c.L J 14).2 c.fs.length).1.toNat j5).params (c5 c.L (c5 c.L J 14).2 c.fs.length).2).2,(l-1),vs,(out.app (row 4 (c.fs.getD (c5 c.L (c5 c.L J 14).2 c.fs.length).1.toNat j5).name l4 n5 (p6 c f.params vs (c.fs.getD (c5 c.L (c5 c.L J 14).2 c.fs.length).1.toNat j5).params (c5 c.L (c5 c.L J 14).2 c.fs.length).2).1 .nil .nil)),(go+1),gv,⟨rfl,⟨hO2,hV2,by omega,by omega,hF2⟩⟩,rfl⟩ (he:=t31) (hl:=t12) (hk:=t10) (hs:=t2) (hr:=t0)⟩
    intro e15 qe15;refine c13z ?_;refine .spl 184 rfl rfl (fun e17=>?_) (fun e17=>?_)
    ·try simp only[e17]
     have qe17:=fact e17;refine .m [(2,184)] ?_;refine u2z ?_ ?_
     ·intro e18 qe18;refine .c9 [0,2,3,6,11,12,13] ?_;have he:=fF (c:=c) (vars:=vs) h14.2.2;have hb1:=cN hc (ps:=f.params) fu vs (deep-1) 3 (g5 c vs (c5 c.L J 14).2).2 (z6 out all) (l-1) (by omega) (by omega) he.2 (by omega) (by omega) (by omega) hV (hO.fr.mono t90);have hb1l:=hb1.ol;have hb1w:=hb1.wt;have hn2:=l3 hb1.oi (n:=2) (by omega);refine .sm w7 (mkP 15 [0,0,3,0,0,0,0,64,255,0,1023,2047,4095,8191,16383] [2,8,10,12,14]) [3,4,5,6,7,9] ?_;refine c80z ?_;refine c33z ?_;refine dD.p 6 ?_;refine dD.nil t8 ?_;refine c219z ?_;refine .ch rfl rfl (dI _ _ 2 hb1.oi hL (by omega) (by omega)) ?_;refine .n ?_;refine u2z ?_ ?_
      ·intro e19 qe19;refine .r ?_;refine .e 5 ?_;refine .ch rfl rfl (rD.V (vs:=vs) ih _ (z6 out all) (deep-1) 3 hn2.2.2 hb1.ol.1 (by omega) (by omega) (by omega) (by omega) (by omega) hV (hO.fr.mono (by simp only;omega)) (by omega)) ?_;refine c42z ?_;refine .c9 [0,2,3,6,11,12,13] ?_;refine g6.dF (β:=e.n+3) (n8 (row 7 ByteArray.empty (g5 c vs (c5 c.L J 14).2).1 n5 [] (c7 c f.params fu vs (deep-1) 3 (g5 c vs (c5 c.L J 14).2).2 (l-1)).1 (c7 c f.params fu vs (deep-1) 3 (c5 c.L (c7 c f.params fu vs (deep-1) 3 (g5 c vs (c5 c.L J 14).2).2 (l-1)).2.1 2).2 (c7 c f.params fu vs (deep-1) 3 (g5 c vs (c5 c.L J 14).2).2 (l-1)).2.2).1)) t51 ?_ ?_;exact p8 t3 t3 t3 t3 t3;refine c78z ?_;have hround:o9 c f.params (c7 c f.params fu) vs deep J (l-1)=((row 7 ByteArray.empty (g5 c vs (c5 c.L J 14).2).1 n5 [] (c7 c f.params fu vs (deep-1) 3 (g5 c vs (c5 c.L J 14).2).2 (l-1)).1 (c7 c f.params fu vs (deep-1) 3 (c5 c.L (c7 c f.params fu vs (deep-1) 3 (g5 c vs (c5 c.L J 14).2).2 (l-1)).2.1 2).2 (c7 c f.params fu vs (deep-1) 3 (g5 c vs (c5 c.L J 14).2).2 (l-1)).2.2).1),vs,(c7 c f.params fu vs (deep-1) 3 (c5 c.L (c7 c f.params fu vs (deep-1) 3 (g5 c vs (c5 c.L J 14).2).2 (l-1)).2.1 2).2 (c7 c f.params fu vs (deep-1) 3 (g5 c vs (c5 c.L J 14).2).2 (l-1)).2.2).2.1,(c7 c f.params fu vs (deep-1) 3 (c5 c.L (c7 c f.params fu vs (deep-1) 3 (g5 c vs (c5 c.L J 14).2).2 (l-1)).2.1 2).2 (c7 c f.params fu vs (deep-1) 3 (g5 c vs (c5 c.L J 14).2).2 (l-1)).2.2).2.2):=r_if (by omega) (by omega) rfl (by omega) rfl;obtain ⟨hO2,hl2,hV2⟩:=s5 hc hfu hlf hd.1 hO hV (by omega) hround;have hF1:cU c f.params (c7 c f.params fu) (mm-1+1) vs deep out J l=R:=by rw[Nat.sub_add_cancel (by omega)];exact hF
       have hF2:=w4 hF1 (by omega) hround;have hlq:=hO2.ol;simp only at hlq;have hlo:(out.app (row 7 ByteArray.empty (g5 c vs (c5 c.L J 14).2).1 n5 [] (c7 c f.params fu vs (deep-1) 3 (g5 c vs (c5 c.L J 14).2).2 (l-1)).1 (c7 c f.params fu vs (deep-1) 3 (c5 c.L (c7 c f.params fu vs (deep-1) 3 (g5 c vs (c5 c.L J 14).2).2 (l-1)).2.1 2).2 (c7 c f.params fu vs (deep-1) 3 (g5 c vs (c5 c.L J 14).2).2 (l-1)).2.2).1)).len=out.len+1:=by simp only[Go.Un.Sl.w8,row,Go.Un.Sl.len]
       exact ⟨_,by omega,.v ⟨(mm-1),(c7 c f.params fu vs (deep-1) 3 (c5 c.L (c7 c f.params fu vs (deep-1) 3 (g5 c vs (c5 c.L J 14).2).2 (l-1)).2.1 2).2 (c7 c f.params fu vs (deep-1) 3 (g5 c vs (c5 c.L J 14).2).2 (l-1)).2.2).2.1,(c7 c f.params fu vs (deep-1) 3 (c5 c.L (c7 c f.params fu vs (deep-1) 3 (g5 c vs (c5 c.L J 14).2).2 (l-1)).2.1 2).2 (c7 c f.params fu vs (deep-1) 3 (g5 c vs (c5 c.L J 14).2).2 (l-1)).2.2).2.2,vs,(out.app (row 7 ByteArray.empty (g5 c vs (c5 c.L J 14).2).1 n5 [] (c7 c f.params fu vs (deep-1) 3 (g5 c vs (c5 c.L J 14).2).2 (l-1)).1 (c7 c f.params fu vs (deep-1) 3 (c5 c.L (c7 c f.params fu vs (deep-1) 3 (g5 c vs (c5 c.L J 14).2).2 (l-1)).2.1 2).2 (c7 c f.params fu vs (deep-1) 3 (g5 c vs (c5 c.L J 14).2).2 (l-1)).2.2).1)),(go+1),gv,⟨rfl,⟨hO2,hV2,by omega,by omega,hF2⟩⟩,rfl⟩ (he:=t31) (hl:=t12) (hk:=t10) (hs:=t2) (hr:=t0)⟩
      intro e19 qe19;refine c8z ?_;refine g6.dF (β:=e.n+3) (n8 (row 7 ByteArray.empty (g5 c vs (c5 c.L J 14).2).1 n5 [] (c7 c f.params fu vs (deep-1) 3 (g5 c vs (c5 c.L J 14).2).2 (l-1)).1 .nil)) t51 ?_ ?_;exact p8 t3 t3 t3 t3 t3;refine c301z ?_;have hround:o9 c f.params (c7 c f.params fu) vs deep J (l-1)=((row 7 ByteArray.empty (g5 c vs (c5 c.L J 14).2).1 n5 [] (c7 c f.params fu vs (deep-1) 3 (g5 c vs (c5 c.L J 14).2).2 (l-1)).1 .nil),vs,(c5 c.L (c7 c f.params fu vs (deep-1) 3 (g5 c vs (c5 c.L J 14).2).2 (l-1)).2.1 2).2,(c7 c f.params fu vs (deep-1) 3 (g5 c vs (c5 c.L J 14).2).2 (l-1)).2.2):=r_if2 (by omega) (by omega) rfl (by omega);obtain ⟨hO2,hl2,hV2⟩:=s5 hc hfu hlf hd.1 hO hV (by omega) hround;have hF1:cU c f.params (c7 c f.params fu) (mm-1+1) vs deep out J l=R:=by rw[Nat.sub_add_cancel (by omega)];exact hF
      have hF2:=w4 hF1 (by omega) hround;have hlq:=hO2.ol;simp only at hlq;have hlo:(out.app (row 7 ByteArray.empty (g5 c vs (c5 c.L J 14).2).1 n5 [] (c7 c f.params fu vs (deep-1) 3 (g5 c vs (c5 c.L J 14).2).2 (l-1)).1 .nil)).len=out.len+1:=by simp only[Go.Un.Sl.w8,row,Go.Un.Sl.len]
      exact ⟨_,by omega,.v ⟨(mm-1),(c5 c.L (c7 c f.params fu vs (deep-1) 3 (g5 c vs (c5 c.L J 14).2).2 (l-1)).2.1 2).2,(c7 c f.params fu vs (deep-1) 3 (g5 c vs (c5 c.L J 14).2).2 (l-1)).2.2,vs,(out.app (row 7 ByteArray.empty (g5 c vs (c5 c.L J 14).2).1 n5 [] (c7 c f.params fu vs (deep-1) 3 (g5 c vs (c5 c.L J 14).2).2 (l-1)).1 .nil)),(go+1),gv,⟨rfl,⟨hO2,hV2,by omega,by omega,hF2⟩⟩,rfl⟩ (he:=t31) (hl:=t12) (hk:=t10) (hs:=t2) (hr:=t0)⟩
     intro e18 qe18;refine c57z ?_;refine .spl 216 rfl rfl (fun e20=>by exfalso;(simp at e20;omega)) (fun e20=>?_);try simp only[e20]
     have qe20:=fact e20;refine c237z ?_;have h3:=l3 h14.2.2 (n:=3) (by omega);refine c13z ?_;refine .spl 235 rfl rfl (fun e21=>by exfalso;(simp at e21;omega)) (fun e21=>?_);try simp only[e21]
     have qe21:=fact e21;refine c212z ?_;have hr9:=jM hc (ps:=f.params) (vars:=vs) (I:=(c5 c.L J 14).2) (h14.2.2);refine c303z ?_;refine g6.dF (β:=e.n+3) (n8 (row 5 ByteArray.empty l4 (l9 c f.params vs (c5 c.L J 14).2).1 [] .nil .nil)) t51 ?_ ?_;exact p8 t3 t3 t3 t3 t3;refine c48z ?_;have hb1:=cN hc (ps:=f.params) fu vs 0 2 (l9 c f.params vs (c5 c.L J 14).2).2 (z6 out all) (l-1) (by omega) (by omega) hr9.2 (by omega) (by omega) (by omega) hV (hO.fr.mono t90);have hb1l:=hb1.ol;have hb1w:=hb1.wt;have hb1n:=bF (c7 c f.params fu vs 0 2 (l9 c f.params vs (c5 c.L J 14).2).2 (l-1)).1;have hb1z:(n8 (c7 c f.params fu vs 0 2 (l9 c f.params vs (c5 c.L J 14).2).2 (l-1)).1).length=(c7 c f.params fu vs 0 2 (l9 c f.params vs (c5 c.L J 14).2).2 (l-1)).1.len*11:=by rw[aM];omega
     refine c258z ?_;refine g6.dF (β:=e.n+3) (n8 (row 6 ByteArray.empty l4 (l9 c f.params vs (c5 c.L J 14).2).1 [] .nil .nil)) t51 ?_ ?_;exact p8 t3 t3 t3 t3 t3;refine c78z ?_;have hround:o9 c f.params (c7 c f.params fu) vs deep J (l-1)=(((row 5 ByteArray.empty l4 (l9 c f.params vs (c5 c.L J 14).2).1 [] .nil .nil).app ((c7 c f.params fu vs 0 2 (l9 c f.params vs (c5 c.L J 14).2).2 (l-1)).1.app (row 6 ByteArray.empty l4 (l9 c f.params vs (c5 c.L J 14).2).1 [] .nil .nil))),vs,(c7 c f.params fu vs 0 2 (l9 c f.params vs (c5 c.L J 14).2).2 (l-1)).2.1,(c7 c f.params fu vs 0 2 (l9 c f.params vs (c5 c.L J 14).2).2 (l-1)).2.2):=wP (by omega) (by omega) (fun _=>by first | omega | (rw[‹vs=[]›];rfl)) (by omega) (by omega) (by omega) (by omega) rfl;obtain ⟨hO2,hl2,hV2⟩:=s5 hc hfu hlf hd.1 hO hV (by omega) hround;have hF1:cU c f.params (c7 c f.params fu) (mm-1+1) vs deep out J l=R:=by rw[Nat.sub_add_cancel (by omega)];exact hF
     have hF2:=w4 hF1 (by omega) hround;have hlq:=hO2.ol;simp only at hlq;have hlo:(out.app ((row 5 ByteArray.empty l4 (l9 c f.params vs (c5 c.L J 14).2).1 [] .nil .nil).app ((c7 c f.params fu vs 0 2 (l9 c f.params vs (c5 c.L J 14).2).2 (l-1)).1.app (row 6 ByteArray.empty l4 (l9 c f.params vs (c5 c.L J 14).2).1 [] .nil .nil)))).len=out.len+1+(c7 c f.params fu vs 0 2 (l9 c f.params vs (c5 c.L J 14).2).2 (l-1)).1.len+1:=by simp only[Go.Un.Sl.w8,row,Go.Un.Sl.len];omega
     exact ⟨_,by omega,.v ⟨(mm-1),(c7 c f.params fu vs 0 2 (l9 c f.params vs (c5 c.L J 14).2).2 (l-1)).2.1,(c7 c f.params fu vs 0 2 (l9 c f.params vs (c5 c.L J 14).2).2 (l-1)).2.2,vs,(out.app ((row 5 ByteArray.empty l4 (l9 c f.params vs (c5 c.L J 14).2).1 [] .nil .nil).app ((c7 c f.params fu vs 0 2 (l9 c f.params vs (c5 c.L J 14).2).2 (l-1)).1.app (row 6 ByteArray.empty l4 (l9 c f.params vs (c5 c.L J 14).2).1 [] .nil .nil)))),(gO (go+1) (c7 c f.params fu vs 0 2 (l9 c f.params vs (c5 c.L J 14).2).2 (l-1)).1.len+1),gv,⟨rfl,⟨hO2,hV2,by omega,by omega,hF2⟩⟩,rfl⟩ (he:=t55) (hl:=t12) (hk:=t10) (hs:=t2) (hr:=t0)⟩
    try simp only[e17]
    have qe17:=fact e17;refine .m [(2,184)] ?_;refine .F ?_;refine c57z ?_;refine .spl 216 rfl rfl (fun e22=>?_) (fun e22=>?_)
    ·try simp only[e22]
     have qe22:=fact e22;refine .m [(2,216)] ?_;refine u2z ?_ ?_
     ·intro e23 qe23;refine .c9 [0,2,3,6,11,12,13] ?_;have he:=fF (c:=c) (vars:=vs) h14.2.2;have hb1:=cN hc (ps:=f.params) fu vs (deep-1) 3 (g5 c vs (c5 c.L J 14).2).2 (z6 out all) (l-1) (by omega) (by omega) he.2 (by omega) (by omega) (by omega) hV (hO.fr.mono t90);have hb1l:=hb1.ol;have hb1w:=hb1.wt;refine g6.jF w7 (mkP 15 [0,0,3,0,0,0,0,64,255,0,1023,2047,4095,8191,16383] [2,8,10,12,14]) [3,4,5,6,7,9] (by kernel_rfl) (by kernel_rfl) ?_;refine c80z ?_;refine c33z ?_;refine dD.p 6 ?_;refine c168z ?_;refine g6.dF (β:=e.n+3) (n8 (row 8 ByteArray.empty (g5 c vs (c5 c.L J 14).2).1 n5 [] (c7 c f.params fu vs (deep-1) 3 (g5 c vs (c5 c.L J 14).2).2 (l-1)).1 .nil)) t51 ?_ ?_;exact p8 t3 t3 t3 t3 t3;refine c78z ?_;have hround:o9 c f.params (c7 c f.params fu) vs deep J (l-1)=((row 8 ByteArray.empty (g5 c vs (c5 c.L J 14).2).1 n5 [] (c7 c f.params fu vs (deep-1) 3 (g5 c vs (c5 c.L J 14).2).2 (l-1)).1 .nil),vs,(c7 c f.params fu vs (deep-1) 3 (g5 c vs (c5 c.L J 14).2).2 (l-1)).2.1,(c7 c f.params fu vs (deep-1) 3 (g5 c vs (c5 c.L J 14).2).2 (l-1)).2.2):=FK (by omega) (by omega) rfl;obtain ⟨hO2,hl2,hV2⟩:=s5 hc hfu hlf hd.1 hO hV (by omega) hround;have hF1:cU c f.params (c7 c f.params fu) (mm-1+1) vs deep out J l=R:=by rw[Nat.sub_add_cancel (by omega)];exact hF
      have hF2:=w4 hF1 (by omega) hround;have hlq:=hO2.ol;simp only at hlq;have hlo:(out.app (row 8 ByteArray.empty (g5 c vs (c5 c.L J 14).2).1 n5 [] (c7 c f.params fu vs (deep-1) 3 (g5 c vs (c5 c.L J 14).2).2 (l-1)).1 .nil)).len=out.len+1:=by simp only[Go.Un.Sl.w8,row,Go.Un.Sl.len]
      exact ⟨_,by omega,.v ⟨(mm-1),(c7 c f.params fu vs (deep-1) 3 (g5 c vs (c5 c.L J 14).2).2 (l-1)).2.1,(c7 c f.params fu vs (deep-1) 3 (g5 c vs (c5 c.L J 14).2).2 (l-1)).2.2,vs,(out.app (row 8 ByteArray.empty (g5 c vs (c5 c.L J 14).2).1 n5 [] (c7 c f.params fu vs (deep-1) 3 (g5 c vs (c5 c.L J 14).2).2 (l-1)).1 .nil)),(go+1),gv,⟨rfl,⟨hO2,hV2,by omega,by omega,hF2⟩⟩,rfl⟩ (he:=t31) (hl:=t12) (hk:=t10) (hs:=t2) (hr:=t0)⟩
     intro e23 qe23;have h3:=l3 h14.2.2 (n:=3) (by omega);refine c13z ?_;refine .spl 235 rfl rfl (fun e24=>by exfalso;(simp at e24;omega)) (fun e24=>?_);try simp only[e24]
     have qe24:=fact e24;refine c212z ?_;have hr9:=jM hc (ps:=f.params) (vars:=vs) (I:=(c5 c.L J 14).2) (h14.2.2);refine c303z ?_;refine g6.dF (β:=e.n+3) (n8 (row 5 ByteArray.empty l4 (l9 c f.params vs (c5 c.L J 14).2).1 [] .nil .nil)) t51 ?_ ?_;exact p8 t3 t3 t3 t3 t3;refine c48z ?_;have hb1:=cN hc (ps:=f.params) fu vs 0 2 (l9 c f.params vs (c5 c.L J 14).2).2 (z6 out all) (l-1) (by omega) (by omega) hr9.2 (by omega) (by omega) (by omega) hV (hO.fr.mono t90);have hb1l:=hb1.ol;have hb1w:=hb1.wt;have hb1n:=bF (c7 c f.params fu vs 0 2 (l9 c f.params vs (c5 c.L J 14).2).2 (l-1)).1;have hb1z:(n8 (c7 c f.params fu vs 0 2 (l9 c f.params vs (c5 c.L J 14).2).2 (l-1)).1).length=(c7 c f.params fu vs 0 2 (l9 c f.params vs (c5 c.L J 14).2).2 (l-1)).1.len*11:=by rw[aM];omega
     refine c258z ?_;refine g6.dF (β:=e.n+3) (n8 (row 6 ByteArray.empty l4 (l9 c f.params vs (c5 c.L J 14).2).1 [] .nil .nil)) t51 ?_ ?_;exact p8 t3 t3 t3 t3 t3;refine c78z ?_;have hround:o9 c f.params (c7 c f.params fu) vs deep J (l-1)=(((row 5 ByteArray.empty l4 (l9 c f.params vs (c5 c.L J 14).2).1 [] .nil .nil).app ((c7 c f.params fu vs 0 2 (l9 c f.params vs (c5 c.L J 14).2).2 (l-1)).1.app (row 6 ByteArray.empty l4 (l9 c f.params vs (c5 c.L J 14).2).1 [] .nil .nil))),vs,(c7 c f.params fu vs 0 2 (l9 c f.params vs (c5 c.L J 14).2).2 (l-1)).2.1,(c7 c f.params fu vs 0 2 (l9 c f.params vs (c5 c.L J 14).2).2 (l-1)).2.2):=wP (by omega) (by omega) (fun _=>by first | omega | (rw[‹vs=[]›];rfl)) (by omega) (by omega) (by omega) (by omega) rfl;obtain ⟨hO2,hl2,hV2⟩:=s5 hc hfu hlf hd.1 hO hV (by omega) hround;have hF1:cU c f.params (c7 c f.params fu) (mm-1+1) vs deep out J l=R:=by rw[Nat.sub_add_cancel (by omega)];exact hF
     have hF2:=w4 hF1 (by omega) hround;have hlq:=hO2.ol;simp only at hlq;have hlo:(out.app ((row 5 ByteArray.empty l4 (l9 c f.params vs (c5 c.L J 14).2).1 [] .nil .nil).app ((c7 c f.params fu vs 0 2 (l9 c f.params vs (c5 c.L J 14).2).2 (l-1)).1.app (row 6 ByteArray.empty l4 (l9 c f.params vs (c5 c.L J 14).2).1 [] .nil .nil)))).len=out.len+1+(c7 c f.params fu vs 0 2 (l9 c f.params vs (c5 c.L J 14).2).2 (l-1)).1.len+1:=by simp only[Go.Un.Sl.w8,row,Go.Un.Sl.len];omega
     exact ⟨_,by omega,.v ⟨(mm-1),(c7 c f.params fu vs 0 2 (l9 c f.params vs (c5 c.L J 14).2).2 (l-1)).2.1,(c7 c f.params fu vs 0 2 (l9 c f.params vs (c5 c.L J 14).2).2 (l-1)).2.2,vs,(out.app ((row 5 ByteArray.empty l4 (l9 c f.params vs (c5 c.L J 14).2).1 [] .nil .nil).app ((c7 c f.params fu vs 0 2 (l9 c f.params vs (c5 c.L J 14).2).2 (l-1)).1.app (row 6 ByteArray.empty l4 (l9 c f.params vs (c5 c.L J 14).2).1 [] .nil .nil)))),(gO (go+1) (c7 c f.params fu vs 0 2 (l9 c f.params vs (c5 c.L J 14).2).2 (l-1)).1.len+1),gv,⟨rfl,⟨hO2,hV2,by omega,by omega,hF2⟩⟩,rfl⟩ (he:=t55) (hl:=t12) (hk:=t10) (hs:=t2) (hr:=t0)⟩
    try simp only[e22]
    have qe22:=fact e22;refine c237z ?_;have h3:=l3 h14.2.2 (n:=3) (by omega);refine c13z ?_;refine .spl 235 rfl rfl (fun e25=>?_) (fun e25=>by exfalso;(simp at e25;omega));try simp only[e25]
    have qe25:=fact e25;refine .k 4 [(2,235)] ?_;refine .ch rfl rfl (dI _ _ 3 h14.2.2 hL (by omega) (by omega)) ?_;refine .m [(2,235)] ?_;refine u2z ?_ ?_
    ·intro e26 qe26;refine c227z ?_;refine g6.dF (β:=e.n+3) (n8 (row 9 ByteArray.empty l4 n5 [] .nil .nil)) t51 ?_ ?_;exact p8 t3 t3 t3 t3 t3;refine c78z ?_;have hround:o9 c f.params (c7 c f.params fu) vs deep J (l-1)=((row 9 ByteArray.empty l4 n5 [] .nil .nil),vs,(c5 c.L (c5 c.L J 14).2 3).2,(l-1)):=r_ret (by omega) (by omega);obtain ⟨hO2,hl2,hV2⟩:=s5 hc hfu hlf hd.1 hO hV (by omega) hround;have hF1:cU c f.params (c7 c f.params fu) (mm-1+1) vs deep out J l=R:=by rw[Nat.sub_add_cancel (by omega)];exact hF
     have hF2:=w4 hF1 (by omega) hround;have hlq:=hO2.ol;simp only at hlq;have hlo:(out.app (row 9 ByteArray.empty l4 n5 [] .nil .nil)).len=out.len+1:=by simp only[Go.Un.Sl.w8,row,Go.Un.Sl.len]
     exact ⟨_,by omega,.v ⟨(mm-1),(c5 c.L (c5 c.L J 14).2 3).2,(l-1),vs,(out.app (row 9 ByteArray.empty l4 n5 [] .nil .nil)),(go+1),gv,⟨rfl,⟨hO2,hV2,by omega,by omega,hF2⟩⟩,rfl⟩ (he:=t31) (hl:=t12) (hk:=t10) (hs:=t2) (hr:=t0)⟩
    intro e26 qe26;refine .c9 [0,2,3,6,11,12,13] ?_;have hr9:=jM hc (ps:=f.params) (vars:=vs) (I:=(c5 c.L (c5 c.L J 14).2 3).2) (h3.2.2);refine c13z ?_;refine .ch rfl rfl (W9 (vs:=vs) hc h3.2.2 hL (by omega) f hp) ?_;refine .n ?_;refine c83z ?_;refine g6.dF (β:=e.n+3) (n8 (row 5 ByteArray.empty l4 (l9 c f.params vs (c5 c.L (c5 c.L J 14).2 3).2).1 [] .nil .nil)) t51 ?_ ?_;exact p8 t3 t3 t3 t3 t3;refine c48z ?_;have hb1:=cN hc (ps:=f.params) fu vs 0 2 (l9 c f.params vs (c5 c.L (c5 c.L J 14).2 3).2).2 (z6 out all) (l-1) (by omega) (by omega) hr9.2 (by omega) (by omega) (by omega) hV (hO.fr.mono t90);have hb1l:=hb1.ol;have hb1w:=hb1.wt;have hb1n:=bF (c7 c f.params fu vs 0 2 (l9 c f.params vs (c5 c.L (c5 c.L J 14).2 3).2).2 (l-1)).1;have hb1z:(n8 (c7 c f.params fu vs 0 2 (l9 c f.params vs (c5 c.L (c5 c.L J 14).2 3).2).2 (l-1)).1).length=(c7 c f.params fu vs 0 2 (l9 c f.params vs (c5 c.L (c5 c.L J 14).2 3).2).2 (l-1)).1.len*11:=by rw[aM];omega
    refine c258z ?_;refine g6.dF (β:=e.n+3) (n8 (row 6 ByteArray.empty l4 (l9 c f.params vs (c5 c.L (c5 c.L J 14).2 3).2).1 [] .nil .nil)) t51 ?_ ?_;exact p8 t3 t3 t3 t3 t3;refine c78z ?_;have hround:o9 c f.params (c7 c f.params fu) vs deep J (l-1)=(((row 5 ByteArray.empty l4 (l9 c f.params vs (c5 c.L (c5 c.L J 14).2 3).2).1 [] .nil .nil).app ((c7 c f.params fu vs 0 2 (l9 c f.params vs (c5 c.L (c5 c.L J 14).2 3).2).2 (l-1)).1.app (row 6 ByteArray.empty l4 (l9 c f.params vs (c5 c.L (c5 c.L J 14).2 3).2).1 [] .nil .nil))),vs,(c7 c f.params fu vs 0 2 (l9 c f.params vs (c5 c.L (c5 c.L J 14).2 3).2).2 (l-1)).2.1,(c7 c f.params fu vs 0 2 (l9 c f.params vs (c5 c.L (c5 c.L J 14).2 3).2).2 (l-1)).2.2):=U4 (by omega) (by omega) rfl;obtain ⟨hO2,hl2,hV2⟩:=s5 hc hfu hlf hd.1 hO hV (by omega) hround;have hF1:cU c f.params (c7 c f.params fu) (mm-1+1) vs deep out J l=R:=by rw[Nat.sub_add_cancel (by omega)];exact hF
    have hF2:=w4 hF1 (by omega) hround;have hlq:=hO2.ol;simp only at hlq;have hlo:(out.app ((row 5 ByteArray.empty l4 (l9 c f.params vs (c5 c.L (c5 c.L J 14).2 3).2).1 [] .nil .nil).app ((c7 c f.params fu vs 0 2 (l9 c f.params vs (c5 c.L (c5 c.L J 14).2 3).2).2 (l-1)).1.app (row 6 ByteArray.empty l4 (l9 c f.params vs (c5 c.L (c5 c.L J 14).2 3).2).1 [] .nil .nil)))).len=out.len+1+(c7 c f.params fu vs 0 2 (l9 c f.params vs (c5 c.L (c5 c.L J 14).2 3).2).2 (l-1)).1.len+1:=by simp only[Go.Un.Sl.w8,row,Go.Un.Sl.len];omega
    exact ⟨_,by omega,.v ⟨(mm-1),(c7 c f.params fu vs 0 2 (l9 c f.params vs (c5 c.L (c5 c.L J 14).2 3).2).2 (l-1)).2.1,(c7 c f.params fu vs 0 2 (l9 c f.params vs (c5 c.L (c5 c.L J 14).2 3).2).2 (l-1)).2.2,vs,(out.app ((row 5 ByteArray.empty l4 (l9 c f.params vs (c5 c.L (c5 c.L J 14).2 3).2).1 [] .nil .nil).app ((c7 c f.params fu vs 0 2 (l9 c f.params vs (c5 c.L (c5 c.L J 14).2 3).2).2 (l-1)).1.app (row 6 ByteArray.empty l4 (l9 c f.params vs (c5 c.L (c5 c.L J 14).2 3).2).1 [] .nil .nil)))),(gO (go+1) (c7 c f.params fu vs 0 2 (l9 c f.params vs (c5 c.L (c5 c.L J 14).2 3).2).2 (l-1)).1.len+1),gv,⟨rfl,⟨hO2,hV2,by omega,by omega,hF2⟩⟩,rfl⟩ (he:=t55) (hl:=t12) (hk:=t10) (hs:=t2) (hr:=t0)⟩
   intro e2 qe2;refine c12z ?_;refine .c9 [11] ?_;refine c43z ?_;exact ⟨hB _ _ _ _,_,.vec out.len (n8 out),rfl,t60,bE,t76,t150⟩
  try simp only[e1]
  have qe1:=fact e1;refine .m [(2,29)] ?_;refine c51z ?_;refine .c9 [11] ?_;refine c43z ?_;exact ⟨hB _ _ _ _,_,.vec out.len (n8 out),rfl,t60,bE,t76,t150⟩
theorem vD {c:Core}(hc:OkC c)(hL:c.L.length<4611686018427387904)(f:Fu)(hp:f.params.length≤2):∀(n fu:Nat) (left:Int),fu≤24→left.toNat≤n→0≤left→left≤fu→rD c f fu (left+1)
  | n,fu,left,h24,hn,h0,hf=>by
    intro I l' vs all d m hI a1 a2 a3 a4 a5 a6 a7 a8 a9;cases fu with
    | zero=>
      have e0:c7 c f.params 0 vs d m I l'=c7 c f.params 1 vs d m I l':=by
        obtain rfl:l'=0:=by omega
        rw[c7,c7];cases (c5 c.L I (m+1)).1.toNat with
        | zero=>rfl
        | succ k=>rw[cU,if_pos (Int.le_refl _)]
      rw[e0];exact qA hc hL f hp 0 (by omega) a1 (by omega) (fun I l'' vs all d m b1 b2 b3=>by omega) I hI vs all d m ⟨a3,a4⟩ ⟨a5,a6⟩ a7 a8 a9
    | succ g=>
      refine qA hc hL f hp g (by omega) a1 (by omega) ?_ I hI vs all d m ⟨a3,a4⟩ ⟨a5,a6⟩ a7 a8 a9;intro e I2 l2 vs2 all2 d2 m2 b1 b2 b3;cases n with
      | zero=>omega
      | succ n=>exact vD hc hL f hp n g (l'-1) (by omega) (by omega) (by omega) (by omega) I2 l2 vs2 all2 d2 m2 b1 b2 (by omega)
termination_by n=>n
end Go.Proofs.YtapdldekgbbomaaGreatDoor.Sh
end
section
namespace Go.Proofs.YtapdldekgbbomaaGreatDoor.Sh
open Go.Ab Go.Un
set_option maxHeartbeats 40000000
theorem G8 (l:List Mx):z4 (j4 l):=z4.flat fun _=>z4.cons .str (z4.cons .bool (z4.cons .int .nil))
theorem G9 (l:List Gl):z4 (o6 l):=z4.flat fun _=>z4.cons .str (z4.cons .int .nil)
theorem H3 (l:List Pm):z4 (p9 l):=z4.flat fun _=>z4.cons .str (z4.cons .bool .nil)
theorem vE (l:List Fu):z4 (l8 l):=z4.flat fun _=>z4.cons .str (z4.cons .vec (z4.cons .vec .nil))
theorem P3 (l:List BA):z4 (p7 l):=z4.map fun _=>.str
theorem vF {l:List Mx}{m:Mx}:j4 (l++[m])=j4 l++[.str m.name,.bool m.re,.int .i64 m.size]:=by simp[j4,DS]
theorem vG {l:List Gl}{m:Gl}:o6 (l++[m])=o6 l++[.str m.name,.int .i64 m.init]:=by simp[o6,K6]
theorem vH {l:List Pm}{m:Pm}:p9 (l++[m])=p9 l++[.str m.name,.bool m.mu]:=by simp[p9,K5]
theorem vI {l:List Fu}{m:Fu}:l8 (l++[m])=l8 l++[.str m.name,.vec m.params.length (p9 m.params),.vec m.body.len (n8 m.body)]:=by simp[l8,aO]
variable {L:List Int}
theorem famL (x a b c d:Blk)(rest:c8):bP 5 L (rest.length+6) fun I=>x::a::b::c::d::⟨0,false,78,2,[.vec L.length (encI L),.int .i64 I],0⟩::rest:=⟨fun _=>rfl,fun _ _=>rfl,fun _=>by simp⟩
theorem aZ {x a b c d:Blk}{rest:c8}(I n:Int)(hI:OkI L I)(hL:L.length<4611686018427387904)(hn:0<n)(hm:n≤4611686018427387904):CH 29 [.ptr 5 0 0,.int .i64 n] (x::a::b::c::d::⟨0,false,78,2,[.vec L.length (encI L),.int .i64 I],0⟩::rest) (.int .i64 (c5 L I n).1) (x::a::b::c::d::⟨0,false,78,2,[.vec L.length (encI L),.int .i64 (c5 L I n).2],0⟩::rest):=wN (famL x a b c d rest) I n hI hL hn hm
variable {i:Nat}
theorem IS:(⟨#[UInt8.ofNat (97+(i:Int)).toNat]⟩:BA)=mnm i:=by rw[show (97+(i:Int)).toNat=97+i from by omega];rfl
theorem vJ {a b:UInt8}:(⟨#[a]⟩:BA)++(⟨#[b]⟩:BA)=⟨#[a,b]⟩:=by apply ByteArray.ext;simp[ByteArray.data_append]
def fnr (i:Nat):BA:=⟨#[102,UInt8.ofNat (48+i)]⟩
theorem IT:(⟨#[103]⟩:BA)++(⟨#[UInt8.ofNat (48+(i:Int)).toNat]⟩:BA)=gnm i:=by rw[vJ,show (48+(i:Int)).toNat=48+i from by omega];rfl
theorem IU:(⟨#[112]⟩:BA)++(⟨#[UInt8.ofNat (48+(i:Int)).toNat]⟩:BA)=pnm i:=by rw[vJ,show (48+(i:Int)).toNat=48+i from by omega];rfl
theorem IV:(⟨#[102]⟩:BA)++(⟨#[UInt8.ofNat (48+(i:Int)).toNat]⟩:BA)=fnr i:=by rw[vJ,show (48+(i:Int)).toNat=48+i from by omega];rfl
variable {n:Nat}
theorem gA {I:Int}:∀x∈[AV.vec L.length (encI L),.int .i64 I],Refs n x:=dP.get ⟨.vec _ _,.int _ _,trivial⟩
variable {a0 a1 a2 a3 a4 a5 a6 a8 a9 a10 a11:Blk}{l:c8}{g q:Nat}{zs:List AV}{x y:AV}
theorem IW {z:AV}(hz:zs.length=n*3)(hn:n<1000):g8 cfg 115 (a0::a1::a2::a3::a4::a5::a6::n4 115 3 g zs::a8::a9::a10::a11::⟨q,false,115,3,[x,y,z],0⟩::l) (.own 7 g 0 n) (.own 12 q 0 1)=some (.own 7 (g+1) 0 (n+1),a0::a1::a2::a3::a4::a5::a6::n4 115 3 (g+1) (zs++[x,y,z])::a8::a9::a10::a11::⟨q,false,115,3,[x,y,z],0⟩::l):=by rw[s9 (C:=cfg) (K:=3) (m:=1) (new:=[x,y,z]) (zs:=zs) rfl rfl (by omega) hz rfl (by omega) t96 rfl (by decide) (by omega)];rfl
variable {a7 a12:Blk}
theorem IX (hz:zs.length=n*2)(hn:n<1000):g8 cfg 118 (a0::a1::a2::a3::a4::a5::a6::a7::n4 118 2 g zs::a9::a10::a11::a12::⟨q,false,118,2,[x,y],0⟩::l) (.own 8 g 0 n) (.own 13 q 0 1)=some (.own 8 (g+1) 0 (n+1),a0::a1::a2::a3::a4::a5::a6::a7::n4 118 2 (g+1) (zs++[x,y])::a9::a10::a11::a12::⟨q,false,118,2,[x,y],0⟩::l):=by rw[s9 (C:=cfg) (K:=2) (m:=1) (new:=[x,y]) (zs:=zs) rfl rfl (by omega) hz rfl (by omega) t96 rfl (by decide) (by omega)];rfl
variable {a13:Blk}
theorem IY (hz:zs.length=n*1)(hn:n<1000):g8 cfg 9 (a0::a1::a2::a3::a4::a5::a6::a7::a8::a9::n4 9 1 g zs::a11::a12::a13::⟨q,false,9,1,[x],0⟩::l) (.own 10 g 0 n) (.own 14 q 0 1)=some (.own 10 (g+1) 0 (n+1),a0::a1::a2::a3::a4::a5::a6::a7::a8::a9::n4 9 1 (g+1) (zs++[x])::a11::a12::a13::⟨q,false,9,1,[x],0⟩::l):=by rw[s9 (C:=cfg) (K:=1) (m:=1) (new:=[x]) (zs:=zs) rfl rfl (by omega) hz rfl (by omega) t96 rfl (by decide) (by omega)];rfl
theorem IZ {a14 a15:Blk}(hz:zs.length=n*2)(hn:n<1000):g8 cfg 124 (a0::a1::a2::a3::a4::a5::a6::a7::a8::a9::a10::a11::a12::n4 124 2 g zs::a14::a15::⟨q,false,124,2,[x,y],0⟩::l) (.own 13 g 0 n) (.own 16 q 0 1)=some (.own 13 (g+1) 0 (n+1),a0::a1::a2::a3::a4::a5::a6::a7::a8::a9::a10::a11::a12::n4 124 2 (g+1) (zs++[x,y])::a14::a15::⟨q,false,124,2,[x,y],0⟩::l):=by rw[s9 (C:=cfg) (K:=2) (m:=1) (new:=[x,y]) (zs:=zs) rfl rfl (by omega) hz rfl (by omega) t96 rfl (by decide) (by omega)];rfl
theorem JA {z:AV}(hz:zs.length=n*3)(hn:n<1000):g8 cfg 122 (a0::a1::a2::a3::a4::a5::a6::a7::a8::n4 122 3 g zs::a10::a11::a12::a13::⟨q,false,122,3,[x,y,z],0⟩::l) (.own 9 g 0 n) (.own 14 q 0 1)=some (.own 9 (g+1) 0 (n+1),a0::a1::a2::a3::a4::a5::a6::a7::a8::n4 122 3 (g+1) (zs++[x,y,z])::a10::a11::a12::a13::⟨q,false,122,3,[x,y,z],0⟩::l):=by rw[s9 (C:=cfg) (K:=3) (m:=1) (new:=[x,y,z]) (zs:=zs) rfl rfl (by omega) hz rfl (by omega) t96 rfl (by decide) (by omega)];rfl
variable {vs:List BA}
theorem JB (hz:vs.length=n)(hn:n<1000):g8 cfg 9 (a0::a1::a2::a3::a4::a5::a6::a7::a8::a9::a10::[⟨0,false,9,1,[],0⟩]) (.own 11 0 0 0) (.vec n (p7 vs))=some (.own 11 (gO 0 n) 0 n,a0::a1::a2::a3::a4::a5::a6::a7::a8::a9::a10::[⟨gO 0 n,false,9,1,p7 vs,0⟩]):=by
  subst hz;have e1:cfg.sz 9=1:=rfl;have e2:(cfg.ti 9).bytes=16:=rfl;have hm:vs.length≤maxLen:=by
    have:(1000:Nat)≤maxLen:=by decide
    omega
  have hb:vs.length*16≤140737488355328:=by omega
  cases vs with
  | nil=>simp[g8,rd,lenOf,e1,e2,gO,p7]
  | cons x vs=>
    have h0:(p7 (x::vs)).length=vs.length+1:=by simp[p7]
    simp only[List.length_cons]at hm hb;simp[g8,rd,lenOf,e1,e2,gO,h0,hm,hb]
theorem JC {x:BA}(hz:vs.length=n)(hn:n<1000):g8 cfg 9 (a0::a1::a2::a3::a4::a5::a6::a7::a8::a9::a10::⟨g,false,9,1,p7 vs,0⟩::⟨q,false,9,1,[.str x],0⟩::l) (.own 11 g 0 n) (.own 12 q 0 1)=some (.own 11 (g+1) 0 (n+1),a0::a1::a2::a3::a4::a5::a6::a7::a8::a9::a10::⟨g+1,false,9,1,p7 (vs++[x]),0⟩::⟨q,false,9,1,[.str x],0⟩::l):=by
  subst hz;have e1:cfg.sz 9=1:=rfl;have e2:(cfg.ti 9).bytes=16:=rfl;have hm:vs.length+1≤maxLen:=by
    have:(1001:Nat)≤maxLen:=by decide
    omega
  have hb:(vs.length+1)*16≤140737488355328:=by omega
  have ht:List.take vs.length (p7 vs)=p7 vs:=List.take_of_length_le t129;have hnl:¬vs.length+1≤vs.length:=by omega
  simp[g8,rd,lenOf,e1,e2,w3,hm,hb,ht,hnl,fM]
theorem A1 {l:List Fu}(h:i<l.length):List.take 1 (List.drop (i*3+1) (l8 l))=[AV.vec (l.getD i j5).params.length (p9 (l.getD i j5).params)]:=by have:=congrArg (fun x=>(x.drop 1).take 1) (mL h);simp only[List.drop_take,List.drop_drop,List.take_take]at this;simpa [aO] using this
theorem vK:∀{l:List Fu} {i:Nat} {B:Sl},i<l.length→List.take (i*3+2) (l8 l)++AV.vec B.len (n8 B)::List.drop (i*3+2+1) (l8 l)=l8 (setBody l i B)
  | f::l,0,B,_=>by simp only[l8,List.flatMap_cons,aO,setBody];rfl
  | f::l,i+1,B,h=>by
    have ih:=vK (l:=l) (i:=i) (B:=B) (by simpa using h);have e1:l8 (f::l)=.str f.name::.vec f.params.length (p9 f.params)::.vec f.body.len (n8 f.body)::l8 l:=rfl;have e2:setBody (f::l) (i+1) B=f::setBody l i B:=by simp[setBody,List.getD]
    have e3:l8 (f::setBody l i B)=.str f.name::.vec f.params.length (p9 f.params)::.vec f.body.len (n8 f.body)::l8 (setBody l i B):=rfl;rw[e1,e2,e3,←ih,show (i+1)*3+2=i*3+2+1+1+1 from by omega];rfl
attribute [local go_sem] rd l7 w3 n7 cS w9 aJ Int.natCast_nonneg Int.natCast_inj List.length_map wrap64 IP IS IT IU IV SU kC iA IW IX IY IZ JA JB JC A1 pI fK mL vK I6 vZ A5 I7 nH max2 List.flatten_nil List.flatten_cons hB
theorem sW (l:List Pm):(aF l).length≤l.length:=by simp only[aF,List.length_map];exact List.length_filter_le _ _
theorem YK {c:Core}(hc:OkC c)(hL:c.L.length<4611686018427387904){f:Fu}(hp:f.params.length≤2){I lf:Int}(hI:OkI c.L I)(hn:vs.length=n){R:BR}(hR:c7 c f.params 24 vs 2 6 I lf=R)(h0:0≤lf)(h1:lf≤24)(hfr:Fr 24 vs)(hN:vs.length≤100){bx b0 b1 b2 z mb gb vb:Blk}{gw:Nat} :
    CallA Tryz.prog cfg 45 [.ptr 6 0 0,.agg (aO f),.own 11 gw 0 n,.int .i64 2,.int .i64 6] (hB c ⟨bx,b0,b1,b2,z,mb,gb,[vb,⟨gw,false,9,1,p7 vs,n⟩]⟩ I lf) (fun y' h'=>y'=.vec R.1.len (n8 R.1)∧h'=hB c ⟨bx,b0,b1,b2,z,mb,gb,[vb,⟨gw,false,9,1,p7 vs,n⟩]⟩ R.2.1 R.2.2):=by
  subst hn;subst hR;refine qJ (args':=[.ptr 6 0 0,.agg (aO f),.vec vs.length (p7 vs),.int .i64 2,.int .i64 6]) (β:=11) (g:=gw) (vs:=vs) rfl ⟨.inl rfl,.inl rfl,.inr ⟨rfl,rfl⟩,.inl rfl,.inl rfl,trivial⟩ ?_;exact vD hc hL f hp 24 24 lf (Nat.le_refl _) (by omega) h0 h1 I lf vs vs 2 6 hI h0 (by omega) (by omega) (by omega) (by omega) (by omega) (fun x hx=>hx) (hfr.mono (by omega)) (by omega)
theorem vL {bx b0 b1 b2:Blk}(L:List Int)(hL:L.length<4611686018427387904):CallA Tryz.prog cfg 25 [.vec L.length (encI L)] [bx,b0,b1,b2] (fun y' h'=>(∃p,GP p∧y'=.agg (K7 p))∧h'=[bx,b0,b1,b2]):=by
  refine .bz Tryz.f25 264 ?_;refine c261z ?_;refine .ca rfl rfl (c_cut L 400 (by omega)) ?_;refine .n ?_;have hK1:(L.take 400).length≤400:=by rw[List.length_take];exact Nat.min_le_left _ _
  generalize L.take 400=K at*;have hK:K.length<4611686018427387904:=by omega
  have hKI:OkI K 0:=⟨Int.le_refl _,by omega⟩;have h3:=l3 hKI (n:=3) (by omega);refine c40z ?_;refine .ch rfl rfl (aZ (L:=K) 0 3 hKI hK (by omega) (by omega)) ?_;refine c55z ?_;refine .c9 [2,3,27] ?_;generalize ((c5 K 0 3).1==1)=ar;generalize (c5 K 0 3).2=I1 at*;have h4:=l3 h3.2.2 (n:=4) (by omega);obtain ⟨Nn,hNn,hN1,hN4⟩:∃n:Nat,1+(c5 K I1 4).1=(n:Int)∧1≤n∧n≤4:=⟨(1+(c5 K I1 4).1).toNat,by omega,by omega,by omega⟩;refine c30z ?_;refine .ch rfl rfl (aZ (L:=K) I1 4 h3.2.2 hK (by omega) (by omega)) ?_;refine c164z ?_;refine g6.jU (β:=6) (k:=2) rfl rfl ?_;simp only[List.cons_append,List.nil_append,List.set_cons_succ,List.set_cons_zero,List.length_cons,List.length_nil,Nat.reduceAdd,Nat.zero_add,aE];refine g6.jU (β:=6) (k:=1) rfl rfl ?_;simp only[List.cons_append,List.nil_append,List.set_cons_succ,List.set_cons_zero,List.length_cons,List.length_nil,Nat.reduceAdd,Nat.zero_add,aE];refine g6.jU (β:=6) (k:=3) rfl rfl ?_;simp only[List.cons_append,List.nil_append,List.set_cons_succ,List.set_cons_zero,List.length_cons,List.length_nil,Nat.reduceAdd,Nat.zero_add,aE];refine .aD (fun m st=>∃(i:Nat) (I:Int) (ms:List Mx) (g:Nat),(m=Nn-i∧(OkI K I∧i≤Nn∧ms.length=i∧VP ms))∧st=⟨mkS 264 [(2,AV.ptr 4 0 0),(3,AV.ptr 6 0 0),(4,AV.int .i64 ((i:Nat):Int)),(5,AV.int .i64 ((Nn:Nat):Int))],[bx,b0,b1,b2,⟨0,false,27,3,[.j9,.j9,.j9],0⟩,⟨0,false,78,2,[.vec K.length (encI K),.int .i64 I],0⟩,⟨0,false,112,6,[.ptr 5 0 0,.own 8 0 0 0,.own 7 g 0 i,.own 9 0 0 0,.int .i64 24,.bool ar],0⟩,n4 115 3 g (j4 ms),⟨0,true,0,0,[],0⟩,⟨0,true,0,0,[],0⟩]⟩) (.v ⟨0,(c5 K I1 4).2,[],0,⟨rfl,⟨h4.2.2,by omega,rfl,fun j hj=>by simp at hj⟩⟩,rfl⟩) ?_;rintro m sl h' ⟨i,I,ms,g,⟨hm,⟨hI,hi,hml,hms⟩⟩,hst⟩;obtain ⟨rfl,rfl⟩:=St.mk.inj hst;clear hst;have hz:(j4 ms).length=i*3:=by rw[n7,hml];omega
  have h5:=l3 hI (n:=5) (by omega);have h33:=l3 h5.2.2 (n:=3) (by omega);refine c0z ?_;refine u2z ?_ ?_
  ·intro e1 qe1;refine c5z ?_;refine c20z ?_;refine .c9 [2,3,4,5,6] ?_;refine c30z ?_;refine .ch rfl rfl (aZ (L:=K) I 5 hI hK (by omega) (by omega)) ?_;refine c294z ?_;refine u2z ?_ ?_
   ·intro e2 qe2;refine c1z ?_;refine c260z ?_;refine c304z ?_;exact ⟨_,by omega,.v ⟨(i+1),(c5 K I 5).2,(ms++[⟨mnm i,true,0⟩]),(g+1),⟨rfl,⟨h5.2.2,by omega,by simp[hml],hms.snoc (by rw[hml]) t118 (by simp)⟩⟩,rfl⟩ (he:=t179) (hk:=t89)⟩
   intro e2 qe2;refine .z ?_;refine u2z ?_ ?_
   ·intro e3 qe3;refine .c9 [2,3,4,5,6] ?_;refine c150z ?_;refine .ch rfl rfl (aZ (L:=K) (c5 K I 5).2 3 h5.2.2 hK (by omega) (by omega)) ?_;refine c42z ?_;refine c128z ?_;refine c304z ?_;exact ⟨_,by omega,.v ⟨(i+1),(c5 K (c5 K I 5).2 3).2,(ms++[⟨mnm i,false,1+(c5 K (c5 K I 5).2 3).1⟩]),(g+1),⟨rfl,⟨h33.2.2,by omega,by simp[hml],hms.snoc (by rw[hml]) t118 (by simp)⟩⟩,rfl⟩ (he:=t179) (hk:=t89)⟩
   intro e3 qe3;refine c8z ?_;refine c260z ?_;refine c304z ?_;exact ⟨_,by omega,.v ⟨(i+1),(c5 K I 5).2,(ms++[⟨mnm i,false,0⟩]),(g+1),⟨rfl,⟨h5.2.2,by omega,by simp[hml],hms.snoc (by rw[hml]) t118 (by simp)⟩⟩,rfl⟩ (he:=t179) (hk:=t89)⟩
  intro e1 qe1;refine .exit ?_;have hiN:i=Nn:=by omega
  refine g6.mK (γ:=7) (β:=6) (k:=2) (len:=i) rfl hz (by omega) (G8 _) rfl (by decide) rfl ?_;simp only[List.cons_append,List.nil_append,List.set_cons_succ,List.set_cons_zero,List.length_cons,List.length_nil,Nat.reduceAdd,Nat.zero_add,aE];generalize eI 115 3 g (j4 ms) (i*3)=Mb;subst hiN;subst hml;change g6 ..;refine c20z ?_;have hg3:=l3 hI (n:=3) (by omega);obtain ⟨Ng,hNg,hNg2⟩:∃n:Nat,(c5 K I 3).1=(n:Int)∧n≤2:=⟨(c5 K I 3).1.toNat,by omega,by omega⟩;refine c30z ?_;refine .ch rfl rfl (aZ (L:=K) I 3 hI hK (by omega) (by omega)) ?_;refine c164z ?_;refine g6.oB 7 rfl ?_;refine .aD (fun m st=>∃(q:Nat) (I2:Int) (gs:List Gl) (g2:Nat) (gv:Nat),(m=Ng-q∧(OkI K I2∧q≤Ng∧gs.length=q∧VQ gs))∧st=⟨mkS 264 [(2,AV.ptr 4 0 0),(3,AV.ptr 6 0 0),(7,AV.own 10 gv 0 q),(8,AV.int .i64 ((q:Nat):Int)),(9,AV.int .i64 ((Ng:Nat):Int))],[bx,b0,b1,b2,⟨0,false,27,3,[.j9,.j9,.j9],0⟩,⟨0,false,78,2,[.vec K.length (encI K),.int .i64 I2],0⟩,⟨0,false,112,6,[.ptr 5 0 0,.own 8 g2 0 q,.vec ms.length (j4 ms),.own 9 0 0 0,.int .i64 24,.bool ar],0⟩,Mb,n4 118 2 g2 (o6 gs),⟨0,true,0,0,[],0⟩,n4 9 1 gv (p7 (gs.map (·.name)))]⟩) (.v ⟨0,(c5 K I 3).2,([]:List Gl),0,0,⟨rfl,⟨hg3.2.2,by omega,rfl,fun j hj=>by simp at hj⟩⟩,rfl⟩) ?_;rintro m sl h' ⟨q,I2,gs,g2,gv,⟨hm,⟨hI2,hq,hgl,hgs⟩⟩,hst⟩;obtain ⟨rfl,rfl⟩:=St.mk.inj hst;clear hst;have hz:(o6 gs).length=q*2:=by rw[cS,hgl];omega
  have hzv:(p7 (gs.map (·.name))).length=q*1:=by rw[w3,List.length_map,hgl];omega
  have h52:=l3 hI2 (n:=5) (by omega);refine c0z ?_;refine u2z ?_ ?_
  ·intro e4 qe4;refine c305z ?_;refine .rm [true,true] ?_;refine .cm [true,true] [1032,1024,8,0] [_,_] rfl rfl t138 ?_;refine .p 2 ?_;refine c19z ?_;refine aC.pop [false,false,false,true,true,false,false,true,true] (by kernel_rfl) t85 ?_;refine c34z ?_;refine c59z ?_;refine .c9 [2,3,7,8,9,10] ?_;refine .og w7 (mkH 19 [0,0,2,6,14,30,0,64,254,0,0,1024,3072,8190,16383,32767,65535,131071,262143] [7,8,12,13,17] [(7,0),(12,1)] [0,128,384,4096,4224,4480,12672,143744] [0,1,2,3,4,5,6,7,8,9]) 2 ?_;refine .p 5 ?_;refine c244z ?_;refine c216z ?_;refine .p 2 ?_;refine .rn [true,true,true] ?_;refine .en [true,true,true] [4480,4224,4096,384,128,0] [_,_,_] ?_;refine .en [true,false,false,false,false,false] [12672,4480,4224,4096,384,128,0] [_] ?_;refine .p 3 ?_;refine .en [true,false,false,false,false,false,false] [143744,12672,4480,4224,4096,384,128,0] [_] ?_;refine .p 1 ?_;refine c72z ?_;refine .po [false,false,false,false,true,false,false,true] ?_;refine .po [false,false,false,true,true,false,true,true] ?_;refine c29z ?_;refine .c9 [2,3,7,8,9] ?_;refine .rz ?_;exact ⟨_,by omega,.v ⟨(q+1),(c5 K I2 5).2,(gs++[(⟨gnm q,(c5 K I2 5).1-2⟩:Gl)]),(g2+1),(gv+1),⟨rfl,⟨h52.2.2,by omega,by simp[hgl],hgs.snoc (by rw[hgl]) t118⟩⟩,rfl⟩ (he:=t215) (hk:=by exact z5.of ⟨.inl rfl,.inl rfl,.inl rfl,.inl rfl,.inl rfl,.inr gA,.inr (dP.get t15),.inl rfl,.inr (by rw[o5];exact z4.refs (G9 _) _),.inl rfl,.inr (by rw[o5];exact z4.refs (P3 _) _),trivial⟩)⟩
  intro e4 qe4;refine .exit ?_;refine g6.mK (γ:=8) (β:=6) (k:=1) (len:=q) rfl hz (by omega) (G9 _) rfl (by decide) rfl ?_;simp only[List.cons_append,List.nil_append,List.set_cons_succ,List.set_cons_zero,List.length_cons,List.length_nil,Nat.reduceAdd,Nat.zero_add,aE];generalize eI 118 2 g2 (o6 gs) (q*2)=Gb;refine g6.tU (t:=7) (γ:=10) (len:=q) rfl hzv (by omega) (P3 _) (oC (by decide) rfl) ?_;rw[aE];simp only[List.cons_append,List.nil_append,List.set_cons_succ,List.set_cons_zero,List.length_cons,List.length_nil,Nat.reduceAdd,Nat.zero_add,aE];generalize eI 9 1 gv (p7 (gs.map (·.name))) (q*1)=Vb;have hgl2:gs.length≤2:=by omega
  subst hgl;change g6 ..;have hk4:=l3 hI2 (n:=4) (by omega);obtain ⟨Nk,hNk,hNk3⟩:∃n:Nat,(c5 K I2 4).1=(n:Int)∧n≤3:=⟨(c5 K I2 4).1.toNat,by omega,by omega⟩;refine c30z ?_;refine .ch rfl rfl (aZ (L:=K) I2 4 hI2 hK (by omega) (by omega)) ?_;refine c55z ?_;refine .c9 [2,3,7,11] ?_;refine c36z ?_;refine .aD (fun m st=>∃(r:Nat) (I3:Int) (fs:List Fu) (gF:Nat),(m=(Nk+1)-r∧(OkI K I3∧r≤Nk+1∧fs.length=r∧JZ fs))∧st=⟨mkS 264 [(2,AV.ptr 4 0 0),(3,AV.ptr 6 0 0),(7,AV.vec gs.length (p7 (gs.map (·.name)))),(11,AV.int .i64 ((Nk:Nat):Int)),(12,AV.int .i64 ((r:Nat):Int))],[bx,b0,b1,b2,⟨0,false,27,3,[.j9,.j9,.j9],0⟩,⟨0,false,78,2,[.vec K.length (encI K),.int .i64 I3],0⟩,⟨0,false,112,6,[.ptr 5 0 0,.vec gs.length (o6 gs),.vec ms.length (j4 ms),.own 9 gF 0 r,.int .i64 24,.bool ar],0⟩,Mb,Gb,n4 122 3 gF (l8 fs),Vb]⟩) (.v ⟨0,(c5 K I2 4).2,[],0,⟨rfl,⟨hk4.2.2,by omega,rfl,fun j hj=>by simp at hj⟩⟩,rfl⟩) ?_;rintro m sl h' ⟨r,I3,fs,gF,⟨hm,⟨hI3,hr,hfl,hfs⟩⟩,hst⟩;obtain ⟨rfl,rfl⟩:=St.mk.inj hst;clear hst;have hz:(l8 fs).length=r*3:=by rw[aJ,hfl];omega
  have h63:=l3 hI3 (n:=3) (by omega);refine c0z ?_;refine u2z ?_ ?_
  ·intro e5 qe5;refine c5z ?_;refine c135z ?_;refine c55z ?_;refine .c9 [2,3,7,11,12,13] ?_;refine .z ?_;refine u2z ?_ ?_
   ·intro e6 qe6;refine c1z ?_;refine .seq ?_;have hnm2:(⟨#[109,97,105,110]⟩:BA)=fnm r:=by rw[show r=0 from by omega];rfl
    generalize hnm:(⟨#[109,97,105,110]⟩:BA)=nm at hnm2 ⊢;replace hnm2:nm=fnm r:=hnm2;replace hnm:nm=nm:=rfl;obtain ⟨N3,hN3,hN32⟩:∃n:Nat,(c5 K I3 3).1=(n:Int)∧n≤2:=⟨(c5 K I3 3).1.toNat,by omega,by omega⟩;refine c129z ?_;refine c164z ?_;refine g6.jU (β:=12) (k:=1) rfl rfl ?_;simp only[List.cons_append,List.nil_append,List.set_cons_succ,List.set_cons_zero,List.length_cons,List.length_nil,Nat.reduceAdd,Nat.zero_add,aE];refine .aD (fun m st=>∃(n:Nat) (I4:Int) (ps:List Pm) (gp:Nat),(m=n∧(OkI K I4∧n≤N3∧FL N3 n ps∧(r=0→ps=[])))∧st=⟨mkS 264 [(2,AV.ptr 4 0 0),(3,AV.ptr 6 0 0),(7,AV.vec gs.length (p7 (gs.map (·.name)))),(11,AV.int .i64 ((Nk:Nat):Int)),(12,AV.int .i64 ((r:Nat):Int)),(13,AV.ptr 12 0 0),(14,AV.int .i64 ((n:Nat):Int))],[bx,b0,b1,b2,⟨0,false,27,3,[.j9,.j9,.j9],0⟩,⟨0,false,78,2,[.vec K.length (encI K),.int .i64 I4],0⟩,⟨0,false,112,6,[.ptr 5 0 0,.vec gs.length (o6 gs),.vec ms.length (j4 ms),.own 9 gF 0 r,.int .i64 24,.bool ar],0⟩,Mb,Gb,n4 122 3 gF (l8 fs),Vb,⟨0,false,5,1,[.int .u8 (48+((r:Nat):Int))],0⟩,⟨0,false,122,3,[.str nm,.own 13 gp 0 ps.length,.j9],0⟩,n4 124 2 gp (p9 ps)]⟩) (.v ⟨N3,(c5 K I3 3).2,([]:List Pm),0,⟨rfl,⟨h63.2.2,by omega,.inl ⟨rfl,rfl⟩,fun _=>rfl⟩⟩,rfl⟩ (hs:=t33)) ?_;rintro m sl h' ⟨n,I4,ps,gp,⟨hm,⟨hI4,hn,hps,hp0⟩⟩,hst⟩;obtain ⟨rfl,rfl⟩:=St.mk.inj hst;clear hst;have hzp:(p9 ps).length=ps.length*2:=by rw[w9];omega
    have h73:=l3 hI4 (n:=3) (by omega);have hpl:=hps.len;refine c300z ?_;refine .spl 147 rfl rfl (fun e7=>?_) (fun e7=>?_)
    ·try simp only[e7]
     have qe7:=fact e7;refine .m [(2,147)] ?_;refine u2z ?_ ?_
     ·intro e8 qe8;refine c305z ?_;refine c121z ?_;refine .p 2 ?_;refine c93z ?_;refine c34z ?_;refine c200z ?_;refine c70z ?_;exact ⟨_,by omega,.v ⟨(n-1),(c5 K I4 3).2,(ps++[(⟨pnm n,decide ((c5 K I4 3).1 > 0)⟩:Pm)]),(gp+1),⟨rfl,⟨h73.2.2,by omega,hps.step (by omega) (by omega) rfl,fun h=>by omega⟩⟩,rfl⟩ (he:=t161) (hk:=t106) (hs:=t33)⟩
     intro e8 qe8;refine .exit ?_;refine c187z ?_;simp only[List.cons_append,List.nil_append,List.set_cons_succ,List.set_cons_zero,List.length_cons,List.length_nil,Nat.reduceAdd,Nat.zero_add,aE];generalize eI 124 2 gp (p9 ps) (ps.length*2)=Pb;refine c236z ?_;exact ⟨_,by omega,.v ⟨(r+1),I4,(fs++[⟨nm,ps,.nil⟩]),(gF+1),⟨rfl,⟨hI4,by omega,by simp[hfl],hfs.snoc t117 t131 (hps.fin t87 (by omega))⟩⟩,rfl⟩ (he:=t146) (hk:=t67)⟩
    try simp only[e7]
    have qe7:=fact e7;refine c313z ?_;refine c187z ?_;simp only[List.cons_append,List.nil_append,List.set_cons_succ,List.set_cons_zero,List.length_cons,List.length_nil,Nat.reduceAdd,Nat.zero_add,aE];generalize eI 124 2 gp (p9 ps) (ps.length*2)=Pb;refine c236z ?_;exact ⟨_,by omega,.v ⟨(r+1),I4,(fs++[⟨nm,ps,.nil⟩]),(gF+1),⟨rfl,⟨hI4,by omega,by simp[hfl],hfs.snoc t117 t131 (hps.fin t87 (by omega))⟩⟩,rfl⟩ (he:=t146) (hk:=t67)⟩
   intro e6 qe6;refine c116z ?_;have hnm2:fnr r=fnm r:=by rw[fnm,if_neg (by omega)];rfl
   generalize hnm:fnr r=nm at hnm2 ⊢;replace hnm2:nm=fnm r:=hnm2;replace hnm:nm=nm:=rfl;obtain ⟨N3,hN3,hN32⟩:∃n:Nat,(c5 K I3 3).1=(n:Int)∧n≤2:=⟨(c5 K I3 3).1.toNat,by omega,by omega⟩;refine c129z ?_;refine c164z ?_;refine g6.jU (β:=12) (k:=1) rfl rfl ?_;simp only[List.cons_append,List.nil_append,List.set_cons_succ,List.set_cons_zero,List.length_cons,List.length_nil,Nat.reduceAdd,Nat.zero_add,aE];refine .aD (fun m st=>∃(n:Nat) (I4:Int) (ps:List Pm) (gp:Nat),(m=n∧(OkI K I4∧n≤N3∧FL N3 n ps∧(r=0→ps=[])))∧st=⟨mkS 264 [(2,AV.ptr 4 0 0),(3,AV.ptr 6 0 0),(7,AV.vec gs.length (p7 (gs.map (·.name)))),(11,AV.int .i64 ((Nk:Nat):Int)),(12,AV.int .i64 ((r:Nat):Int)),(13,AV.ptr 12 0 0),(14,AV.int .i64 ((n:Nat):Int))],[bx,b0,b1,b2,⟨0,false,27,3,[.j9,.j9,.j9],0⟩,⟨0,false,78,2,[.vec K.length (encI K),.int .i64 I4],0⟩,⟨0,false,112,6,[.ptr 5 0 0,.vec gs.length (o6 gs),.vec ms.length (j4 ms),.own 9 gF 0 r,.int .i64 24,.bool ar],0⟩,Mb,Gb,n4 122 3 gF (l8 fs),Vb,⟨0,false,5,1,[.int .u8 (48+((r:Nat):Int))],0⟩,⟨0,false,122,3,[.str nm,.own 13 gp 0 ps.length,.j9],0⟩,n4 124 2 gp (p9 ps)]⟩) (.v ⟨N3,(c5 K I3 3).2,([]:List Pm),0,⟨rfl,⟨h63.2.2,by omega,.inl ⟨rfl,rfl⟩,fun _=>rfl⟩⟩,rfl⟩ (hs:=t33)) ?_;rintro m sl h' ⟨n,I4,ps,gp,⟨hm,⟨hI4,hn,hps,hp0⟩⟩,hst⟩;obtain ⟨rfl,rfl⟩:=St.mk.inj hst;clear hst;have hzp:(p9 ps).length=ps.length*2:=by rw[w9];omega
   have h73:=l3 hI4 (n:=3) (by omega);have hpl:=hps.len;refine c300z ?_;refine .spl 147 rfl rfl (fun e9=>?_) (fun e9=>?_)
   ·try simp only[e9]
    have qe9:=fact e9;refine .m [(2,147)] ?_;refine u2z ?_ ?_
    ·intro e10 qe10;refine c305z ?_;refine c121z ?_;refine .p 2 ?_;refine c93z ?_;refine c34z ?_;refine c200z ?_;refine c70z ?_;exact ⟨_,by omega,.v ⟨(n-1),(c5 K I4 3).2,(ps++[(⟨pnm n,decide ((c5 K I4 3).1 > 0)⟩:Pm)]),(gp+1),⟨rfl,⟨h73.2.2,by omega,hps.step (by omega) (by omega) rfl,fun h=>by omega⟩⟩,rfl⟩ (he:=t161) (hk:=t106) (hs:=t33)⟩
    intro e10 qe10;refine .exit ?_;refine c187z ?_;simp only[List.cons_append,List.nil_append,List.set_cons_succ,List.set_cons_zero,List.length_cons,List.length_nil,Nat.reduceAdd,Nat.zero_add,aE];generalize eI 124 2 gp (p9 ps) (ps.length*2)=Pb;refine c236z ?_;exact ⟨_,by omega,.v ⟨(r+1),I4,(fs++[⟨nm,ps,.nil⟩]),(gF+1),⟨rfl,⟨hI4,by omega,by simp[hfl],hfs.snoc t117 t131 (hps.fin t87 (by omega))⟩⟩,rfl⟩ (he:=t146) (hk:=t67)⟩
   try simp only[e9]
   have qe9:=fact e9;refine c313z ?_;refine c187z ?_;simp only[List.cons_append,List.nil_append,List.set_cons_succ,List.set_cons_zero,List.length_cons,List.length_nil,Nat.reduceAdd,Nat.zero_add,aE];generalize eI 124 2 gp (p9 ps) (ps.length*2)=Pb;refine c236z ?_;exact ⟨_,by omega,.v ⟨(r+1),I4,(fs++[⟨nm,ps,.nil⟩]),(gF+1),⟨rfl,⟨hI4,by omega,by simp[hfl],hfs.snoc t117 t131 (hps.fin t87 (by omega))⟩⟩,rfl⟩ (he:=t146) (hk:=t67)⟩
  intro e5 qe5;refine .exit ?_;have hrN:r=Nk+1:=by omega
  rw[eR (zs:=l8 fs) t216];change g6 ..;refine c6z ?_;refine .aD (fun m st=>∃(s:Nat) (I5:Int) (lf:Int) (fs2:List Fu),(m=fs.length-s∧(OkI K I5∧s≤fs.length∧ZE gs ms fs2 s lf∧lE fs2=lE fs∧fs2.length=fs.length))∧st=⟨mkS 264 [(2,AV.ptr 4 0 0),(3,AV.ptr 6 0 0),(7,AV.vec gs.length (p7 (gs.map (·.name)))),(16,AV.int .i64 ((s:Nat):Int))],[bx,b0,b1,b2,⟨0,false,27,3,[.j9,.j9,.j9],0⟩,⟨0,false,78,2,[.vec K.length (encI K),.int .i64 I5],0⟩,⟨0,false,112,6,[.ptr 5 0 0,.vec gs.length (o6 gs),.vec ms.length (j4 ms),.own 9 gF 0 fs2.length,.int .i64 lf,.bool ar],0⟩,Mb,Gb,⟨gF,false,122,3,l8 fs2,0⟩,Vb]⟩) (.v ⟨0,I3,24,fs,⟨rfl,⟨hI3,Nat.zero_le _,⟨fun j hj=>by omega,by simp[rM],by omega⟩,rfl,rfl⟩⟩,rfl⟩) ?_ (he:=by (rw[←hfl]));rintro m sl h' ⟨s,I5,lf,fs2,⟨hm,⟨hI5,hs,hbd,hhd,hfl2⟩⟩,hst⟩;obtain ⟨rfl,rfl⟩:=St.mk.inj hst;clear hst;have hbo:=hbd.ol;have hfs2:=hfs.lE hhd;refine c0z ?_;refine u2z ?_ ?_
  ·intro e11 qe11;refine c5z ?_;refine .c9 [2,3,7,16] ?_;have hps2:(fs2.getD s j5).params.length≤2:=by rcases (hfs2 s (by omega)).2.2 with h | h | h<;>(have:=congrArg List.length h;rw[List.length_map]at this;simp only[List.length_nil,List.length_cons]at this;omega)
   have hvn:(gs.map (·.name)).length=gs.length:=List.length_map _;refine c25z ?_;refine .aD (fun m st=>∃(j:Nat) (gw:Nat),(m=(fs2.getD s j5).params.length-j∧j≤(fs2.getD s j5).params.length)∧st=⟨mkS 264 [(2,AV.ptr 4 0 0),(3,AV.ptr 6 0 0),(7,AV.vec gs.length (p7 (gs.map (·.name)))),(16,AV.int .i64 ((s:Nat):Int)),(17,AV.own 11 gw 0 (gs.map (·.name)++aF ((fs2.getD s j5).params.take j)).length),(18,AV.int .i64 ((j:Nat):Int))],[bx,b0,b1,b2,⟨0,false,27,3,[.j9,.j9,.j9],0⟩,⟨0,false,78,2,[.vec K.length (encI K),.int .i64 I5],0⟩,⟨0,false,112,6,[.ptr 5 0 0,.vec gs.length (o6 gs),.vec ms.length (j4 ms),.own 9 gF 0 fs2.length,.int .i64 lf,.bool ar],0⟩,Mb,Gb,⟨gF,false,122,3,l8 fs2,0⟩,Vb,⟨gw,false,9,1,p7 (gs.map (·.name)++aF ((fs2.getD s j5).params.take j)),0⟩]⟩) (.v ⟨0,(gO 0 gs.length),⟨rfl,Nat.zero_le _⟩,rfl⟩ (hs:=t32)) ?_ (he:=t213);rintro m sl h' ⟨j,gw,⟨hm,hj⟩,hst⟩;obtain ⟨rfl,rfl⟩:=St.mk.inj hst;clear hst;have hil:(aF ((fs2.getD s j5).params.take j)).length≤2:=Nat.le_trans (sW _) t74;have holn:(gs.map (·.name)++aF ((fs2.getD s j5).params.take j)).length=gs.length+(aF ((fs2.getD s j5).params.take j)).length:=by simp
   refine .seq ?_;refine c250z ?_;refine u2z ?_ ?_
   ·intro e12 qe12;refine c5z ?_;refine .c9 [2,3,7,16,17,18] ?_;refine c250z ?_;refine u2z ?_ ?_
    ·intro e13 qe13;refine .c9 [2,3,7,16,17,18] ?_;refine c158z ?_;refine .e 8 ?_;refine c42z ?_;refine c240z ?_;have hsu:=pH (l:=(fs2.getD s j5).params) (j:=j) (by omega);rw[show ((fs2.getD s j5).params.getD j fC).mu=false from by simp_all]at hsu;replace hsu:=s8z hsu;have hsl:=congrArg List.length hsu;try replace hsl:=s9z hsl
     have hnl:(gs.map (·.name)++aF ((fs2.getD s j5).params.take (j+1))).length=(gs.map (·.name)++aF ((fs2.getD s j5).params.take j)).length+1:=by simp only[List.length_append];omega
     exact ⟨_,by omega,.v ⟨(j+1),(gw+1),⟨rfl,by omega⟩,rfl⟩ (he:=by (rw[hsu,←List.append_assoc];rfl)) (hk:=t139) (hs:=t32)⟩
    intro e13 qe13;refine c8z ?_;refine c240z ?_;have hsu:=pH (l:=(fs2.getD s j5).params) (j:=j) (by omega);rw[show ((fs2.getD s j5).params.getD j fC).mu=true from by simp_all]at hsu;replace hsu:=s8z hsu;have hsl:=congrArg List.length hsu;try replace hsl:=s9z hsl
    have hnl:(gs.map (·.name)++aF ((fs2.getD s j5).params.take (j+1))).length=(gs.map (·.name)++aF ((fs2.getD s j5).params.take j)).length:=by simp only[List.length_append];omega
    exact ⟨_,by omega,.v ⟨(j+1),gw,⟨rfl,by omega⟩,rfl⟩ (he:=by (rw[hsu];rfl)) (hk:=t139) (hs:=t32)⟩
   intro e12 qe12;refine .exit ?_;have hjN:j=(fs2.getD s j5).params.length:=by omega
   rw[hjN,List.take_length] at*;change g6 ..;refine .c9 [2,3,7,16,17] ?_;refine raise (β:=11) (k:=(gs.map (·.name)++aF (fs2.getD s j5).params).length) rfl (Nat.zero_le _) ?_;simp only[List.cons_append,List.nil_append,List.set_cons_succ,List.set_cons_zero,List.length_cons,List.length_nil,Nat.reduceAdd,Nat.zero_add,aE];have hcc:OkC (⟨K,gs,ms,fs2,gF,ar⟩:Core):=RO hms ⟨by omega,by omega⟩ hfs2 ⟨by omega,by omega⟩;have hfrs:=wR hgs hgl2 (hfs2 s (by omega)).2.2;have hok:=cN hcc (ps:=(fs2.getD s j5).params) 24 (gs.map (·.name)++aF (fs2.getD s j5).params) 2 6 I5 (gs.map (·.name)++aF (fs2.getD s j5).params) lf (by omega) (by omega) hI5 (by omega) (by omega) (by omega) (fun x hx=>hx) (hfrs.mono (by omega));generalize hRB:c7 (⟨K,gs,ms,fs2,gF,ar⟩:Core) (fs2.getD s j5).params 24 (gs.map (·.name)++aF (fs2.getD s j5).params) 2 6 I5 lf=RB at hok;refine g6.jF w7 (mkP 20 [0,1,3,7,15,0,0,0,128,384,896,1920,0,8064,16256,0,65472,131071,262143,524287] [16,19]) [0,1,2,3,4,5] (by kernel_rfl) (by kernel_rfl) ?_;refine dD.p (pd:=[]) 16 ?_;refine dD.v7 rfl rfl rfl rfl rfl hb45 (YK hcc hK (f:=(fs2.getD s j5)) (n:=gs.length+(aF (fs2.getD s j5).params).length) hps2 hI5 (by simp only[List.length_append,List.length_map]) hRB (by omega) (by omega) hfrs t199 (bx:=bx) (b0:=b0) (b1:=b1) (b2:=b2) (z:=⟨0,false,27,3,[.j9,.j9,.j9],0⟩) (mb:=Mb) (gb:=Gb) (vb:=Vb)) ?_;refine dD.p 3 ?_;refine dD.nil t8 ?_;change g6 ..;refine .c9 [2,3,7,16] ?_;refine .rz ?_;exact ⟨_,by omega,.v ⟨(s+1),RB.2.1,RB.2.2,(setBody fs2 s RB.1),⟨rfl,⟨hok.oi,by omega,hbd.step (by omega) hok,(lG (by omega)).trans hhd,gL.trans hfl2⟩⟩,rfl⟩ (he:=by (simp only[gL];rfl)) (hk:=by exact z5.of ⟨.inl rfl,.inl rfl,.inl rfl,.inl rfl,.inl rfl,.inr gA,.inr (dP.get t15),.inl rfl,.inl rfl,.inr (z4.refs (vE _) _),.inl rfl,trivial⟩)⟩
  intro e11 qe11;refine .exit ?_;have hsN:s=fs.length:=by omega
  change g6 ..;refine .c9 [2,3] ?_;refine c43z ?_;exact ⟨_,_,rfl,(by show iT 4 _ 6 (.agg [.vec gs.length (o6 gs),.vec ms.length (j4 ms),.own 9 gF 0 fs2.length])=_;simp only[oX,dV,oY,r6,List.length_cons,List.length_nil,Nat.reduceAdd,show ¬9<4 from by decide,if_false];rw[eH (e:=122) (K:=3) (g:=gF) (zs:=l8 fs2) (zs':=l8 fs2) t181 (by decide) (by rw[aJ];omega) (by omega) (z4.frz (vE _) _ _ _)];rfl),⟨⟨gs,ms,fs2⟩,FM hgs hgl2 hms ⟨by omega,by omega⟩ hfs2 ⟨by omega,by omega⟩ (by rw[hfl2,←hsN];exact hbd),rfl⟩⟩
end Go.Proofs.YtapdldekgbbomaaGreatDoor.Sh
end
section
namespace Go.Proofs.YtapdldekgbbomaaGreatDoor.Sh
open Go.Ab Go.Un
theorem A2 {h:c8}{p:Go.Un.Pg}(hp:GP p){u:Un}(hu:dH p=u):CB 26 [.agg [.vec p.globals.length (o6 p.globals),.vec p.c6.length (j4 p.c6),.vec p.funcs.length (l8 p.funcs)]] h (.tup [.agg [.vec u.globals.length (encI u.globals),.vec u.c6.length (j4 u.c6),.vec u.procs.length (r7 u.procs),.int .i64 u.main],.int .i64 0,.int .i64 0,.int .i64 0]):=by subst hu;exact HA hp
attribute [local go_sem] rd u6 z7 Int.natCast_nonneg Int.natCast_inj cP bG cQ
theorem SV {bx:Blk}(L:List Int)(hL:L.length<4611686018427387904):CallA Tryz.prog cfg 7 [.vec L.length (encI L)] [bx] (fun y' h'=>(∃p u c,GP p∧WU u∧WC u c∧y'=.tup [.agg (K7 p),.agg [.vec u.globals.length (encI u.globals),.vec u.c6.length (j4 u.c6),.vec u.procs.length (r7 u.procs),.int .i64 u.main],.agg [.vec c.insts.length (v8 c.insts),.vec c.calls.length (z9 c.calls),.vec c.roots.length (encI c.roots)]])∧h'=[bx]):=by
 refine .bz Tryz.f7 29 ?_;refine c261z ?_;refine q9.cx rfl rfl hb25 (vL L hL) (fun y1 h1 hq1=>?_);obtain ⟨⟨p,hp,rfl⟩,rfl⟩:=hq1;generalize hup:dH p=u;have hu:WU u:=by rw[←hup];exact EE hp
 simp only[K7];refine .n ?_;refine c159z ?_;refine .ca rfl rfl (A2 hp hup) ?_;refine .e 8 ?_;refine .n ?_;refine .c9 [2,3,4,5,6] ?_;refine c159z ?_;refine q9.cx rfl rfl hb27 (HI hu) (fun y1 h1 hq1=>?_);obtain ⟨⟨c,wc,rfl⟩,rfl⟩:=hq1;simp only[LZ];refine .n ?_;refine .sg w7 (mkH 6 [0,0,0,1,11,31] [3,4,5] [] [0,8,24,56] [1,2]) 0 ?_;refine .rn [true] ?_;refine c244z ?_;refine .en [true] [8,0] [_] ?_;refine .en [true,false] [24,8,0] [_] ?_;refine .en [true,false,false] [56,24,8,0] [_] ?_;refine .po [false,true,true,true] ?_;refine c184z ?_;exact .ret (.ex (hq:=by exact ⟨p,u,c,hp,hu,wc,rfl⟩))
end Go.Proofs.YtapdldekgbbomaaGreatDoor.Sh
end
section
namespace Go.Proofs.YtapdldekgbbomaaGreatDoor
open Go.Ab Go.Un
variable {l:List Ru}{i:Nat}{x:AV}
theorem QE (h:i<l.length):List.take 1 (List.drop (i*3+2) (List.take (i*3+2) (encRus l)++x::List.drop (i*3+2+1) (encRus l)))=[x]:=by
  have hl:=v9 l;have h1:(List.take (i*3+2) (encRus l)).length=i*3+2:=by rw[List.length_take];omega
  rw[List.drop_append,List.drop_of_length_le (by omega),h1,Nat.sub_self];rfl
theorem set_mix {y:AV}(h:i<l.length):(List.take (i*3+2) (encRus l)++x::List.drop (i*3+2+1) (encRus l)).set (i*3+2) y=List.take (i*3+2) (encRus l)++y::List.drop (i*3+2+1) (encRus l):=by
  have hl:=v9 l;have h1:(List.take (i*3+2) (encRus l)).length=i*3+2:=by rw[List.length_take];omega
  rw[List.set_append_right _ _ (by omega),h1,Nat.sub_self];rfl
theorem get_mix (h:i<l.length):(List.take (i*3+2) (encRus l)++x::List.drop (i*3+2+1) (encRus l))[i*3+2]?=some x:=by
  have hl:=v9 l;have h1:(List.take (i*3+2) (encRus l)).length=i*3+2:=by rw[List.length_take];omega
  rw[List.getElem?_append_right (by omega),h1,Nat.sub_self];rfl
theorem Y6 {most:Int}:(KB l most).1.length≤10000:=by
  by_cases h:most<0∨10000<most∨most<nN l
  · rw[SO h];simp
  · rw[W4 h]
    by_cases h0:0<l.length
    · exact W5 (most:=most) h0 (by omega) (by omega)
    · rw[List.length_eq_zero_iff.1 (show l.length=0 by omega)];simp[IF]
variable {n:Nat}
theorem cut_few:∀r∈(l.take n).map TD,r.items.length<30:=fun r hr=>by obtain ⟨x,_,rfl⟩:=List.mem_map.1 hr;show (x.items.take _).length<30;rw[List.length_take];omega
theorem JO {h:c8}{a0 a1 a2 a3 a4 a5 a6:Blk}{l':c8}{l:List (Int×Int)}(hn:l.length=n)(hl:n<100000):g8 cfg 55 (h++(a0::a1::a2::a3::a4::a5::a6::⟨0,false,55,2,[],0⟩::l')) (.own (h.length+7) 0 0 0) (.vec n (j6 l))=some (.own (h.length+7) (gP 0 n) 0 n,h++(a0::a1::a2::a3::a4::a5::a6::⟨gP 0 n,false,55,2,j6 l,0⟩::l')):=by
  subst hn;have e1:cfg.sz 55=2:=rfl;have e2:(cfg.ti 55).bytes=16:=rfl;have hm:l.length≤maxLen:=by
    have:(100000:Nat)≤maxLen:=by decide
    omega
  have hb:l.length*16≤140737488355328:=by omega
  cases l with
  | nil=>simp[g8,rd,lenOf,e1,e2,gP,j6,v5,u4]
  | cons x l=>
    have hx:(j6 (x::l)).length=2*(l.length+1):=by rw[s7];rfl
    generalize j6 (x::l)=zs at*;simp only[List.length_cons]at hm hb;have hx2:zs.length=(l.length+1)*2:=by omega
    have hnl:¬(l.length+1)*2≤0:=by omega
    simp[g8,rd,lenOf,e1,e2,gP,hx2,hm,hb,v5,u4]
theorem QF {a0 a1 a2 a3 a4 a5 a6:Blk}{l':c8}{l:List (Int×Int)}(hn:l.length=n)(hl:n<100000):g8 cfg 55 (a0::a1::a2::a3::a4::a5::a6::⟨0,false,55,2,[],0⟩::l') (.own 7 0 0 0) (.vec n (j6 l))=some (.own 7 (gP 0 n) 0 n,a0::a1::a2::a3::a4::a5::a6::⟨gP 0 n,false,55,2,j6 l,0⟩::l'):=by have q:=JO (h:=[]) (a0:=a0) (a1:=a1) (a2:=a2) (a3:=a3) (a4:=a4) (a5:=a5) (a6:=a6) (l':=l') hn hl;simp only[List.nil_append,List.length_nil,Nat.zero_add]at q;exact q
attribute [local go_sem] rd Int.natCast_nonneg Int.natCast_inj Int.toNat_natCast_add_one mnI mxI wrap64 nH max2 v9 s7 aT kB fR fT fV iX fW fY iY cW u6 z7 u5 n7 bL l7 cP cQ bG eP dW jC eY lP l7 eY fQ QE Y4 QF
theorem c_lawRaw (L:List Int)(hL:L.length<4611686018427387904){lock xi xp xd:Int}(hl:l.length≤9223372036854775807)(hit:∀r∈l,r.items.length≤9223372036854775807)(most:Int)(small:Bool):CB 4 [.vec L.length (encI L),.agg [.int .i64 lock,.int .i64 xi,.int .i64 xp,.int .i64 xd,.vec l.length (encRus l)],.int .i64 most,.bool small] [] (.bool true):=by
  refine .bz Tryz.f4 150 ?_;refine c261z ?_;refine q9.cx rfl rfl hb7 (Sh.SV L hL) (fun y1 h1 hq1=>?_);obtain ⟨⟨p,u,c,gp,hu,wc,rfl⟩,rfl⟩:=hq1;have hml:=hu.ml;have hwl:=wc.len;have hwc:=wc.cl;simp only[K7];refine .e 8 ?_;refine .n ?_;refine .c9 [2,3,5,10,11] ?_;refine c159z ?_;refine .ch rfl rfl (c_few hl hit) ?_;refine c296z ?_;refine .aD (fun m st=>∃(i:Nat) (l2:List Ru) (mo:Int),(m=(min l.length 20)-i∧(i≤(min l.length 20)∧l2.length=(min l.length 20)∧(∀r∈l2,r.items.length<30)))∧st=⟨mkS 150 [(2,AV.int .i64 mo),(3,AV.bool small),(5,AV.ptr 0 0 0),(10,AV.ptr 2 0 0),(11,AV.ptr 3 0 0),(12,AV.int .i64 ((i:Nat):Int))],[⟨0,false,39,5,[.int .i64 lock,.int .i64 xi,.int .i64 xp,.int .i64 xd,.own 6 (gP 0 (min l.length 20)) 0 (min l.length 20)],0⟩,⟨0,false,27,3,[.vec p.globals.length (o6 p.globals),.vec p.c6.length (j4 p.c6),.vec p.funcs.length (l8 p.funcs)],0⟩,⟨0,false,30,4,[.vec u.globals.length (encI u.globals),.vec u.c6.length (j4 u.c6),.vec u.procs.length (r7 u.procs),.int .i64 u.main],0⟩,⟨0,false,34,3,[.vec c.insts.length (v8 c.insts),.vec c.calls.length (z9 c.calls),.vec c.roots.length (encI c.roots)],0⟩,⟨0,false,39,5,[.int .i64 lock,.int .i64 xi,.int .i64 xp,.int .i64 xd,.own 6 (gP 0 (min l.length 20)) 0 (min l.length 20)],0⟩,⟨0,false,39,5,[.int .i64 lock,.int .i64 xi,.int .i64 xp,.int .i64 xd,.own 6 (gP 0 (min l.length 20)) 0 (min l.length 20)],0⟩,⟨(gP 0 (min l.length 20)),false,53,3,(encRus l2),0⟩]⟩) (.v ⟨0,((l.take (min l.length 20)).map TD),most,⟨rfl,⟨by omega,by rw[List.length_map,List.length_take];omega,cut_few⟩⟩,rfl⟩) ?_ (he:=by rfl);rintro m sl h' ⟨i,l2,mo,⟨hm,⟨hi,hl2,hc2⟩⟩,hst⟩;obtain ⟨rfl,rfl⟩:=St.mk.inj hst;clear hst;have hri:=fun (h:i<l2.length)=>hc2 _ (l6 (d:=g7) h);refine .seq ?_;refine c108z ?_;refine .spl 37 rfl rfl (fun e1=>?_) (fun e1=>?_)
  ·try simp only[e1]
   have qe1:=fact e1;refine .m [(5,37)] ?_;refine u2z ?_ ?_
   ·intro e2 qe2;refine c5z ?_;refine .c9 [2,3,5,10,11,12] ?_;obtain rfl:small=true:=(by assumption);have hil:i<l2.length:=by omega
    have hrk:=hri hil;have hmx1:(List.take (i*3+2) (encRus l2)).length=i*3+2:=by rw[List.length_take,v9];omega
    have hmx2:(List.drop (i*3+2+1) (encRus l2)).length=3*l2.length-(i*3+2+1):=by rw[List.length_drop,v9]
    refine .sg w7 (mkH 14 [0,1,0,0,0,16,0,112,240,496,1016,2047,4095,8191] [3,10,13] [] [0,8,1032,9224] [0,1,2]) 0 ?_;refine c38z ?_;refine .p 1 ?_;refine .en [true] [8,0] [_] ?_;refine .p 1 ?_;refine .rn [true,true] ?_;refine .p 3 ?_;refine .rn [true,true] ?_;refine .en [true,false] [1032,8,0] [_] ?_;refine .p 2 ?_;refine .en [true,false,false] [9224,1032,8,0] [_] ?_;refine .po [false,true,true,true] ?_;refine aC.nil rfl ?_;refine .seq ?_;refine .c9 [2,3,5,10,11,12] ?_;refine c36z ?_;refine .aD (fun m st=>∃(k:Nat) (its2:List (Int×Int)),(m=(l2.getD i g7).items.length-k∧(k≤(l2.getD i g7).items.length∧its2.length=(l2.getD i g7).items.length))∧st=⟨mkS 150 [(2,AV.int .i64 mo),(3,AV.bool true),(5,AV.ptr 0 0 0),(10,AV.ptr 2 0 0),(11,AV.ptr 3 0 0),(12,AV.int .i64 ((i:Nat):Int)),(13,AV.int .i64 ((k:Nat):Int))],[⟨0,false,39,5,[.int .i64 lock,.int .i64 xi,.int .i64 xp,.int .i64 xd,.own 6 (gP 0 (min l.length 20)) 0 (min l.length 20)],0⟩,⟨0,false,27,3,[.vec p.globals.length (o6 p.globals),.vec p.c6.length (j4 p.c6),.vec p.funcs.length (l8 p.funcs)],0⟩,⟨0,false,30,4,[.vec u.globals.length (encI u.globals),.vec u.c6.length (j4 u.c6),.vec u.procs.length (r7 u.procs),.int .i64 u.main],0⟩,⟨0,false,34,3,[.vec c.insts.length (v8 c.insts),.vec c.calls.length (z9 c.calls),.vec c.roots.length (encI c.roots)],0⟩,⟨0,false,39,5,[.int .i64 lock,.int .i64 xi,.int .i64 xp,.int .i64 xd,.own 6 (gP 0 (min l.length 20)) 0 (min l.length 20)],0⟩,⟨0,false,39,5,[.int .i64 lock,.int .i64 xi,.int .i64 xp,.int .i64 xd,.own 6 (gP 0 (min l.length 20)) 0 (min l.length 20)],0⟩,⟨(gP 0 (min l.length 20)),false,53,3,(List.take (i*3+2) (encRus l2)++AV.own 7 (gP 0 (l2.getD i g7).items.length) 0 (l2.getD i g7).items.length::List.drop (i*3+2+1) (encRus l2)),0⟩,⟨gP 0 (l2.getD i g7).items.length,false,55,2,j6 its2,0⟩]⟩) (.v ⟨0,(l2.getD i g7).items,⟨rfl,⟨by omega,rfl⟩⟩,rfl⟩) ?_ (he:=by rfl);rintro m sl h' ⟨k,its2,⟨hm,⟨hk,hit3⟩⟩,hst⟩;obtain ⟨rfl,rfl⟩:=St.mk.inj hst;clear hst;refine .seq ?_;refine c250z ?_;refine u2z ?_ ?_
    ·intro e3 qe3;refine c5z ?_;refine .c9 [2,3,5,10,11,12,13] ?_;have hw0:=E8 (x:=(its2.getD k (0,0)).2) (n:=6) (by omega);have hw1:=E9 (x:=(its2.getD k (0,0)).2) (n:=6) (by omega);refine .so w7 (mkP 22 [0,1,0,7,15,31,0,0,128,0,896,1920,3968,0,16256,32640,65408,130944,262016,524287,1048575,2097151] [21]) ?_;refine .k 8 [] ?_;refine .k 8 [] ?_;refine .k 1 [] ?_;refine .ca rfl rfl (yR _ _ (by omega) (by omega)) ?_;refine c86z ?_;refine .c9 [2,3,5,10,11,12,13] ?_;refine .rz ?_;exact ⟨_,by omega,.v ⟨(k+1),(its2.set k ((its2.getD k (0,0)).1,within (its2.getD k (0,0)).2 6-1)),⟨rfl,⟨by omega,by rw[List.length_set];exact hit3⟩⟩,rfl⟩ (he:=by rfl) (hk:=by exact z5.of ⟨.inl rfl,.inl rfl,.inl rfl,.inl rfl,.inl rfl,.inl rfl,.inl rfl,.inr ((zS _).refs _),trivial⟩)⟩
    intro e3 qe3;refine c12z ?_;refine .c9 [2,3,5,10,11,12] ?_;refine g6.yC (γ:=7) (β:=6) (k:=i*3+2) (off:=0) (len:=(l2.getD i g7).items.length) (b:=⟨gP 0 (l2.getD i g7).items.length,false,55,2,j6 its2,0⟩) (cs:=j6 its2) rfl rfl (by simp only[s7];omega) (by simp only[List.drop_zero];rw[List.take_of_length_le (by simp only[s7];omega)];exact (zS _).QM) rfl (by omega) (get_mix (by omega)) ?_;simp only[dM,List.set_cons_succ,List.set_cons_zero];rw[set_mix (by omega),Y5 (by omega) hit3];refine .r ?_;refine .e 1 ?_;refine .ca rfl rfl (yR _ _ (by omega) (by omega)) ?_;refine c42z ?_;refine .rz ?_;exact ⟨_,by omega,.v ⟨(i+1),(l2.set i ⟨(l2.getD i g7).inst,(l2.getD i g7).op',its2⟩),(within mo 2000),⟨rfl,⟨by omega,by rw[List.length_set];exact hl2,QA hc2 (by show its2.length<30;omega)⟩⟩,rfl⟩ (he:=by rfl) (hk:=by exact z5.of ⟨.inl rfl,.inl rfl,.inl rfl,.inl rfl,.inl rfl,.inl rfl,.inr ((P0 _).refs _),trivial⟩)⟩
   intro e2 qe2;refine .exit ?_;refine g6.yC (γ:=6) (β:=0) (k:=4) (off:=0) (len:=(min l.length 20)) (b:=⟨(gP 0 (min l.length 20)),false,53,3,(encRus l2),0⟩) (cs:=encRus l2) rfl rfl (by simp only[v9];omega) t176 rfl (by omega) rfl ?_;simp only[dM,List.set_cons_succ,List.set_cons_zero];have hl3:l2.length<1000000:=by omega
   have hit2:∀r∈l2,r.items.length<1000000:=fun r hr=>by have:=hc2 r hr;omega
   rw[←hl2];have hel:=W8 (u:=u) (c:=c) (lock:=lock) (l:=l2);have hxf:=Y6 (l:=l2) (most:=mo);change g6 ..;refine .c9 [2,5,10,11] ?_;refine c13z ?_;refine .ca rfl rfl (G6 hu wc hl3 hit2) ?_;refine .n ?_;refine .c9 [2,5,10,11,14,15,16] ?_;refine c13z ?_;refine .ca rfl rfl (xA hu wc hl3 hit2) ?_;refine .n ?_;refine .c9 [2,5,14,15,16,17,18,19] ?_;refine c45z ?_;refine .ca rfl rfl (W6 hl3 hit2 mo) ?_;refine .n ?_;refine c45z ?_;refine .ca rfl rfl (G5 hl3 hit2 mo) ?_;refine .n ?_;refine .c9 [5,14,15,16,17,18,19,20,21,22,23] ?_;refine .ss w7 (mkP 34 [0,0,3,7,15,15,63,127,255,511,511,2047,4095,8191,16383,32767,16383,131071,262143,524287,1048575,2097151,2097151,8388607,16777215,33554431,67108863,67108863,268435455,536870911,1073741823,2147483647,4294967295,8589934591] []) ?_;refine .k 4 [] ?_;refine .spl 120 rfl rfl (fun e4=>?_) (fun e4=>by exfalso;(first | cases e4 | (simp at e4;done) | (have q:=fact e4;omega)));try simp only[e4]
   have qe4:=fact e4;refine .k 5 [(3,120)] ?_;refine .spl 125 rfl rfl (fun e5=>?_) (fun e5=>by exfalso;(first | cases e5 | (simp at e5;done) | (have q:=fact e5;omega)));try simp only[e5]
   have qe5:=fact e5;refine .k 2 [(8,125)] ?_;refine .ca rfl rfl (IE _ _ (by omega) (by omega)) ?_;refine .k 2 [] ?_;refine .spl 130 rfl rfl (fun e6=>?_) (fun e6=>by exfalso;(first | cases e6 | (simp at e6;done) | (have q:=fact e6;omega)));try simp only[e6]
   have qe6:=fact e6;refine .k 1 [(13,130)] ?_;refine .ca rfl rfl (zP hl3 hit2) ?_;refine .k 1 [(13,130)] ?_;refine .ca rfl rfl (vA hl3 hit2) ?_;refine .k 3 [(13,130)] ?_;refine .spl 137 rfl rfl (fun e7=>?_) (fun e7=>by exfalso;(first | cases e7 | (simp at e7;done) | (have q:=fact e7;omega)));try simp only[e7]
   have qe7:=fact e7;refine .k 5 [(20,137)] ?_;refine .spl 142 rfl rfl (fun e8=>?_) (fun e8=>by exfalso;(first | cases e8 | (simp at e8;done) | (have q:=fact e8;omega)));try simp only[e8]
   have qe8:=fact e8;refine .k 2 [(25,142)] ?_;refine .ca rfl rfl (ID _ _ (by omega) (by omega)) ?_;refine .k 2 [] ?_;refine .spl 147 rfl rfl (fun e9=>?_) (fun e9=>by exfalso;(first | cases e9 | (simp at e9;done) | (have q:=fact e9;omega)));try simp only[e9]
   have qe9:=fact e9;refine .ca rfl rfl (JL _) ?_;refine .n [] ?_;exact .ret (.ex (hq:=by rfl))
  try simp only[e1]
  have qe1:=fact e1;refine .m [(5,37)] ?_;refine c249z ?_;refine g6.yC (γ:=6) (β:=0) (k:=4) (off:=0) (len:=(min l.length 20)) (b:=⟨(gP 0 (min l.length 20)),false,53,3,(encRus l2),0⟩) (cs:=encRus l2) rfl rfl (by simp only[v9];omega) t176 rfl (by omega) rfl ?_;simp only[dM,List.set_cons_succ,List.set_cons_zero];have hl3:l2.length<1000000:=by omega
  have hit2:∀r∈l2,r.items.length<1000000:=fun r hr=>by have:=hc2 r hr;omega
  rw[←hl2];have hel:=W8 (u:=u) (c:=c) (lock:=lock) (l:=l2);have hxf:=Y6 (l:=l2) (most:=mo);change g6 ..;refine .c9 [2,5,10,11] ?_;refine c13z ?_;refine .ca rfl rfl (G6 hu wc hl3 hit2) ?_;refine .n ?_;refine .c9 [2,5,10,11,14,15,16] ?_;refine c13z ?_;refine .ca rfl rfl (xA hu wc hl3 hit2) ?_;refine .n ?_;refine .c9 [2,5,14,15,16,17,18,19] ?_;refine c45z ?_;refine .ca rfl rfl (W6 hl3 hit2 mo) ?_;refine .n ?_;refine c45z ?_;refine .ca rfl rfl (G5 hl3 hit2 mo) ?_;refine .n ?_;refine .c9 [5,14,15,16,17,18,19,20,21,22,23] ?_;refine .ss w7 (mkP 34 [0,0,3,7,15,15,63,127,255,511,511,2047,4095,8191,16383,32767,16383,131071,262143,524287,1048575,2097151,2097151,8388607,16777215,33554431,67108863,67108863,268435455,536870911,1073741823,2147483647,4294967295,8589934591] []) ?_;refine .k 4 [] ?_;refine .spl 120 rfl rfl (fun e10=>?_) (fun e10=>by exfalso;(first | cases e10 | (simp at e10;done) | (have q:=fact e10;omega)));try simp only[e10]
  have qe10:=fact e10;refine .k 5 [(3,120)] ?_;refine .spl 125 rfl rfl (fun e11=>?_) (fun e11=>by exfalso;(first | cases e11 | (simp at e11;done) | (have q:=fact e11;omega)));try simp only[e11]
  have qe11:=fact e11;refine .k 2 [(8,125)] ?_;refine .ca rfl rfl (IE _ _ (by omega) (by omega)) ?_;refine .k 2 [] ?_;refine .spl 130 rfl rfl (fun e12=>?_) (fun e12=>by exfalso;(first | cases e12 | (simp at e12;done) | (have q:=fact e12;omega)));try simp only[e12]
  have qe12:=fact e12;refine .k 1 [(13,130)] ?_;refine .ca rfl rfl (zP hl3 hit2) ?_;refine .k 1 [(13,130)] ?_;refine .ca rfl rfl (vA hl3 hit2) ?_;refine .k 3 [(13,130)] ?_;refine .spl 137 rfl rfl (fun e13=>?_) (fun e13=>by exfalso;(first | cases e13 | (simp at e13;done) | (have q:=fact e13;omega)));try simp only[e13]
  have qe13:=fact e13;refine .k 5 [(20,137)] ?_;refine .spl 142 rfl rfl (fun e14=>?_) (fun e14=>by exfalso;(first | cases e14 | (simp at e14;done) | (have q:=fact e14;omega)));try simp only[e14]
  have qe14:=fact e14;refine .k 2 [(25,142)] ?_;refine .ca rfl rfl (ID _ _ (by omega) (by omega)) ?_;refine .k 2 [] ?_;refine .spl 147 rfl rfl (fun e15=>?_) (fun e15=>by exfalso;(first | cases e15 | (simp at e15;done) | (have q:=fact e15;omega)));try simp only[e15]
  have qe15:=fact e15;refine .ca rfl rfl (JL _) ?_;refine .n [] ?_;exact .ret (.ex (hq:=by rfl))
end Go.Proofs.YtapdldekgbbomaaGreatDoor
end
section
namespace Go.Ab
open Go.RowKit
theorem prel_ints {w:World}{a:Option Addr}{len cap:Nat}{zs:List Int}
  (h:(a=none∧len=0∧cap=0∧zs=[])∨∃x,a=some x∧len≤cap∧cap≤maxLen∧zs.length=cap∧(∀i,i<zs.length→w.cell? (x.add i)=some (.int .i64 (zs.getD i 0)))∧∀n∈zs,(Lit.int .i64 n).wf=true) :
  jS w (fun k _=>k<w.heap.size) (.slice a len cap) (ZP (zs.take len))∧(zs.take len).length=len∧len≤maxLen∧∀n∈zs.take len,-9223372036854775808≤n∧n<9223372036854775808:=by
 rcases h with ⟨rfl,rfl,rfl,rfl⟩ | ⟨x,rfl,h1,h2,h3,h4,h5⟩
 ·exact ⟨KW _ _,rfl,by omega,by simp⟩
 ·refine ⟨KX h1 h3 h4,t74,by omega,fun n hn=>?_⟩;have:=h5 n (List.mem_of_mem_take hn);simp only[Lit.wf,Bool.and_eq_true,decide_eq_true_eq]at this;have e1:IntKind.min .i64 = -9223372036854775808:=rfl;have e2:IntKind.max .i64=9223372036854775807:=rfl;rw[e1,e2]at this;omega
end Go.Ab
end
section
namespace Go.Proofs.YtapdldekgbbomaaGreatDoor
open Go.Ab Go.Un Go.Joins Go.ChangeShapes Go.WideShapes Go.RowKit Go.Deep
section
variable {H:Type}{enc:TypeId×Value→H}{P:Program}{w:World}{base:Nat}{spare:Nat→Bool}{held:Bool}
theorem vM {t e:TypeId}{fs:Array Field}{fuel:Nat}{cs:List Value}{x:DataW H×List MemPlace}(ht:P.underlying t=some (.slice e))(he:P.underlying e=some (.struct fs))
  (hone:oneCellFields P fs=true) (hC:P.cellsOf e=fs.size) (h:DataW.trod enc P w base spare held fuel t cs=some x) :
  cs=[.slice none 0 0]∨
  ∃(a:Addr) (len cap:Nat),cs=[.slice (some a) len cap]∧len≤cap∧cap≤maxLen∧
   ∀i,i<len→∃(n:Nat),∀(j:Nat) (f:Field),fs[j]?=some f→∃(v:Value) (y:DataW H×List MemPlace),w.cell? (a.add (i*fs.size+j))=some v∧DataW.trod enc P w base spare held n f.type [v]=some y:=by
 rcases open_slice ht h with h0 | ⟨a,len,cap,m,n,D,Pl,hcs,hb,hl,hm,hmm,hx,hi⟩
 ·exact .inl h0.1
 ·refine .inr ⟨a,len,cap,hcs,hl,hm,fun i him=>?_⟩;obtain ⟨cs',hc,ht'⟩:=hi i (by rw[hmm];split<;>omega);rw[hC]at hc;obtain ⟨ys,n',hn',hy,hlen,hyl,hf⟩:=DataW.trod_struct he ht';obtain ⟨_,hcl,hat⟩:=World.cells?_some hc;refine ⟨n',fun j f hj=>?_⟩;obtain ⟨ho,hk⟩:=hone_of hone j f hj;have hjl:j<fs.size:=(Array.getElem?_eq_some_iff.1 hj).1;have hcell:=hat j hjl;have hv:cs'[j]?=some (cs'[j]'(by omega)):=List.getElem?_eq_getElem (by omega);have h1:=hf j f hj;rw[ho,hk]at h1;have hone':(cs'.drop j).take 1=[cs'[j]'(by omega)]:=by rw[List.drop_eq_getElem_cons (by omega)];rfl
  rw[hone']at h1;have hys:ys[j]?=some (ys[j]'(by omega)):=List.getElem?_eq_getElem (by omega);refine ⟨_,_,?_,h1.trans hys⟩;rw[←Go.Deep.add_add,hcell,hv]
theorem array5 {α:Type}{cs:Array α}(h:cs.size=5):∃c0 c1 c2 c3 c4,cs=#[c0,c1,c2,c3,c4]:=by
 obtain ⟨l⟩:=cs
 match l,h with
 | [c0,c1,c2,c3,c4],_=>exact ⟨c0,c1,c2,c3,c4,rfl⟩
theorem JP {r:Reach}{b0:Nat}{t:TypeId}{f0 f1 f2 f3 f4:Field}{v:Value}{d:DataW H}{p:List MemPlace}(hs:P.underlying t=some (.struct #[f0,f1,f2,f3,f4]))(hone:oneCellFields P #[f0,f1,f2,f3,f4]=true)(hC:P.cellsOf t=5)
  (hv:Value.okWide P w r b0 t v) (h:DataW.Trod enc P w base spare held t v d p) :
  ∃(v0 v1 v2 v3 v4:Value) (y0 y1 y2 y3 y4:DataW H×List MemPlace) (n:Nat),v=.agg #[v0,v1,v2,v3,v4]∧
   DataW.trod enc P w base spare held n f0.type [v0]=some y0∧DataW.trod enc P w base spare held n f1.type [v1]=some y1∧DataW.trod enc P w base spare held n f2.type [v2]=some y2∧DataW.trod enc P w base spare held n f3.type [v3]=some y3∧DataW.trod enc P w base spare held n f4.type [v4]=some y4:=by
 obtain ⟨cs,rfl,hsz⟩:=okWide_struct hs hv;obtain ⟨c0,c1,c2,c3,c4,rfl⟩:=array5 (hsz.trans hC);obtain ⟨fuel,hf⟩:=h;obtain ⟨xs,n,_,_,_,hlen,hk⟩:=DataW.trod_struct hs hf;obtain ⟨o0,k0⟩:=hone_of hone 0 f0 rfl;obtain ⟨o1,k1⟩:=hone_of hone 1 f1 rfl;obtain ⟨o2,k2⟩:=hone_of hone 2 f2 rfl;obtain ⟨o3,k3⟩:=hone_of hone 3 f3 rfl;obtain ⟨o4,k4⟩:=hone_of hone 4 f4 rfl
 match xs,hlen with
 | [y0,y1,y2,y3,y4],_=>
  have h0:=hk 0 f0 rfl;have h1:=hk 1 f1 rfl;have h2:=hk 2 f2 rfl;have h3:=hk 3 f3 rfl;have h4:=hk 4 f4 rfl;exact ⟨c0,c1,c2,c3,c4,y0,y1,y2,y3,y4,n,rfl,by simpa [Value.cells,o0,k0] using h0,by simpa [Value.cells,o1,k1] using h1,by simpa [Value.cells,o2,k2] using h2,by simpa [Value.cells,o3,k3] using h3,by simpa [Value.cells,o4,k4] using h4⟩
end
theorem mY {α β:Type}(f:α→List β)(K:Nat)(hK:0<K)(hf:∀a,(f a).length=K):∀(l:List α) (j:Nat),(l.flatMap f)[j]?=(l[j / K]?).bind fun a=>(f a)[j%K]?
 | [],j=>by simp
 | a::l,j=>by
  rw[List.flatMap_cons];by_cases h:j<K
  ·rw[List.getElem?_append_left (by rw[hf];exact h),Nat.div_eq_of_lt h,Nat.mod_eq_of_lt h];rfl
  ·obtain ⟨i,rfl⟩:∃i,j=i+K:=⟨j-K,by omega⟩;rw[List.getElem?_append_right (by rw[hf];omega),hf,Nat.add_sub_cancel,mY f K hK hf l i,Nat.add_div_right i hK,Nat.add_mod_right];rfl
theorem vN {α β:Type}(f:α→List β)(K:Nat)(hf:∀a,(f a).length=K):∀l:List α,(l.flatMap f).length=K*l.length
 | []=>by simp
 | a::l=>by rw[List.flatMap_cons,List.length_append,hf,vN f K hf l,List.length_cons,Nat.mul_succ,Nat.add_comm]
theorem I0 {w:World}{x:Addr}{len cap K:Nat}{f:Nat→List Value}{g:Nat→List AV}(hK:0<K)(hl:len≤cap)(hf:∀i,(f i).length=K)(hg:∀i,(g i).length=K)(h0:0<len→∃z,(f 0)[0]?=some (.int .i64 z))
  (hc:∀i,i<len→∀d,d<K→∃v y,(f i)[d]?=some v∧(g i)[d]?=some y∧w.cell? (x.add (i*K+d))=some v∧v.oneCell'=true∧jS w (fun k _=>k<w.heap.size) v y):jS w (fun k _=>k<w.heap.size) (.slice (some x) len cap) (.vec len ((List.range len).flatMap g)):=by
 by_cases hn:len=0
 ·subst hn;exact .vO _ _
 ·have hrg:∀j,(List.range len)[j]?=if j<len then some j else none:=fun j=>by
   by_cases h:j<len
   ·rw[if_pos h,List.getElem?_range h]
   ·rw[if_neg h,List.getElem?_eq_none t74]
  have hr:∀j,((List.range len).flatMap f)[j]?=if j / K<len then (f (j / K))[j%K]? else none:=fun j=>by rw[mY f K hK hf,hrg];split<;>rfl
  have hr2:∀j,((List.range len).flatMap g)[j]?=if j / K<len then (g (j / K))[j%K]? else none:=fun j=>by rw[mY g K hK hg,hrg];split<;>rfl
  obtain ⟨z,hz⟩:=h0 (by omega);obtain ⟨v,y,e1,_,c0,_⟩:=hc 0 (by omega) 0 hK;rw[hz]at e1;cases e1;rw[Nat.zero_mul]at c0;obtain ⟨b,o,s⟩:=x;have hs:s=none:=by
   cases s with
   | none=>rfl
   | some k=>
    simp only[Addr.add,if_true,World.cell?]at c0;split at c0<;>simp at c0
  subst hs;have hb:b<w.heap.size:=by
   simp only[Addr.add,if_true,World.cell?]at c0;split at c0
   ·rename_i hh;exact (Array.getElem?_eq_some_iff.1 hh).1
   ·cases c0
  refine .vec b o len cap _ ((List.range len).flatMap f) (fun _ _=>hb) hl (by rw[vN f K hf,vN g K hg]) (fun j v hv=>?_) (fun j v y hv hy=>?_)
  ·rw[hr]at hv;split at hv
   ·rename_i hj;obtain ⟨v',y',e1,e2,e3,e4,e5⟩:=hc (j / K) hj (j%K) (Nat.mod_lt _ hK);rw[e1]at hv;cases hv;rw[WideShapes.add_plain,Nat.div_add_mod']at e3;exact ⟨e3,e4⟩
   ·cases hv
  ·rw[hr]at hv;rw[hr2]at hy;split at hv
   ·rename_i hj;obtain ⟨v',y',e1,e2,e3,e4,e5⟩:=hc (j / K) hj (j%K) (Nat.mod_lt _ hK);rw[if_pos hj]at hy;rw[e1]at hv;rw[e2]at hy;cases hv;cases hy;exact e5
   ·cases hv
section
variable {H:Type}{enc:TypeId×Value→H}{W:World}
variable {v:Value}
theorem BM {n:Nat}{y:DataW H×List MemPlace}(h:DataW.trod enc Tryz.prog W 0 (fun _=>true) true n 51 [v]=some y):∃l:List (Int×Int),jS W (fun k _=>k<W.heap.size) v (.vec l.length (j6 l))∧v.oneCell'=true∧l.length≤maxLen:=by
 rcases vM Tryz.underlying51 Tryz.underlying55 (by kernel_rfl) (by kernel_rfl) h with h1 | ⟨a,len,cap,h1,hl,hm,hi⟩
 ·cases h1;exact ⟨[],.vO _ _,rfl,Nat.zero_le _⟩
 ·cases h1;have hz:∀i,i<len→∃z:Int×Int,W.cell? (a.add (i*2))=some (.int .i64 z.1)∧W.cell? (a.add (i*2+1))=some (.int .i64 z.2):=fun i him=>by obtain ⟨k,hf⟩:=hi i him;obtain ⟨u0,y0,c0,t0⟩:=hf 0 _ rfl;obtain ⟨u1,y1,c1,t1⟩:=hf 1 _ rfl;obtain ⟨z0,e0,_⟩:=DataW.trod_int Tryz.underlying3 t0;obtain ⟨z1,e1,_⟩:=DataW.trod_int Tryz.underlying3 t1;cases e0;cases e1;exact ⟨(z0,z1),c0,c1⟩
  obtain ⟨g,hg⟩:∃g:Nat→Int×Int,∀i,i<len→W.cell? (a.add (i*2))=some (.int .i64 (g i).1)∧W.cell? (a.add (i*2+1))=some (.int .i64 (g i).2):=by refine ⟨fun i=>if h:i<len then Classical.choose (hz i h) else (0,0),fun i hi=>?_⟩;simp only[hi,dif_pos];exact Classical.choose_spec (hz i hi)
  refine ⟨(List.range len).map g,?_,rfl,by simp only[List.length_map,List.length_range];omega⟩;have key:=I0 (w:=W) (x:=a) (len:=len) (cap:=cap) (K:=2) (f:=fun i=>[.int .i64 (g i).1,.int .i64 (g i).2]) (g:=fun i=>O2 (g i)) (by omega) hl (fun _=>rfl) (fun _=>rfl) (fun _=>⟨_,rfl⟩) fun i hi d hd=>by
   obtain ⟨c0,c1⟩:=hg i hi
   match d,hd with
   | 0,_=>exact ⟨_,_,rfl,rfl,c0,rfl,.int _ _⟩
   | 1,_=>exact ⟨_,_,rfl,rfl,c1,rfl,.int _ _⟩
  unfold j6;rw[List.flatMap_map,List.length_map,List.length_range];exact key
theorem BN {n:Nat}{y:DataW H×List MemPlace}(h:DataW.trod enc Tryz.prog W 0 (fun _=>true) true n 37 [v]=some y):∃l:List Ru,jS W (fun k _=>k<W.heap.size) v (.vec l.length (encRus l))∧v.oneCell'=true∧l.length≤maxLen∧∀r∈l,r.items.length≤maxLen:=by
 rcases vM Tryz.underlying37 Tryz.underlying53 (by kernel_rfl) (by kernel_rfl) h with h1 | ⟨a,len,cap,h1,hl,hm,hi⟩
 ·cases h1;exact ⟨[],.vO _ _,rfl,Nat.zero_le _,fun r hr=>by cases hr⟩
 ·cases h1;have hz:∀i,i<len→∃z:Ru×Value,W.cell? (a.add (i*3))=some (.int .i64 z.1.inst)∧W.cell? (a.add (i*3+1))=some (.bool z.1.op')∧W.cell? (a.add (i*3+2))=some z.2∧jS W (fun k _=>k<W.heap.size) z.2 (.vec z.1.items.length (j6 z.1.items))∧z.2.oneCell'=true∧z.1.items.length≤maxLen:=fun i him=>by obtain ⟨k,hf⟩:=hi i him;obtain ⟨u0,y0,c0,t0⟩:=hf 0 _ rfl;obtain ⟨u1,y1,c1,t1⟩:=hf 1 _ rfl;obtain ⟨u2,y2,c2,t2⟩:=hf 2 _ rfl;obtain ⟨z0,e0,_⟩:=DataW.trod_int Tryz.underlying3 t0;obtain ⟨z1,e1,_⟩:=DataW.trod_bool Tryz.underlying4 t1;cases e0;cases e1;obtain ⟨l,q1,q2,q3⟩:=BM t2;exact ⟨(⟨z0,z1,l⟩,u2),c0,c1,c2,q1,q2,q3⟩
  obtain ⟨g,hg⟩:∃g:Nat→Ru×Value,∀i,i<len→W.cell? (a.add (i*3))=some (.int .i64 (g i).1.inst)∧W.cell? (a.add (i*3+1))=some (.bool (g i).1.op')∧W.cell? (a.add (i*3+2))=some (g i).2∧jS W (fun k _=>k<W.heap.size) (g i).2 (.vec (g i).1.items.length (j6 (g i).1.items))∧(g i).2.oneCell'=true∧(g i).1.items.length≤maxLen:=by refine ⟨fun i=>if h:i<len then Classical.choose (hz i h) else (g7,.nilFunc),fun i hi=>?_⟩;simp only[hi,dif_pos];exact Classical.choose_spec (hz i hi)
  refine ⟨(List.range len).map fun i=>(g i).1,?_,rfl,by simp only[List.length_map,List.length_range];omega,fun r hr=>?_⟩
  ·have key:=I0 (w:=W) (x:=a) (len:=len) (cap:=cap) (K:=3) (f:=fun i=>[.int .i64 (g i).1.inst,.bool (g i).1.op',(g i).2]) (g:=fun i=>O3 (g i).1) (by omega) hl (fun _=>rfl) (fun _=>rfl) (fun _=>⟨_,rfl⟩) fun i hi d hd=>by
    obtain ⟨c0,c1,c2,q1,q2,q3⟩:=hg i hi
    match d,hd with
    | 0,_=>exact ⟨_,_,rfl,rfl,c0,rfl,.int _ _⟩
    | 1,_=>exact ⟨_,_,rfl,rfl,c1,rfl,.bool _⟩
    | 2,_=>exact ⟨_,_,rfl,rfl,c2,q2,q1⟩
   unfold encRus;rw[List.flatMap_map,List.length_map,List.length_range];exact key
  ·obtain ⟨i,hi,rfl⟩:=List.mem_map.1 hr;exact (hg i (List.mem_range.1 hi)).2.2.2.2.2
theorem open_cert {base:Nat}{d:DataW H}{p:List MemPlace}(hv:Value.okWide Tryz.prog W .any base 39 v)(h:DataW.Trod enc Tryz.prog W 0 (fun _=>true) true 39 v d p) :
  ∃(lock xi xp xd:Int) (l:List Ru),Rel [] (fun _=>(0,0)) W v (.agg [.int .i64 lock,.int .i64 xi,.int .i64 xp,.int .i64 xd,.vec l.length (encRus l)])∧l.length≤maxLen∧∀r∈l,r.items.length≤maxLen:=by
 obtain ⟨v0,v1,v2,v3,v4,y0,y1,y2,y3,y4,n,rfl,t0,t1,t2,t3,t4⟩:=JP Tryz.underlying39 (by kernel_rfl) (by kernel_rfl) hv h;obtain ⟨z0,e0,_⟩:=DataW.trod_int Tryz.underlying3 t0;obtain ⟨z1,e1,_⟩:=DataW.trod_int Tryz.underlying3 t1;obtain ⟨z2,e2,_⟩:=DataW.trod_int Tryz.underlying3 t2;obtain ⟨z3,e3,_⟩:=DataW.trod_int Tryz.underlying3 t3;cases e0;cases e1;cases e2;cases e3;obtain ⟨l,q1,q2,q3,q4⟩:=BN t4;refine ⟨z0,z1,z2,z3,l,?_,q3,q4⟩;refine .agg _ _ rfl (fun j u hu=>?_) (fun j u y hu hy=>?_)
 ·match j with
  | 0=>simp at hu;subst hu;rfl
  | 1=>simp at hu;subst hu;rfl
  | 2=>simp at hu;subst hu;rfl
  | 3=>simp at hu;subst hu;rfl
  | 4=>simp at hu;subst hu;exact q2
  | j+5=>simp at hu
 ·match j with
  | 0=>simp at hu hy;subst hu hy;exact .int_of _ _
  | 1=>simp at hu hy;subst hu hy;exact .int_of _ _
  | 2=>simp at hu hy;subst hu hy;exact .int_of _ _
  | 3=>simp at hu hy;subst hu hy;exact .int_of _ _
  | 4=>
   simp at hu hy;subst hu hy;exact .pure (q1.mono fun k j hk=>⟨rfl,hk,fun β b hb=>by simp at hb⟩)
  | j+5=>simp at hu
end
end Go.Proofs.YtapdldekgbbomaaGreatDoor
end
section
namespace Go.Proofs.YtapdldekgbbomaaGreatDoor
open Go.Ab Go.ChangeShapes Go.WideShapes Go.ChangeAt Go.RowKit
theorem own:ownKnob Tryz.prog.godebug=none:=by kernel_rfl
theorem laidOut:laidOutB Tryz.prog=true:=by kernel_rfl
theorem QG:Tryz.prog.globalNamed "lockorder/grammar.calling" = some 0:=by kernel_rfl
theorem QH:(Tryz.prog.globals[0]?).map (·.type)=some 166:=by kernel_rfl
abbrev laid1:List (String×DataW Unit):=[("lockorder/grammar.calling",Rows.laid_lockorder_grammar_calling)]
theorem door_met (os:Os)(args:Array Value):laidMetH Tryz.prog laid1 ((World.doorLaid Tryz.prog 400 os).forCall (fun _ _=>0) ⟨#[],args,[]⟩).memory:=
 laidMetH_of_parts3 (fuel:=8) (laidMet_of_run' 8 (by kernel_rfl) (by kernel_rfl)) (by kernel_rfl) (by kernel_rfl)
def xB:List Bool:=[false,false,true,false,false,false,false,false,false]
theorem JQ {W:World}(h:laidMetH Tryz.prog laid1 W)(j:Nat)(b:Bool)(hj:xB[j]?=some b):W.cell? ⟨0,j,none⟩=some (.bool b):=by
 rw[MakeChecks.laidMetH_plain _ _ _ (by kernel_rfl)]at h;obtain ⟨ps,⟨g0,t0,cs0,f0,p0,q0,hg0,ht0,hv0,hd0,_,_⟩,_,_⟩:=h;obtain rfl:=Option.some.inj (QG.symm.trans hg0);obtain rfl:=Option.some.inj (QH.symm.trans ht0);rw[World.var?_cell hg0 hv0 j];obtain ⟨xs,m1,rfl,hx1,hlen,hn,hel⟩:=DataW.trod_array Tryz.underlying166 hd0;have c4:Tryz.prog.cellsOf 4=1:=by kernel_rfl
 have c166:Tryz.prog.cellsOf 166=9:=by kernel_rfl
 have hj9:j<9:=by have:=(List.getElem?_eq_some_iff.1 hj).1;simpa [xB] using this
 have hjx:j<xs.length:=by omega
 have h0:=hel j hj9;rw[c4,List.getElem?_eq_getElem hjx]at h0;obtain ⟨b',e1,e2⟩:=DataW.trod_bool Tryz.underlying4 h0;have hd:(xB.map fun b=>(DataW.lit (.bool b):DataW Unit))=xs.map (·.1):=by simp only[Prod.mk.injEq,Rows.laid_lockorder_grammar_calling,DataW.agg.injEq]at hx1;exact hx1.1
 have hb:some (DataW.lit (.bool b):DataW Unit)=some (.lit (.bool b')):=by have h1:=congrArg (·[j]?) hd;simp only[List.getElem?_map,hj,Option.map_some,List.getElem?_eq_getElem hjx,e2]at h1;exact h1
 have eb:b=b':=by have:=Option.some.inj hb;simpa using this
 subst eb;rw[Nat.mul_one]at e1;rw[c166]at hlen;have hlt:j<cs0.toList.length:=by omega
 rw[List.drop_eq_getElem_cons hlt,List.take_succ_cons,List.take_zero]at e1;rw[←Array.getElem?_toList,List.getElem?_eq_getElem hlt];exact congrArg some (List.cons.inj e1).1
theorem prel_glob {W:World}(h:laidMetH Tryz.prog laid1 W)(φ:Map)(g:Nat):jS W (dJ [] φ W) (.pointer (some ⟨g,0,none⟩)) (cfg.glob g):=by
 rw[lP];show jS W (dJ [] φ W) _ (match Nat.beq g 0 with | true=>_ | false=>_);split
 ·rename_i hg;have hg0:g=0:=Nat.eq_of_beq_eq_true hg;subst hg0;have hb:0<W.heap.size:=by
   have c0:=JQ h 0 false rfl;simp only[World.cell?]at c0;split at c0
   ·rename_i hh;exact (Array.getElem?_eq_some_iff.1 hh).1
   ·cases c0
  refine .jR 0 0 0 _ (xB.map Value.bool) (fun j hj=>⟨hb,fun β b hb=>by simp at hb⟩) (by simp[xB]) (fun j v hv=>?_) (fun j v x hv hx=>?_)
  ·rw[List.getElem?_map]at hv;obtain ⟨b,hb,rfl⟩:=Option.map_eq_some_iff.1 hv;rw[Nat.zero_add];exact ⟨JQ h j b hb,rfl⟩
  ·rw[List.getElem?_map]at hv;obtain ⟨b,hb,rfl⟩:=Option.map_eq_some_iff.1 hv;have hx':(xB.map AV.bool)[j]?=some x:=hx;rw[List.getElem?_map,hb]at hx';cases hx';exact .bool _
 ·exact .any _
end Go.Proofs.YtapdldekgbbomaaGreatDoor
end
