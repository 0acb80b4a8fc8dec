/- My own texts, put together by a program of mine. -/
import Derived.Test.YtonbocmibeikmaaGreatIX2
set_option linter.unusedSimpArgs false
set_option linter.unusedVariables false
set_option maxRecDepth 100000
set_option maxHeartbeats 4000000
section
namespace Go.Proofs.YtonbocmibeikmaaGreat
open Go.Ab Go.Un
structure cE (β:Nat)(L:List Int)(n:Nat)(S:Int→c6):Prop where
  get:∀I,(S I)[β]?=some ⟨0,false,118,2,[.vec L.length (g8 L),.int .i64 I],0⟩
  set:∀I k,(S I).set β ⟨0,false,118,2,[.vec L.length (g8 L),.int .i64 k],0⟩=S k
  len:∀I,(S I).length=n
section
variable {β n:Nat}{L:List Int}{S:Int→c6}
theorem cE.lt (F:cE β L n S):β<n:=by have h:=F.get 0;have:=(List.getElem?_eq_some_iff.1 h).1;rw[F.len]at this;exact this
theorem cE.Nh (F:cE β L n S)(I:Int)(l:c6):(S I++l)[β]?=some ⟨0,false,118,2,[.vec L.length (g8 L),.int .i64 I],0⟩:=by rw[List.getElem?_append_left (by rw[F.len];exact F.lt)];exact F.get I
theorem cE.Ni (F:cE β L n S)(I k:Int)(l:c6):(S I++l).set β ⟨0,false,118,2,[.vec L.length (g8 L),.int .i64 k],0⟩=S k++l:=by rw[List.set_append_left _ _ (by rw[F.len];exact F.lt),F.set]
theorem cE.Nj (F:cE β L n S)(I:Int)(l:c6)(k:Nat):(S I++l)[n+k]?=l[k]?:=by rw[List.getElem?_append_right (by rw[F.len];omega),F.len,Nat.add_sub_cancel_left]
theorem cE.Nl (F:cE β L n S)(I:Int)(l:c6):(S I++l)[n]?=l[0]?:=by rw[List.getElem?_append_right (by rw[F.len];omega),F.len,Nat.sub_self]
theorem cE.eY (F:cE β L n S)(I:Int)(l:c6)(k:Nat)(b:Blk):(S I++l).set (n+k) b=S I++l.set k b:=by rw[List.set_append_right _ _ (by rw[F.len];omega),F.len,Nat.add_sub_cancel_left]
theorem cE.put0 (F:cE β L n S)(I:Int)(l:c6)(b:Blk):(S I++l).set n b=S I++l.set 0 b:=by rw[List.set_append_right _ _ (by rw[F.len];omega),F.len,Nat.sub_self]
theorem cE.app (F:cE β L n S)(l:c6):cE β L (n+l.length) fun I=>S I++l:=
  ⟨fun I=>F.Nh I l,fun I k=>F.Ni I k l,fun I=>by simp only[List.length_append,F.len]⟩
theorem cE.lU (F:cE β L n S)(I J:Int):aI (S I) (S J):=by
  intro γ b hb;by_cases h:γ=β
  · subst h
    rw[F.get]at hb;cases hb;refine .inr fun x hx=>?_;replace hx:=s8z hx;rcases hx with rfl | rfl
    · exact .vec _ _
    · exact .int _ _
  · rw[←F.set I J,List.getElem?_set_ne (Ne.symm h)]at hb
    exact .inl hb
end
theorem yZ {l:List Int}{i:Nat}(h:i<l.length):List.take 1 (List.drop i (g8 l))=[AV.int .i64 (l.getD i 0)]:=by unfold g8;rw[←List.map_drop,←List.map_take,List.drop_eq_getElem_cons h,List.take_succ_cons,List.take_zero];simp[List.getD,h]
def bA (l:List BA):List AV:=l.map AV.str
theorem bE (l:List BA):(bA l).length=l.length:=List.length_map _
theorem tD {l:List BA}{i:Nat}(h:i<l.length):List.take 1 (List.drop i (bA l))=[AV.str (l.getD i ByteArray.empty)]:=by unfold bA;rw[←List.map_drop,←List.map_take,List.drop_eq_getElem_cons h,List.take_succ_cons,List.take_zero];simp[List.getD,h]
theorem eG:((maxLen:Nat):Int)=9223372036854775807:=rfl
theorem M7 {α:Type}{l:List α}:(List.replicate 1 l).flatten=l:=by simp
theorem T7 {α:Type}{l:List α}:(List.replicate 2 l).flatten=l++l:=by simp[List.replicate_succ]
theorem AQ {α:Type}{l:List α}:(List.replicate 0 l).flatten=[]:=rfl
theorem AR:(0≤maxLen)=True:=by simp
theorem D0:(1≤maxLen)=True:=by simp;decide
theorem max2:(2≤maxLen)=True:=by simp;decide
attribute [local go_sem] l8 bE Int.natCast_nonneg Int.natCast_inj List.length_map
variable {h:c6}
theorem uP (x n:Int)(hn:0<n)(hm:n≤4611686018427387904):CB 27 [.int .i64 x,.int .i64 n] h (.int .i64 (within x n)):=by refine CallA.body (Q:=fun y'=>y'=.int .i64 (within x n)) z8 fn27 rfl ?_;simp only[ntm27,List.length_cons,List.length_nil,Nat.reduceAdd,Nat.reduceSub,List.replicate,List.cons_append,List.nil_append];refine c11z ?_;refine o4.pre 1 t75 ?_;refine c9z ?_;refine c11z ?_;refine o4.pre 8 t75 ?_;refine c77z ?_;refine Ends.mk (by simp only[res27,yD,lE,mX];first | rfl | (simp +decide (maxSteps:=2000000) (disch:=omega) only [go_sem,Nat.reduceBEq,Nat.reduceAdd,Nat.reduceSub,Nat.reduceLeDiff,Nat.reduceMul,reduceIte,reduceCtorEq,Int.reduceNeg,Int.reduceToNat,Nat.reduceLT,Int.reduceLE,Int.reduceLT,Int.reduceAdd,Int.reduceSub,Int.reduceMul,wrap64 (mF hn hm).1 (mF hn hm).2,show n≠0 from by omega,show (n=0)=False from by simp;omega];rfl)) ?_;exact ⟨[],_,(List.append_nil _).symm,t42,by rfl⟩
section
attribute [local go_sem] vG fA
theorem c_cut (L:List Int)(n:Nat)(hL:L.length<9223372036854775807):CB 73 [.vec L.length (g8 L),.int .i64 (n:Int)] h (.vec (L.take n).length (g8 (L.take n))):=by
  refine .bz Tryz.f73 13 ?_;refine c108z ?_;refine u2z ?_ ?_
  ·intro e1 qe1;refine c28z ?_;exact ⟨[],_,(List.append_nil _).symm,t42,t157⟩
  intro e1 qe1;refine .sk ?_;refine c28z ?_;exact ⟨[],_,(List.append_nil _).symm,t42,t157⟩
end
def AS:eI:=⟨[[],[0],[0,1],[0,1,2],[],[4],[4,5],[4,5,6],[4,5,6,7],[0,1,2,3,4,5,6,7,8]],[false,false,false,false,false,false,false,false,false,false]⟩
theorem IN (i:Nat):AS.isE i=[false,false,false,false,false,false,false,false,false,false].getD i false:=rfl
def AT:eI:=⟨[[],[0],[0,1],[0,1,2],[],[4],[4,5],[4,5,6],[4,5,6,7],[0,1,2,3,4,5,6,7,8],[0,1,2,3,4,5,6,7,8,9],[],[0,1,2,3,4,5,6,7,8,9,10,11],[0,1,2,3,4,5,6,7,8,9,10,11,12]],[false,false,false,false,false,false,false,false,false,false,false,false,false,false]⟩
theorem M8 (i:Nat):AT.isE i=[false,false,false,false,false,false,false,false,false,false,false,false,false,false].getD i false:=rfl
variable {N:Nat}
theorem M9 {β:Nat}{L:List Int}{S:Int→c6}(F:cE β L N S)(I n:Int)(hI:OkI L I)(hL:L.length<4611686018427387904)(hn:0<n)(hm:n≤4611686018427387904):CH 75 [.ptr β 0 0,.int .i64 n] (S I) (.int .i64 (c5 L I n).1) (S (c5 L I n).2):=by
  refine CallA.HI z8 fn75 rfl ?_;simp only[ntm75,List.length_cons,List.length_nil,Nat.reduceAdd,Nat.reduceSub,List.replicate,List.cons_append,List.nil_append];have hI0:=hI.1;have hI1:=hI.2;refine c11z ?_;refine o4.pre 1 t53 ?_;refine c9z ?_;refine c9.seq ?_;refine c9.seq ?_;refine c9.PU z8 AS (by kernel_rfl) (by kernel_rfl) ?_;refine kF.pre 10 (by simp (maxSteps:=2000000) (disch:=omega) only [go_sem,Nat.reduceBEq,Nat.reduceAdd,Nat.reduceSub,Nat.reduceLeDiff,Nat.reduceMul,reduceIte,reduceCtorEq,Int.reduceNeg,Int.reduceToNat,Nat.reduceLT,Int.reduceLE,Int.reduceLT,Int.reduceAdd,Int.reduceSub,Int.reduceMul,F.get,F.set,F.len,wrap64,yZ,Int.add_sub_cancel,if_pos,if_neg,IN];rfl) ?_;show _;change c9 _ _ _ _ _;refine c9.split 14 rfl (fun e1=>?_) (fun e1=>?_)
  · try simp only[e1]
    have qe1:=e1;try replace qe1:=s10z qe1
    refine c284z ?_;refine o4.pre 1 t53 ?_;refine c77z ?_;refine Ends.mk (by simp only[Aa,yD,lE,mX];first | rfl | (simp (maxSteps:=2000000) (disch:=omega) only [go_sem,Nat.reduceBEq,Nat.reduceAdd,Nat.reduceSub,Nat.reduceLeDiff,Nat.reduceMul,reduceIte,reduceCtorEq,Int.reduceNeg,Int.reduceToNat,Nat.reduceLT,Int.reduceLE,Int.reduceLT,Int.reduceAdd,Int.reduceSub,Int.reduceMul,F.get,F.set,F.len,wrap64,yZ,Int.add_sub_cancel,if_pos,if_neg];rfl)) ?_;exact ⟨_,[],_,(List.append_nil _).symm,t43,F.lU _ _,by first | rfl | skip,t159⟩
  · try simp only[e1]
    have qe1:=e1;try replace qe1:=s10z qe1
    refine c202z ?_;refine o4.pre 8 t53 ?_;refine c9z ?_;refine c9.seq ?_;refine c9.PU z8 AT (by kernel_rfl) (by kernel_rfl) ?_;refine kF.pre 12 t86 ?_;refine kF.call rfl rfl rfl hb27 (uP _ _ (by omega) (by omega)) ?_;refine kF.pre 1 t86 ?_;show _;change c9 _ _ _ _ _;refine c9.ret ?_;refine Ends.mk (by simp only[Aa,yD,lE,mX];first | rfl | (simp (maxSteps:=2000000) (disch:=omega) only [go_sem,Nat.reduceBEq,Nat.reduceAdd,Nat.reduceSub,Nat.reduceLeDiff,Nat.reduceMul,reduceIte,reduceCtorEq,Int.reduceNeg,Int.reduceToNat,Nat.reduceLT,Int.reduceLE,Int.reduceLT,Int.reduceAdd,Int.reduceSub,Int.reduceMul,F.get,F.set,F.len,wrap64,yZ,Int.add_sub_cancel,if_pos,if_neg,M8];rfl)) ?_;exact ⟨_,[],_,(List.append_nil _).symm,t43,F.lU _ _,by first | rfl | skip,t159⟩
theorem nP {β:Nat}{L:List Int}{S:Int→c6}(F:cE β L N S)(l:c6)(I n:Int)(hI:OkI L I)(hL:L.length<4611686018427387904)(hn:0<n)(hm:n≤4611686018427387904):CH 75 [.ptr β 0 0,.int .i64 n] (S I++l) (.int .i64 (c5 L I n).1) (S (c5 L I n).2++l):=M9 (F.app l) I n hI hL hn hm
theorem num_pos {L:List Int}{I:Int}(h:(c5 L I 8).1=1):AO L I=c5 L (c5 L I 8).2 4611686018427387904:=if_pos h
theorem num_neg {L:List Int}{I:Int}(h:¬(c5 L I 8).1=1):AO L I=c5 L (c5 L I 8).2 4:=if_neg h
theorem RJ {β:Nat}{L:List Int}{S:Int→c6}(F:cE β L N S)(I:Int)(hI:OkI L I)(hL:L.length<4611686018427387904):CH 178 [.ptr β 0 0] (S I) (.int .i64 (AO L I).1) (S (AO L I).2):=by
  refine CallA.HI z8 fn178 rfl ?_;simp only[ntm178,List.length_cons,List.length_nil,Nat.reduceAdd,Nat.reduceSub,List.replicate,List.cons_append,List.nil_append];have h8:=n9 hI (n:=8) (by omega);refine c11z ?_;refine o4.pre 1 t23 ?_;refine c9z ?_;refine c151z ?_;refine o4.pre 1 t23 ?_;refine o4.u9 rfl rfl rfl xZ (M9 F I 8 hI hL (by omega) (by omega)) ?_;refine o4.pre 1 t23 ?_;refine c9z ?_;refine c9.split 5 rfl (fun e1=>?_) (fun e1=>?_)
  · try simp only[e1]
    have qe1:=e1;try replace qe1:=s10z qe1
    refine c284z ?_;refine o4.pre 1 t23 ?_;refine o4.u9 rfl rfl rfl xZ (M9 F _ _ h8.2.2 hL (by omega) (by omega)) ?_;refine o4.pre 1 t23 ?_;refine c77z ?_;refine Ends.mk t89 ?_;exact ⟨_,[],_,(List.append_nil _).symm,t43,F.lU _ _,by first | rfl | skip,t179⟩
  · try simp only[e1]
    have qe1:=e1;try replace qe1:=s10z qe1
    refine c202z ?_;refine o4.pre 1 t23 ?_;refine o4.u9 rfl rfl rfl xZ (M9 F _ _ h8.2.2 hL (by omega) (by omega)) ?_;refine o4.pre 1 t23 ?_;refine c77z ?_;refine Ends.mk t89 ?_;exact ⟨_,[],_,(List.append_nil _).symm,t43,F.lU _ _,by first | rfl | skip,t179⟩
theorem qV {β:Nat}{L:List Int}{S:Int→c6}(F:cE β L N S)(l:c6)(I:Int)(hI:OkI L I)(hL:L.length<4611686018427387904):CH 178 [.ptr β 0 0] (S I++l) (.int .i64 (AO L I).1) (S (AO L I).2++l):=RJ (F.app l) I hI hL
variable {a:Ex}
theorem RK {l:List AV}:List.take 4 (w8 a++l)=w8 a:=List.take_left' (o7 a)
theorem RL {l:List AV}:List.drop 8 (w8 a++l)=List.drop 4 l:=by rw[List.drop_append,o7,List.drop_of_length_le (by rw[o7];omega)];rfl
theorem zA {α γ:Type}{f:α→Option γ}{l l2:List α}{r r2:List γ}(h:o6 f l=some r)(h2:o6 f l2=some r2):o6 f (l++l2)=some (r++r2):=by
  induction l generalizing r with
  | nil=>cases h;exact h2
  | cons x l ih=>
    simp only[o6,List.cons_append]at h ⊢;cases hx:f x with
    | none=>simp only[hx]at h;cases h
    | some y=>
      simp only[hx]at h;cases hl:o6 f l with
      | none=>simp only[hl]at h;cases h
      | some ys=>
        simp only[hl,Option.some.injEq]at h;subst h;simp only[ih hl,List.cons_append]
theorem EJ {n d:Nat}(a:Ex):o6 (iT n h (d+1)) (w8 a)=some (w8 a):=by rw[cM];rfl
theorem IP {n d:Nat}(a b:Ex):o6 (iT n h (d+1)) (w8 a++w8 b)=some (w8 a++w8 b):=zA (EJ a) (EJ b)
theorem iF:List.take 4 (w8 a)=w8 a:=List.take_of_length_le (by rw[o7];omega)
theorem IQ {b:Ex}:List.take 8 (w8 a++w8 b)=w8 a++w8 b:=List.take_of_length_le (by simp[o7])
theorem T8 {b:Ex}:(w8 a++w8 b).length=8:=by simp[o7]
theorem c_expr0 {β:Nat}{L:List Int}{S:Int→c6}(F:cE β L N S)(I:Int)(hI:OkI L I)(hL:L.length<4611686018427387904)(names:List BA)(hN:names.length<1000):CH 158 [.ptr β 0 0,.vec names.length (bA names),.int .i64 0] (S I) (.agg (w8 (eP L names 0 I).1)) (S (eP L names 0 I).2):=by
  refine CallA.HI z8 fn158 rfl ?_;simp only[WR,List.length_cons,List.length_nil,Nat.reduceAdd,Nat.reduceSub,List.replicate,List.cons_append,List.nil_append];have h10:=n9 hI (n:=10) (by omega);have h2:=n9 h10.2.2 (n:=2) (by omega);refine c11z ?_;refine o4.pre 1 t4 ?_;refine c9z ?_;refine c11z ?_;refine o4.pre 1 t4 ?_;refine o4.u9 rfl rfl rfl xZ (nP F _ I 10 hI hL (by omega) (by omega)) ?_;refine o4.pre 1 t4 ?_;refine c9z ?_;refine c285z ?_;refine c11z ?_;refine o4.pre 3 t4 ?_;refine o4.split 13 rfl (fun e1=>?_) (fun e1=>?_)
  · try simp only[e1]
    have qe1:=e1;try replace qe1:=s10z qe1
    refine o4.pre 4 t4 ?_;refine c9z ?_;refine c9.A0 rfl ?_;refine c151z ?_;refine o4.pre 4 t4 ?_;refine o4.split 20 rfl (fun e2=>?_) (fun e2=>?_)
    · try simp only[e2]
      have qe2:=e2;try replace qe2:=s10z qe2
      refine o4.pre 1 t4 ?_;refine o4.u9 rfl rfl rfl xZ (nP F _ _ 2 h10.2.2 hL (by omega) (by omega)) ?_;refine o4.pre 2 t4 ?_;refine c9z ?_;refine c9.split 24 rfl (fun e3=>?_) (fun e3=>?_)
      · try simp only[e3]
        have qe3:=e3;try replace qe3:=s10z qe3
        refine c9.A0 rfl ?_;refine c9.seq ?_;have hn:=n9 h2.2.2 (n:=(names.length:Int)) (by omega);refine c9.region z8 ?_;refine o4.pre 4 t4 ?_;refine o4.u9 rfl rfl rfl xZ (nP F _ _ _ h2.2.2 hL (by omega) (by omega)) ?_;refine o4.pre 4 t4 ?_;refine c77z ?_;refine Ends.mk t39 ?_;exact ⟨S _,_,_,rfl,t43,F.lU _ _,t10,t63⟩
      · try simp only[e3]
        have qe3:=e3;try replace qe3:=s10z qe3
        refine c202z ?_;refine o4.pre 1 t4 ?_;refine o4.u9 rfl rfl rfl QQ (qV F _ _ t177 hL) ?_;refine o4.pre 2 t4 ?_;refine c77z ?_;refine Ends.mk t39 ?_;exact ⟨S _,_,_,rfl,t43,F.lU _ _,t10,t63⟩
    · try simp only[e2]
      have qe2:=e2;try replace qe2:=s10z qe2
      refine o4.pre 4 t4 ?_;refine c9z ?_;refine c202z ?_;refine o4.pre 1 t4 ?_;refine o4.u9 rfl rfl rfl QQ (qV F _ _ t177 hL) ?_;refine o4.pre 2 t4 ?_;refine c77z ?_;refine Ends.mk t39 ?_;exact ⟨S _,_,_,rfl,t43,F.lU _ _,t10,t63⟩
  · exfalso;first | cases e1 | (simp at e1)
theorem c_exprS {β:Nat}{L:List Int}{S:Int→c6}(F:cE β L N S)(I:Int)(hI:OkI L I)(hL:L.length<4611686018427387904)(names:List BA)(hN:names.length<1000)(d:Nat)(hd:d<1000)(ih:∀{N:Nat} {S:Int→c6} (F:cE β L N S) (I:Int),OkI L I→CH 158 [.ptr β 0 0,.vec names.length (bA names),.int .i64 (d:Int)] (S I) (.agg (w8 (eP L names d I).1)) (S (eP L names d I).2)):CH 158 [.ptr β 0 0,.vec names.length (bA names),.int .i64 ((d+1:Nat):Int)] (S I) (.agg (w8 (eP L names (d+1) I).1)) (S (eP L names (d+1) I).2):=by
  refine CallA.HI z8 fn158 rfl ?_;simp only[WR,List.length_cons,List.length_nil,Nat.reduceAdd,Nat.reduceSub,List.replicate,List.cons_append,List.nil_append];have h10:=n9 hI (n:=10) (by omega);have h2:=n9 h10.2.2 (n:=2) (by omega);have h13:=n9 h10.2.2 (n:=13) (by omega);have ht:0≤(c5 L I 10).1.tmod 2∧(c5 L I 10).1.tmod 2<2:=⟨Int.tmod_nonneg _ h10.1,Int.tmod_lt_of_pos _ (by omega)⟩;refine c11z ?_;refine o4.pre 1 t0 ?_;refine c9z ?_;refine c11z ?_;refine o4.pre 1 t0 ?_;refine o4.u9 rfl rfl rfl xZ (nP F _ I 10 hI hL (by omega) (by omega)) ?_;refine o4.pre 1 t0 ?_;refine c9z ?_;refine c285z ?_;refine c11z ?_;refine o4.pre 3 t0 ?_;refine o4.split 13 rfl (fun e1=>?_) (fun e1=>?_)
  · exfalso;first | (simp only[beq_iff_eq]at e1;omega) | (simp at e1)
  · try simp only[e1]
    have qe1:=e1;try replace qe1:=s10z qe1
    refine o4.pre 4 t0 ?_;refine c9z ?_;refine c9.split 10 rfl (fun e2=>?_) (fun e2=>?_)
    · try simp only[e2]
      have qe2:=e2;try replace qe2:=s10z qe2
      refine c9.A0 rfl ?_;refine c151z ?_;refine o4.pre 4 t0 ?_;refine o4.split 20 rfl (fun e3=>?_) (fun e3=>?_)
      · try simp only[e3]
        have qe3:=e3;try replace qe3:=s10z qe3
        refine o4.pre 1 t0 ?_;refine o4.u9 rfl rfl rfl xZ (nP F _ _ 2 h10.2.2 hL (by omega) (by omega)) ?_;refine o4.pre 2 t0 ?_;refine c9z ?_;refine c9.split 24 rfl (fun e4=>?_) (fun e4=>?_)
        · try simp only[e4]
          have qe4:=e4;try replace qe4:=s10z qe4
          refine c9.A0 rfl ?_;refine c9.seq ?_;have hn:=n9 h2.2.2 (n:=(names.length:Int)) (by omega);refine c9.region z8 ?_;refine o4.pre 4 t0 ?_;refine o4.u9 rfl rfl rfl xZ (nP F _ _ _ h2.2.2 hL (by omega) (by omega)) ?_;refine o4.pre 4 t0 ?_;refine c254z ?_;exact ⟨S _,_,_,rfl,t43,F.lU _ _,t10,t22⟩
        · try simp only[e4]
          have qe4:=e4;try replace qe4:=s10z qe4
          refine c202z ?_;refine o4.pre 1 t0 ?_;refine o4.u9 rfl rfl rfl QQ (qV F _ _ t177 hL) ?_;refine o4.pre 2 t0 ?_;refine c254z ?_;exact ⟨S _,_,_,rfl,t43,F.lU _ _,t10,t22⟩
      · try simp only[e3]
        have qe3:=e3;try replace qe3:=s10z qe3
        refine o4.pre 4 t0 ?_;refine c9z ?_;refine c202z ?_;refine o4.pre 1 t0 ?_;refine o4.u9 rfl rfl rfl QQ (qV F _ _ t177 hL) ?_;refine o4.pre 2 t0 ?_;refine c254z ?_;exact ⟨S _,_,_,rfl,t43,F.lU _ _,t10,t22⟩
    · try simp only[e2]
      have qe2:=e2;try replace qe2:=s10z qe2
      refine c9.DO rfl ?_;refine c11z ?_;refine o4.pre 3 t0 ?_;refine c9z ?_;refine c9.split 36 rfl (fun e5=>?_) (fun e5=>?_)
      · try simp only[e5]
        have qe5:=e5;try replace qe5:=s10z qe5
        refine c284z ?_;refine o4.pre 7 t0 ?_;refine o4.u9 rfl rfl rfl QP (ih (F.app _) _ h10.2.2) ?_;refine o4.pre 3 t0 ?_;refine c254z ?_;exact ⟨S _,_,_,rfl,t43,F.lU _ _,t10,t22⟩
      · try simp only[e5]
        have qe5:=e5;try replace qe5:=s10z qe5
        refine c202z ?_;refine o4.pre 1 t0 ?_;refine o4.u9 rfl rfl rfl xZ (nP F _ _ 13 h10.2.2 hL (by omega) (by omega)) ?_;refine o4.pre 5 t0 ?_;refine o4.u9 rfl rfl rfl QP (ih (F.app _) _ h13.2.2) ?_;refine o4.pre 4 t0 ?_;refine o4.u9 rfl rfl rfl QP (ih (F.app _) _ (pM h13.2.2).2) ?_;refine o4.pre 3 t0 ?_;refine c254z ?_;exact ⟨S _,_,_,rfl,t43,F.lU _ _,t10,t22⟩
theorem XD {β:Nat}{L:List Int}(hL:L.length<4611686018427387904)(names:List BA)(hN:names.length<1000):∀(d:Nat),d<1000→∀{N:Nat} {S:Int→c6} (F:cE β L N S) (I:Int),OkI L I→CH 158 [.ptr β 0 0,.vec names.length (bA names),.int .i64 (d:Int)] (S I) (.agg (w8 (eP L names d I).1)) (S (eP L names d I).2)
  | 0,_,_,_,F,I,hI=>c_expr0 F I hI hL names hN
  | d+1,hd,_,_,F,I,hI=>c_exprS F I hI hL names hN d (by omega) fun F I hI=>XD hL names hN d (by omega) F I hI
end Go.Proofs.YtonbocmibeikmaaGreat
end
section
namespace Go.Un
open Go.Ab
variable {c:UInt8}
theorem RM (h:isL c=true):isW c=true:=by simp[isW,h]
theorem isW_D (h:isD c=true):isW c=true:=by simp[isW,h]
theorem T9 (h:yA c=true):isW c=false:=by simp only[yA,Bool.or_eq_true,beq_iff_eq]at h;simp only[isW,isL,isD,Bool.or_eq_false_iff,Bool.and_eq_false_iff,decide_eq_false_iff_not];omega
theorem XE (h:isL c=true):isD c=false:=by simp only[isL,Bool.or_eq_true,Bool.and_eq_true,decide_eq_true_eq]at h;simp only[isD,Bool.and_eq_false_iff,decide_eq_false_iff_not];omega
theorem wP (h:c∈QT):yA c=false∧isL c=false∧isD c=false:=by simp only[QT,List.mem_cons,List.not_mem_nil,or_false]at h;rcases h with rfl | rfl | rfl | rfl | rfl | rfl | rfl | rfl | rfl | rfl | rfl | rfl | rfl | rfl | rfl | rfl | rfl<;>decide
theorem wQ {d:UInt8}(h:(c,d)∈EC):yA c=false∧isL c=false∧isD c=false:=by simp only[EC,List.mem_cons,List.not_mem_nil,or_false,Prod.mk.injEq]at h;rcases h with ⟨rfl,_⟩ | ⟨rfl,_⟩ | ⟨rfl,_⟩ | ⟨rfl,_⟩ | ⟨rfl,_⟩ | ⟨rfl,_⟩<;>decide
variable {s:Bs}{n:Nat}
theorem LX.sp_inv (h:LX (c::s) n)(hc:yA c=true):LX s n:=by
 have hw:=T9 hc;generalize e:c::s=t at h;cases h with
 | nil=>cases e
 | space _ h=>cases e;exact h
 | word hc' _ _ _ _=>cases e;rw[RM hc']at hw;cases hw
 | num hc' _ _ _ _=>cases e;rw[isW_D hc']at hw;cases hw
 | one hc' _ _=>cases e;rw[(wP hc').1]at hc;cases hc
 | two hc' _=>cases e;rw[(wQ hc').1]at hc;cases hc
theorem LX.RN (h:LX (c::s) n)(hc:isL c=true):∃w r m,s=w++r∧(∀d∈w,isW d=true)∧w.length<16∧NW r∧n=m+1∧LX r m:=by
 generalize e:c::s=t at h;cases h with
 | nil=>cases e
 | space hc' h=>cases e;have:=T9 hc';rw[RM hc]at this;cases this
 | word hc' h1 h2 h3 h4=>cases e;exact ⟨_,_,_,rfl,h1,h2,h3,rfl,h4⟩
 | num hc' _ _ _ _=>cases e;rw[XE hc]at hc';cases hc'
 | one hc' _ _=>cases e;rw[(wP hc').2.1]at hc;cases hc
 | two hc' _=>cases e;rw[(wQ hc').2.1]at hc;cases hc
theorem LX.num_inv (h:LX (c::s) n)(hc:isD c=true):∃w r m,s=w++r∧(∀d∈w,isD d=true)∧yB (c::w)<9223372036854775808∧NW r∧n=m+1∧LX r m:=by
 generalize e:c::s=t at h;cases h with
 | nil=>cases e
 | space hc' h=>cases e;have:=T9 hc';rw[isW_D hc]at this;cases this
 | word hc' h1 h2 h3 h4=>cases e;rw[XE hc']at hc;cases hc
 | num hc' h1 h2 h3 h4=>cases e;exact ⟨_,_,_,rfl,h1,h2,h3,rfl,h4⟩
 | one hc' _ _=>cases e;rw[(wP hc').2.2]at hc;cases hc
 | two hc' _=>cases e;rw[(wQ hc').2.2]at hc;cases hc
theorem LX.N0 (h:LX (c::s) n)(h1:yA c=false)(h2:isL c=false)(h3:isD c=false):(∃d r m,s=d::r∧(c,d)∈EC∧n=m+1∧LX r m)∨(∃m,c∈QT∧(∀d,s.head?=some d→(c,d)∉EC∧(c,d)≠(47,47))∧n=m+1∧LX s m):=by
 generalize e:c::s=t at h;cases h with
 | nil=>cases e
 | space hc' h=>cases e;rw[h1]at hc';cases hc'
 | word hc' _ _ _ _=>cases e;rw[h2]at hc';cases hc'
 | num hc' _ _ _ _=>cases e;rw[h3]at hc';cases hc'
 | one hc' h5 h6=>cases e;exact .inr ⟨_,hc',h5,rfl,h6⟩
 | two hc' h6=>cases e;exact .inl ⟨_,_,_,rfl,hc',rfl,h6⟩
def bat (L:Bs)(i:Nat):UInt8:=L.getD i 0
variable {L:Bs}{i:Nat}
theorem cV (h:i<L.length):L.drop i=bat L i::L.drop (i+1):=by rw[List.drop_eq_getElem_cons h];simp[bat,List.getD,h]
variable {k:Nat}
theorem RO {u v:Bs}(h:L.drop i=u++v)(hk:k<u.length):bat L (i+k)=u.getD k 0:=by
 have:(L.drop i).getD k 0=bat L (i+k):=by simp[bat,List.getD]
 rw[←this,h];simp[List.getD,List.getElem?_append_left hk]
theorem D1 {u v:Bs}(h:L.drop i=u++v):L.drop (i+u.length)=v:=by rw[←List.drop_drop,h,List.drop_left]
theorem LX.EK (h:LX (L.drop i) n)(hi:i+1<L.length)(h1:(bat L i).toNat=47)(h2:(bat L (i+1)).toNat=47):False:=by
 have e1:bat L i=47:=UInt8.toNat_inj.1 h1;have e2:bat L (i+1)=47:=UInt8.toNat_inj.1 h2;rw[cV (by omega),e1]at h;rcases h.N0 (by decide) (by decide) (by decide) with ⟨d,r,m,e,hm,_⟩ | ⟨m,_,h5,_⟩
 ·rw[cV hi,e2]at e;cases e;exact absurd hm (by decide)
 ·exact (h5 47 (by rw[cV hi,e2];rfl)).2 rfl
theorem LX.IS (h:LX (L.drop i) n)(hi:i<L.length)(hc:yA (bat L i)=true):LX (L.drop (i+1)) n:=by rw[cV hi]at h;exact h.sp_inv hc
structure Span (L:Bs)(p:UInt8→Bool)(i e:Nat):Prop where
 lt:i<e
 le:e≤L.length
 all:∀j,i≤j→j<e→p (bat L j)=true
 stop:e<L.length→p (bat L e)=false
theorem Span.of {p:UInt8→Bool}{w r:Bs}(hd:L.drop i=c::w++r)(hc:p c=true)(hw:∀d∈w,p d=true)(hr:∀d,r.head?=some d→p d=false):Span L p i (i+(w.length+1)):=by
 have hl:(L.drop i).length=w.length+1+r.length:=by rw[hd];simp;omega
 rw[List.length_drop]at hl;have hrr:L.drop (i+(w.length+1))=r:=by have:=D1 (u:=c::w) (v:=r) (by rw[hd]);simpa using this
 refine ⟨by omega,by omega,fun j h1 h2=>?_,fun h=>?_⟩
 ·obtain ⟨k,rfl⟩:∃k,j=i+k:=⟨j-i,by omega⟩;rw[RO (u:=c::w) (v:=r) hd t65];cases k with
  | zero=>exact hc
  | succ k=>
   have hk:k<w.length:=by omega
   have:(c::w).getD (k+1) 0=w[k]:=by simp[List.getD,hk]
   rw[this];exact hw _ (List.getElem_mem hk)
 ·refine hr _ ?_;rw[←hrr,cV h];rfl
theorem LX.IT (h:LX (L.drop i) n)(hi:i<L.length)(hc:isL (bat L i)=true):∃e m,Span L isW i e∧e≤i+16∧n=m+1∧LX (L.drop e) m:=by
 rw[cV hi]at h;obtain ⟨w,r,m,e,h1,h2,h3,rfl,h4⟩:=h.RN hc;have hd:L.drop i=bat L i::w++r:=by rw[cV hi,e];rfl
 refine ⟨_,m,Span.of hd (RM hc) h1 h3,by omega,rfl,?_⟩;have:=D1 (u:=bat L i::w) (v:=r) (by rw[hd]);rw[List.length_cons]at this;rw[this];exact h4
theorem LX.RP (h:LX (L.drop i) n)(hi:i<L.length)(hc:isD (bat L i)=true):∃e m,Span L isD i e∧yB ((L.drop i).take (e-i))<9223372036854775808∧n=m+1∧LX (L.drop e) m:=by
 rw[cV hi]at h;obtain ⟨w,r,m,e,h1,h2,h3,rfl,h4⟩:=h.num_inv hc;have hd:L.drop i=bat L i::w++r:=by rw[cV hi,e];rfl
 refine ⟨_,m,Span.of hd hc h1 fun d hd=>?_,?_,rfl,?_⟩
 ·have:=h3 d hd;simp only[isW,Bool.or_eq_false_iff]at this;exact this.2
 ·rw[show i+(w.length+1)-i=(bat L i::w).length from by simp,hd,List.take_left];exact h2
 ·have:=D1 (u:=bat L i::w) (v:=r) (by rw[hd]);rw[List.length_cons]at this;rw[this];exact h4
def sgn (L:Bs)(i:Nat):Nat:=if i+1<L.length∧(bat L i,bat L (i+1))∈EC then 2 else if bat L i∈QT then 1 else 0
theorem LX.IU (h:LX (L.drop i) n)(hi:i<L.length)(h1:yA (bat L i)=false)(h2:isL (bat L i)=false)(h3:isD (bat L i)=false):0<sgn L i∧i+sgn L i≤L.length∧∃m,n=m+1∧LX (L.drop (i+sgn L i)) m:=by
 rw[cV hi]at h;rcases h.N0 h1 h2 h3 with ⟨d,r,m,e,hm,rfl,h4⟩ | ⟨m,hm,h5,rfl,h4⟩
 ·have hl:(L.drop (i+1)).length=r.length+1:=by rw[e];rfl
  rw[List.length_drop]at hl;have hd:bat L (i+1)=d:=by rw[cV (by omega)]at e;injection e
  have hr:L.drop (i+2)=r:=by rw[cV (by omega)]at e;injection e
  rw[sgn,if_pos ⟨by omega,by rw[hd];exact hm⟩];exact ⟨by omega,by omega,m,rfl,by rw[hr];exact h4⟩
 ·rw[sgn,if_neg (fun hx=>(h5 (bat L (i+1)) (by rw[cV hx.1];rfl)).1 hx.2),if_pos hm];exact ⟨by omega,by omega,m,rfl,h4⟩
variable {l:Bs}
theorem N1 (h:k<l.length):yB (l.take (k+1))=10*yB (l.take k)+((bat l k).toNat-48):=by rw[List.take_succ_eq_append_getElem h,M1];simp[bat,List.getD,h]
theorem IV:∀{k m:Nat},k≤m→yB (l.take k)≤yB (l.take m):=by
 intro k m hm;induction hm with
 | refl=>exact Nat.le_refl _
 | @step m _ ih=>
  by_cases h:m<l.length
  ·rw[N1 h];omega
  ·rw[List.take_of_length_le (i:=m+1) (by omega)];rw[List.take_of_length_le (i:=m) (by omega)]at ih;exact ih
def uQ (l:Bs):List AV:=l.map fun c=>.int .u8 (c.toNat:Int)
theorem oH (l:Bs):(uQ l).length=l.length:=List.length_map _
theorem read_b (h:i<l.length):List.take 1 (List.drop i (uQ l))=[AV.int .u8 ((bat l i).toNat:Int)]:=by unfold uQ;rw[←List.map_drop,←List.map_take,List.drop_eq_getElem_cons h,List.take_succ_cons,List.take_zero];simp[bat,List.getD,h]
theorem XF:List.take k (List.drop i (uQ l))=uQ ((l.drop i).take k):=by unfold uQ;rw[List.map_take,List.map_drop]
theorem U0:∀l:Bs,kH (uQ l)=some l
 | []=>rfl
 | c::l=>by show (kH (uQ l)).map _=_;rw[U0 l];simp
end Go.Un
end
section
namespace Go.Proofs.YtonbocmibeikmaaGreat
open Go.Ab Go.Un
theorem EL {n:Int}(h1:0≤n)(h2:n<256):IntKind.wrap .u8 n=n:=by rw[IntKind.wrap_u8];omega
theorem N2 {f:FuncId}{args:List AV}{s:AV}(ha:args.all (aF 0 9)=true)(r:CallA Tryz.prog cfg f args [] fun y _=>ZU y=s)(h:c6):CallA Tryz.prog cfg f args h fun y h'=>y=s∧h'=h:=by intro B φ w cargs i hs hr;have hst:∀k,k<w.heap.size→X6 [] φ w k:=fun k hk=>⟨hk,fun β b hb=>by simp at hb⟩;have i0:Pic cfg.eJ w.heap.size [] φ w:=⟨fun β b hb=>by simp at hb,fun β β' b b' hb=>by simp at hb,fun β b hb=>by simp at hb,fun β b hb=>by simp at hb,Nat.le_refl _,fun g=>(i.eJ g).mono fun k j hk=>⟨rfl,(hst k hk.1).X7 j⟩⟩;refine (r w.heap.size φ w cargs i0 hs (fun j v x h1 h2=>HE (hr j v x h1 h2) (eC 9 x (List.all_eq_true.1 ha x (List.mem_of_getElem? h2))))).mono fun e w' hp=>?_;obtain ⟨v,y,h',φ',rfl,h1,h2,h3,hq⟩:=hp;have hk:∀k,k<w.heap.size→w'.heap[k]?=w.heap[k]?:=fun k hk=>(h2.lU k (hst k hk)).1;have ev:Ev h φ w h φ w':=⟨h2.os,h2.tape,h2.output,h2.size,fun k hs=>⟨hk k hs.1,Nat.lt_of_lt_of_le hs.1 h2.size,hs.2⟩,fun k j hs=>⟨World.cell?_of_block (hk k hs.1),Nat.lt_of_lt_of_le hs.1 h2.size,hs.2⟩,Nat.le_refl _,fun β b b' e1 e2=>by rw[e1]at e2;cases e2;exact ⟨Nat.le_refl _,fun _=>⟨rfl,rfl,rfl⟩⟩⟩;refine ⟨v,_,h,φ,rfl,⟨fun β b hb hv=>?_,i.inj,i.base,i.cQ,Nat.le_trans i.room h2.size,fun g=>ev.H8 (i.eJ g)⟩,ev,B3 h3,hq,rfl⟩;obtain ⟨cur,q1,q2,q3,q4⟩:=i.blk β b hb hv;exact ⟨cur,(hk _ (Array.getElem?_eq_some_iff.1 q1).1).trans q1,q2,q3,fun j v x a d=>⟨(q4 j v x a d).1,ev.rel (q4 j v x a d).2⟩⟩
def hasB (l:List BA)(s:BA):Bool:=l.any fun x=>x.toList==s.toList
variable {l:List BA}{s:BA}{i:Nat}
theorem has_t (hi:i<l.length)(h:((l.getD i ByteArray.empty).toList==s.toList)=true):hasB l s=true:=List.any_eq_true.2 ⟨_,j0 hi,h⟩
theorem has_f (hi:l.length≤i)(h:∀d,d<i→((l.getD d ByteArray.empty).toList==s.toList)=false):hasB l s=false:=by refine List.any_eq_false.2 fun x hx=>?_;obtain ⟨d,h1,rfl⟩:=cU (d:=ByteArray.empty) hx;rw[h d (by omega)];decide
theorem RQ (h:∀d,d<i→((l.getD d ByteArray.empty).toList==s.toList)=false)(e:((l.getD i ByteArray.empty).toList==s.toList)=false):∀d,d<i+1→((l.getD d ByteArray.empty).toList==s.toList)=false:=fun d hd=>by
  by_cases hdi:d=i
  · rw[hdi];exact e
  · exact h d (by omega)
def XG:List BA:=[⟨#[118,97,114]⟩,⟨#[109,117,116,101,120]⟩,⟨#[114,109,117,116,101,120]⟩,⟨#[102,117,110,99]⟩,⟨#[108,111,99,107]⟩,⟨#[117,110,108,111,99,107]⟩,⟨#[103,111]⟩,⟨#[105,102]⟩,⟨#[101,108,115,101]⟩,⟨#[119,104,105,108,101]⟩,⟨#[114,101,116,117,114,110]⟩]
def twoN:List BA:=[⟨#[60,61]⟩,⟨#[62,61]⟩,⟨#[61,61]⟩,⟨#[33,61]⟩,⟨#[38,38]⟩,⟨#[124,124]⟩]
def Nq:List BA:=[⟨#[40]⟩,⟨#[41]⟩,⟨#[123]⟩,⟨#[125]⟩,⟨#[91]⟩,⟨#[93]⟩,⟨#[44]⟩,⟨#[59]⟩,⟨#[61]⟩,⟨#[43]⟩,⟨#[45]⟩,⟨#[42]⟩,⟨#[47]⟩,⟨#[37]⟩,⟨#[60]⟩,⟨#[62]⟩,⟨#[33]⟩]
def uR (s:BA):Bool:=hasB XG s
variable {a:UInt8}
theorem eq2 {x y b:UInt8}:((⟨#[x,y]⟩:BA).toList==(⟨[a,b].toArray⟩:BA).toList)=(decide (a=x)&&decide (b=y)):=by rw[ByteArray.toList_eq,ByteArray.toList_eq];show ([x,y]==[a,b])=_;rw[Bool.eq_iff_iff];simp only[beq_iff_eq,List.cons.injEq,and_true,Bool.and_eq_true,decide_eq_true_eq];exact and_congr eq_comm eq_comm
theorem eq1 {x:UInt8}:((⟨#[x]⟩:BA).toList==(⟨[a].toArray⟩:BA).toList)=decide (a=x):=by rw[ByteArray.toList_eq,ByteArray.toList_eq];show ([x]==[a])=_;rw[Bool.eq_iff_iff];simp only[beq_iff_eq,List.cons.injEq,and_true,decide_eq_true_eq];exact eq_comm
theorem mG {b:UInt8}:hasB twoN ⟨[a,b].toArray⟩=decide ((a,b)∈EC):=by simp only[hasB,twoN,EC,List.any_cons,List.any_nil,eq2,Bool.or_false,List.mem_cons,List.not_mem_nil,or_false,Prod.mk.injEq,Bool.decide_or,Bool.decide_and]
theorem mH:hasB Nq ⟨[a].toArray⟩=decide (a∈QT):=by simp only[hasB,Nq,QT,List.any_cons,List.any_nil,eq1,Bool.or_false,List.mem_cons,List.not_mem_nil,or_false,Bool.decide_or]
variable {L:Bs}
theorem Y4 (h:i+1<L.length):(L.drop i).take 2=[bat L i,bat L (i+1)]:=by rw[cV (by omega),cV h];rfl
theorem take_one (h:i<L.length):(L.drop i).take 1=[bat L i]:=by rw[cV h];rfl
theorem str_at (h:i<s.size):s[i]?=some (bat (L8 s) i):=by
  rw[mC]at h;have:s[i]?=s.data.toList[i]?:=by rw[Array.getElem?_toList];rfl
  rw[this];have h2:i<s.data.toList.length:=h;rw[List.getElem?_eq_getElem h2];simp only[bat,L8,List.getD,List.getElem?_eq_getElem h2,Option.getD_some]
theorem name_at (h:isName (L8 s))(hi:i<s.size):isW (bat (L8 s) i)=true∧(i=0→isL (bat (L8 s) i)=true):=by
  obtain ⟨c,w,e,h1,h2,h3⟩:=h;rw[mC,e]at hi;rw[e];cases i with
  | zero=>exact ⟨RM h1,fun _=>h1⟩
  | succ i=>
    have hi':i<w.length:=by simpa using hi
    refine ⟨?_,fun h=>by omega⟩;have:bat (c::w) (i+1)=w[i]:=by simp[bat,List.getD,hi']
    rw[this];exact h2 _ (List.getElem_mem hi')
theorem gB (h:isName (L8 s)):1≤s.size∧s.size≤16:=by refine ⟨?_,aP h⟩;obtain ⟨c,w,e,_⟩:=h;rw[mC,e];simp
def skF (L:Bs):Nat→Nat→Nat
  | 0,i=>i
  | f+1,i=>if i<L.length∧yA (bat L i)=true then skF L f (i+1) else i
def sk (L:Bs)(i:Nat):Nat:=skF L (L.length-i) i
theorem wR (h:i<L.length)(hs:yA (bat L i)=true):sk L i=sk L (i+1):=by unfold sk;obtain ⟨f,hf⟩:∃f,L.length-i=f+1:=⟨L.length-i-1,by omega⟩;rw[hf,skF,if_pos ⟨h,hs⟩,show L.length-(i+1)=f from by omega]
theorem IW (h:¬(i<L.length∧yA (bat L i)=true)):sk L i=i:=by
  unfold sk;cases hf:L.length-i with
  | zero=>rfl
  | succ f=>rw[skF,if_neg h]
theorem XH (h:L.length≤i):sk L i=i:=IW fun h'=>by omega
theorem IX (h:yA (bat L i)=false):sk L i=i:=IW fun h'=>by rw[h]at h';cases h'.2
theorem D3 {L:Bs}:∀{f i n:Nat},L.length-i=f→LX (L.drop i) n→i≤L.length→i≤sk L i∧sk L i≤L.length∧LX (L.drop (sk L i)) n∧(sk L i<L.length→yA (bat L (sk L i))=false)
  | 0,i,n,hf,h,hi=>by rw[XH (by omega)];exact ⟨Nat.le_refl _,hi,h,fun h=>by omega⟩
  | f+1,i,n,hf,h,hi=>by
    by_cases hs:yA (bat L i)=true
    · rw[wR (by omega) hs]
      obtain ⟨a,b,c,d⟩:=D3 (f:=f) (i:=i+1) (by omega) (h.IS (by omega) hs) (by omega);exact ⟨by omega,b,c,d⟩
    · rw[IX (by simpa using hs)]
      exact ⟨Nat.le_refl _,hi,h,fun _=>by simpa using hs⟩
variable {c:UInt8}
theorem N4 (h:(c.toNat:Int)=32∨(c.toNat:Int)=9∨(c.toNat:Int)=10∨(c.toNat:Int)=13):yA c=true:=by simp only[yA,Bool.or_eq_true,beq_iff_eq];omega
theorem nosp_of (h1:¬(c.toNat:Int)=32)(h2:¬(c.toNat:Int)=9)(h3:¬(c.toNat:Int)=10)(h4:¬(c.toNat:Int)=13):yA c=false:=by simp only[yA,Bool.or_eq_false_iff,beq_eq_false_iff_ne,ne_eq];omega
variable {e:Nat}
theorem U1 {p:UInt8→Bool}{j:Nat}(h:Span L p i e)(h2:j≤e)(hj:j<L.length)(hp:p (bat L j)=true):j<e:=by
  by_cases he:j=e
  · subst he
    rw[h.stop hj]at hp;cases hp
  · omega
theorem uS {p:UInt8→Bool}{j:Nat}(h:Span L p i e)(h1:i≤j)(h2:j≤e)(hp:j<L.length→p (bat L j)=false):j=e:=by
  by_cases he:j<e
  · have:=h.le
    rw[h.all j h1 he]at hp;cases hp (by omega)
  · omega
theorem valD_nn {l:Bs}(h:i<l.length)(hd:∀d∈l,isD d=true):48≤(bat l i).toNat∧(bat l i).toNat≤57:=by have:=hd (bat l i) (j0 h);simpa only[isD,Bool.and_eq_true,decide_eq_true_eq] using this
theorem tn2:((i:Int)+2).toNat=i+2:=by omega
theorem tn1:((i:Int)+1).toNat=i+1:=by omega
theorem XI:uQ [c]=[.int .u8 ((c.toNat:Nat):Int)]:=rfl
theorem takeL {k:Nat}(h:i+k≤L.length):(List.take k (List.drop i L)).length=k:=by rw[List.length_take,List.length_drop];omega
variable {H:c6}{n:Nat}
theorem XJ {k:Nat}{cs:List AV}:rd H k (.vec n cs)=some cs:=rfl
theorem spanD (h:Span L isD i e):∀d∈(L.drop i).take (e-i),isD d=true:=by
  intro d hd;obtain ⟨j,hj,rfl⟩:=List.mem_iff_getElem.1 hd;have hj2:j<e-i:=by rw[List.length_take]at hj;omega
  have hle:=h.le;have:=h.all (i+j) (by omega) (by omega);have e2:((L.drop i).take (e-i))[j]=bat L (i+j):=by rw[List.getElem_take,List.getElem_drop];simp[bat,List.getD,show i+j<L.length by omega]
  rw[e2];exact this
attribute [local go_sem] oH bE Int.natCast_nonneg Int.natCast_inj List.length_map wrap64 EL read_b tD tn1 tn2 str_at
variable {h:c6}
theorem D4 (c:UInt8):CB 138 [.int .u8 ((c.toNat:Nat):Int)] h (.bool (isL c)):=by
  refine .bz Tryz.f138 21 ?_;refine c79z ?_;refine .spl 5 rfl rfl (fun e1=>?_) (fun e1=>?_)
  ·try simp only[e1]
   have qe1:=fact e1;refine .k 4 [(2,5)] ?_;refine .spl 9 rfl rfl (fun e2=>?_) (fun e2=>?_)
   ·try simp only[e2]
    have qe2:=fact e2;refine .k 8 [(6,9),(9,12)] ?_;refine c249z ?_;exact ⟨[],_,(List.append_nil _).symm,t42,t46⟩
   try simp only[e2]
   have qe2:=fact e2;refine .k 3 [(6,9)] ?_;refine .spl 12 rfl rfl (fun e3=>?_) (fun e3=>?_)
   ·try simp only[e3]
    have qe3:=fact e3;refine .k 5 [(6,9),(9,12)] ?_;refine .spl 17 rfl rfl (fun e4=>?_) (fun e4=>?_)
    ·try simp only[e4]
     have qe4:=fact e4;refine c249z ?_;exact ⟨[],_,(List.append_nil _).symm,t42,t46⟩
    try simp only[e4]
    have qe4:=fact e4;refine c249z ?_;exact ⟨[],_,(List.append_nil _).symm,t42,t46⟩
   try simp only[e3]
   have qe3:=fact e3;refine .k 8 [(6,9),(9,12),(14,17)] ?_;refine c105z ?_;exact ⟨[],_,(List.append_nil _).symm,t42,t46⟩
  try simp only[e1]
  have qe1:=fact e1;refine .k 7 [(2,5),(6,9)] ?_;refine .spl 12 rfl rfl (fun e5=>?_) (fun e5=>?_)
  ·try simp only[e5]
   have qe5:=fact e5;refine .k 5 [(6,9),(9,12)] ?_;refine .spl 17 rfl rfl (fun e6=>?_) (fun e6=>?_)
   ·try simp only[e6]
    have qe6:=fact e6;refine c249z ?_;exact ⟨[],_,(List.append_nil _).symm,t42,t46⟩
   try simp only[e6]
   have qe6:=fact e6;refine c249z ?_;exact ⟨[],_,(List.append_nil _).symm,t42,t46⟩
  try simp only[e5]
  have qe5:=fact e5;refine .k 8 [(6,9),(9,12),(14,17)] ?_;refine c105z ?_;exact ⟨[],_,(List.append_nil _).symm,t42,t46⟩
theorem D5 (c:UInt8):CB 139 [.int .u8 ((c.toNat:Nat):Int)] h (.bool (isD c)):=by
  refine .bz Tryz.f139 9 ?_;refine c79z ?_;refine .spl 5 rfl rfl (fun e1=>?_) (fun e1=>?_)
  ·try simp only[e1]
   have qe1:=fact e1;refine .m [(2,5)] ?_;refine c4z ?_;exact ⟨[],_,(List.append_nil _).symm,t42,t139⟩
  try simp only[e1]
  have qe1:=fact e1;refine .m [(2,5)] ?_;refine c4z ?_;exact ⟨[],_,(List.append_nil _).symm,t42,t139⟩
section
attribute [local go_sem] nF
theorem c_has (l:List BA)(s:BA)(hl:l.length<1000):CB 170 [.vec l.length (bA l),.str s] h (.bool (hasB l s)):=by
  refine .bz Tryz.f170 18 ?_;refine c16z ?_;refine .aR (fun m st=>∃(i:Nat),(m=l.length-i∧(∀d,d<i→((l.getD d ByteArray.empty).toList==s.toList)=false)∧i≤l.length)∧st=⟨mkS 18 [(0,AV.vec l.length (bA l)),(1,AV.str s),(5,AV.int .i64 ((i:Nat):Int))],h⟩) _ (.v ⟨0,⟨rfl,t78,by omega⟩,rfl⟩) ?_;rintro m sl h' ⟨i,⟨hm,hI,hi⟩,hst⟩;obtain ⟨rfl,rfl⟩:=St.mk.inj hst;refine c1z ?_;refine u2z ?_ ?_
  ·intro e1 qe1;refine c131z ?_;refine u2z ?_ ?_
   ·intro e2 qe2;refine c158z ?_;exact ⟨[],_,(List.append_nil _).symm,t42,t148⟩
   intro e2 qe2;refine c270z ?_;exact ⟨_,by omega,.v ⟨(i+1),⟨rfl,RQ hI (by assumption),by omega⟩,rfl⟩⟩
  intro e1 qe1;refine c63z ?_;exact ⟨[],_,(List.append_nil _).symm,t42,t148⟩
end
theorem frz_n {d:Nat}:o6 (iT n H (d+1)) (bA l)=some (bA l):=(z7.map (fun _=>.str):z7 (bA l)).frz _ _ _
variable {g:Nat}
theorem AU {β:Nat}(l:List BA)(s:BA)(hb:H[β]?=some ⟨g,false,9,1,bA l,0⟩)(hl:l.length<1000):CallA Tryz.prog cfg 170 [.own β g 0 l.length,.str s] H (fun y h'=>y=.bool (hasB l s)∧h'=H):=by
  have e:pJ 0 H (.own β g 0 l.length)=some (.vec l.length (bA l)):=by show iT 0 H 6 (.own β g 0 l.length)=_;rw[eN,hb];simp only[Nat.zero_le,and_self,if_true,Bool.false_eq_true,if_false,Nat.zero_add,Nat.mul_one,bE,Nat.le_refl,List.drop_zero];rw[List.take_of_length_le t183,frz_n]
  have ha:OQ 0 H [.vec l.length (bA l),.str s] [.own β g 0 l.length,.str s]:=And.intro (.inr e) (And.intro (.inr rfl) trivial);exact CallA.borrow ha ((c_has l s hl).mono fun _ _ h=>h.1)
theorem c_res0 (s:BA):CB 140 [.str s] [] (.bool (uR s)):=by refine .bz Tryz.f140 6 ?_;refine c209z ?_;refine .ca rfl rfl (AU XG s rfl (by decide)) ?_;refine .n ?_;exact .ret (.ex (hq:=by rfl))
theorem Bb (s:BA):CallA Tryz.prog cfg 140 [.str s] h (fun y h'=>y=.bool (uR s)∧h'=h):=N2 rfl ((c_res0 s).mono fun _ _ h=>by rw[h.1];rfl) h
theorem c_resF (hr:uR s=false):CallA Tryz.prog cfg 140 [.str s] h (fun y h'=>y=.bool false∧h'=h):=by rw[←hr];exact Bb s
theorem nQ (s:BA)(hs:isName (L8 s))(hr:uR s=false):CB 130 [.str s] h (.bool true):=by
  refine .bz Tryz.f130 39 ?_;have hsz:=gB hs;refine c16z ?_;refine .aR (fun m st=>∃(i:Nat),(m=s.size-i∧i≤s.size)∧st=⟨mkS 39 [(0,AV.str s),(3,AV.int .i64 ((i:Nat):Int))],h⟩) _ (.v ⟨0,⟨rfl,by omega⟩,rfl⟩) ?_;rintro m sl h' ⟨i,⟨hm,hi⟩,hst⟩;obtain ⟨rfl,rfl⟩:=St.mk.inj hst;refine c1z ?_;refine u2z ?_ ?_
  ·intro e1 qe1;refine c3z ?_;have hna:=name_at hs (i:=i) (by omega);refine c12z ?_;refine .ca rfl rfl (D4 _) ?_;refine .e 2 ?_;refine .spl 15 rfl rfl (fun e2=>?_) (fun e2=>?_)
   ·try simp only[e2]
    have qe2:=fact e2;refine .k 3 [(5,15)] ?_;refine .spl 18 rfl rfl (fun e3=>?_) (fun e3=>?_)
    ·try simp only[e3]
     have qe3:=fact e3;refine .m [(5,15),(8,18)] ?_;refine .T ?_;refine c158z ?_;exact ⟨[],_,(List.append_nil _).symm,t42,t107⟩
    try simp only[e3]
    have qe3:=fact e3;refine .k 3 [(8,18)] ?_;refine .ca rfl rfl (D5 _) ?_;refine .m [(5,15),(8,18)] ?_;refine u2z ?_ ?_
    ·intro e4 qe4;refine c158z ?_;exact ⟨[],_,(List.append_nil _).symm,t42,t107⟩
    intro e4 qe4;refine c5z ?_;refine .c7 [0,3] ?_;refine .rz ?_;exact ⟨_,by omega,.v ⟨(i+1),⟨rfl,by omega⟩,rfl⟩⟩
   try simp only[e2]
   have qe2:=fact e2;refine .k 8 [(5,15),(8,18)] ?_;refine .m [(5,15)] ?_;refine c48z ?_;refine .c7 [0,3] ?_;refine .rz ?_;exact ⟨_,by omega,.v ⟨(i+1),⟨rfl,by omega⟩,rfl⟩⟩
  intro e1 qe1;refine c8z ?_;refine c30z ?_;refine .spl 29 rfl rfl (fun e5=>?_) (fun e5=>by exfalso;simp only[decide_eq_false_iff_not]at e5;omega);try simp only[e5]
  have qe5:=fact e5;refine .k 5 [(3,29)] ?_;refine .spl 34 rfl rfl (fun e6=>?_) (fun e6=>by exfalso;simp only[decide_eq_false_iff_not]at e6;omega);try simp only[e6]
  have qe6:=fact e6;refine .k 1 [(8,34)] ?_;refine .ca rfl rfl (c_resF hr) ?_;refine .m [(8,34)] ?_;refine c4z ?_;exact ⟨[],_,(List.append_nil _).symm,t42,t107⟩
theorem XK (L:Bs)(i n:Nat)(hx:LX (L.drop i) n)(hi:i≤L.length)(hl:L.length<1000000):CB 137 [.vec L.length (uQ L),.int .i64 (i:Int)] h (.int .i64 ((sk L i:Nat):Int)):=by
  refine .bz Tryz.f137 74 ?_;refine .z ?_;refine .sb ?_;refine .aR (fun m st=>∃(j:Nat),(m=L.length-j∧(LX (L.drop j) n∧j≤L.length∧sk L j=sk L i))∧st=⟨mkS 74 [(0,AV.vec L.length (uQ L)),(1,AV.int .i64 ((j:Nat):Int))],h⟩) _ (.v ⟨i,⟨rfl,⟨hx,hi,rfl⟩⟩,rfl⟩) ?_;rintro m sl h' ⟨j,⟨hm,⟨hX,hj,hk⟩⟩,hst⟩;obtain ⟨rfl,rfl⟩:=St.mk.inj hst;refine c1z ?_;refine u2z ?_ ?_
  ·intro e1 qe1;refine c178z ?_;refine .block ?_;refine c133z ?_;refine .spl 16 rfl rfl (fun e2=>?_) (fun e2=>?_)
   ·try simp only[e2]
    have qe2:=fact e2;refine .k 8 [(5,16),(12,23)] ?_;refine .k 8 [(12,23),(19,30)] ?_;refine .m [(19,30)] ?_;refine .T ?_;refine .c7 [0,1] ?_;refine .rz ?_;exact ⟨_,by omega,.v ⟨(j+1),⟨rfl,⟨hX.IS (by omega) (N4 (by omega)),by omega,(wR (by omega) (N4 (by omega))).symm.trans hk⟩⟩,rfl⟩⟩
   try simp only[e2]
   have qe2:=fact e2;refine .k 7 [(5,16)] ?_;refine .spl 23 rfl rfl (fun e3=>?_) (fun e3=>?_)
   ·try simp only[e3]
    have qe3:=fact e3;refine .k 8 [(12,23),(19,30)] ?_;refine .m [(19,30)] ?_;refine .T ?_;refine .c7 [0,1] ?_;refine .rz ?_;exact ⟨_,by omega,.v ⟨(j+1),⟨rfl,⟨hX.IS (by omega) (N4 (by omega)),by omega,(wR (by omega) (N4 (by omega))).symm.trans hk⟩⟩,rfl⟩⟩
   try simp only[e3]
   have qe3:=fact e3;refine .k 7 [(12,23)] ?_;refine .spl 30 rfl rfl (fun e4=>?_) (fun e4=>?_)
   ·try simp only[e4]
    have qe4:=fact e4;refine .m [(19,30)] ?_;refine .T ?_;refine .c7 [0,1] ?_;refine .rz ?_;exact ⟨_,by omega,.v ⟨(j+1),⟨rfl,⟨hX.IS (by omega) (N4 (by omega)),by omega,(wR (by omega) (N4 (by omega))).symm.trans hk⟩⟩,rfl⟩⟩
   try simp only[e4]
   have qe4:=fact e4;refine .m [(19,30)] ?_;refine u2z ?_ ?_
   ·intro e5 qe5;refine .c7 [0,1] ?_;refine .rz ?_;exact ⟨_,by omega,.v ⟨(j+1),⟨rfl,⟨hX.IS (by omega) (N4 (by omega)),by omega,(wR (by omega) (N4 (by omega))).symm.trans hk⟩⟩,rfl⟩⟩
   intro e5 qe5;refine .c7 [0,1] ?_;refine c133z ?_;refine .spl 45 rfl rfl (fun e6=>?_) (fun e6=>?_)
   ·try simp only[e6]
    have qe6:=fact e6;refine .k 7 [(5,45)] ?_;refine .spl 52 rfl rfl (fun e7=>?_) (fun e7=>?_)
    ·try simp only[e7]
     have qe7:=fact e7;refine .m [(12,52)] ?_;refine .spl 39 rfl rfl (fun e8=>by exfalso;simp only[beq_iff_eq]at *;exact hX.EK (by omega) (by omega) (by omega)) (fun e8=>?_);try simp only[e8]
     have qe8:=fact e8;refine .F ?_;refine .c7 [1] ?_;refine c28z ?_;exact ⟨[],_,(List.append_nil _).symm,t42,t90⟩
    try simp only[e7]
    have qe7:=fact e7;refine .m [(12,52)] ?_;refine .F ?_;refine .c7 [1] ?_;refine c28z ?_;exact ⟨[],_,(List.append_nil _).symm,t42,t90⟩
   try simp only[e6]
   have qe6:=fact e6;refine .k 8 [(5,45),(12,52)] ?_;refine .m [(12,52)] ?_;refine .F ?_;refine .c7 [1] ?_;refine c28z ?_;exact ⟨[],_,(List.append_nil _).symm,t42,t90⟩
  intro e1 qe1;refine .exit ?_;have hje:j=L.length:=by omega
  change c9 ..;refine c28z ?_;exact ⟨[],_,(List.append_nil _).symm,t42,t90⟩
theorem fill6L:(twoN).length=6:=rfl
theorem fill6M:(6≤maxLen)=True:=by simp;decide
theorem fill17L:(Nq).length=17:=rfl
theorem fill17M:(17≤maxLen)=True:=by simp;decide
section
attribute [local go_sem] vG fA Option.bind_eq_bind XF XI XJ takeL U0 Nat.add_sub_cancel_left Y4 take_one mG mH fill6L fill6M fill17L fill17M
theorem c_sign0 (L:Bs)(i:Nat)(hi:i<L.length)(hl:L.length<1000000):CB 142 [.vec L.length (uQ L),.int .i64 (i:Int)] [] (.int .i64 ((sgn L i:Nat):Int)):=by
  refine .bz Tryz.f142 28 ?_;refine c23z ?_;refine c133z ?_;refine .spl 10 rfl rfl (fun e1=>?_) (fun e1=>?_)
  ·try simp only[e1]
   have qe1:=fact e1;try simp only[mH,mG,decide_eq_true_eq,decide_eq_false_iff_not]at qe1
   refine .k 7 [(5,10)] ?_;refine .ca rfl rfl (AU twoN _ rfl (by decide)) ?_;refine .n ?_;refine .spl 19 rfl rfl (fun e2=>?_) (fun e2=>?_)
   ·try simp only[e2]
    have qe2:=fact e2;try simp only[mH,mG,decide_eq_true_eq,decide_eq_false_iff_not]at qe2
    refine c210z ?_;exact .ret (.ex (hq:=t30))
   try simp only[e2]
   have qe2:=fact e2;try simp only[mH,mG,decide_eq_true_eq,decide_eq_false_iff_not]at qe2
   refine c85z ?_;refine .c7 [0,1] ?_;refine .s ?_;refine .e 7 ?_;refine .ca rfl rfl (AU Nq _ (by first | rfl | simp) (by decide)) ?_;refine .nil ?_;refine .spl 27 rfl rfl (fun e3=>?_) (fun e3=>?_)
   ·try simp only[e3]
    have qe3:=fact e3;try simp only[mH,mG,decide_eq_true_eq,decide_eq_false_iff_not]at qe3
    refine c210z ?_;exact .ret (.ex (hq:=t30))
   try simp only[e3]
   have qe3:=fact e3;try simp only[mH,mG,decide_eq_true_eq,decide_eq_false_iff_not]at qe3
   refine c20z ?_;refine c10z ?_;exact .ret (.ex (hq:=t30))
  try simp only[e1]
  have qe1:=fact e1;try simp only[mH,mG,decide_eq_true_eq,decide_eq_false_iff_not]at qe1
  refine .k 8 [(5,10)] ?_;refine .n ?_;refine c85z ?_;refine .c7 [0,1] ?_;refine .s ?_;refine .e 7 ?_;refine .ca rfl rfl (AU Nq _ (by first | rfl | simp) (by decide)) ?_;refine .nil ?_;refine .spl 27 rfl rfl (fun e4=>?_) (fun e4=>?_)
  ·try simp only[e4]
   have qe4:=fact e4;try simp only[mH,mG,decide_eq_true_eq,decide_eq_false_iff_not]at qe4
   refine c210z ?_;exact .ret (.ex (hq:=t30))
  try simp only[e4]
  have qe4:=fact e4;try simp only[mH,mG,decide_eq_true_eq,decide_eq_false_iff_not]at qe4
  refine c20z ?_;refine c10z ?_;exact .ret (.ex (hq:=t30))
end
theorem c_sign (L:Bs)(i:Nat)(hi:i<L.length)(hl:L.length<1000000):CallA Tryz.prog cfg 142 [.vec L.length (uQ L),.int .i64 (i:Int)] h (fun y h'=>y=.int .i64 ((sgn L i:Nat):Int)∧h'=h):=N2 rfl ((c_sign0 L i hi hl).mono fun _ _ h=>by rw[h.1];rfl) h
theorem c_numv (l:Bs)(hd:∀d∈l,isD d=true)(hv:yB l<9223372036854775808)(hl:l.length<1000000):CB 141 [.vec l.length (uQ l)] h (.int .i64 ((yB l:Nat):Int)):=by
  refine CallA.body (Q:=fun y'=>y'=.int .i64 ((yB l:Nat):Int)) z8 fn141 rfl ?_;simp only[ntm141,List.length_cons,List.length_nil,Nat.reduceAdd,Nat.reduceSub,List.replicate,List.cons_append,List.nil_append];refine c11z ?_;refine o4.pre 1 t14 ?_;refine c9z ?_;refine c11z ?_;refine o4.pre 1 t14 ?_;refine c9z ?_;refine c151z ?_;refine o4.pre 1 t14 ?_;refine c9z ?_;refine c9.block ?_;refine c9.aR (fun m st=>∃(i:Nat),(m=l.length-i∧i≤l.length)∧st=⟨[.vec l.length (uQ l),.any,.any,.int .i64 ((yB (l.take i):Nat):Int),.int .i64 ((i:Nat):Int),.any,.any,.any,.any,.any,.any,.any,.any,.any,.any,.any,.any,.any,.any,.any,.any,.any,.any,.any,.any,.any,.any,.any],h⟩) _ ⟨[.vec l.length (uQ l),.any,.any,.int .i64 ((yB (l.take 0):Nat):Int),.int .i64 ((0:Nat):Int),.any,.any,.any,.any,.any,.any,.any,.any,.any,.any,.any,.any,.any,.any,.any,.any,.any,.any,.any,.any,.any,.any,.any],⟨(.inl t98),(.inr rfl),(.inr rfl),(.inl t98),(.inl t98),(.inr rfl),(.inr rfl),(.inr rfl),(.inr rfl),(.inr rfl),(.inr rfl),(.inr rfl),(.inr rfl),(.inr rfl),(.inr rfl),(.inr rfl),(.inr rfl),(.inr rfl),(.inr rfl),(.inr rfl),(.inr rfl),(.inr rfl),(.inr rfl),(.inr rfl),(.inr rfl),(.inr rfl),(.inr rfl),(.inr rfl),trivial⟩,0,⟨rfl,by omega⟩,rfl⟩ ?_;rintro m sl h' ⟨i,⟨hm,hi⟩,hst⟩;obtain ⟨rfl,rfl⟩:=St.mk.inj hst;refine c151z ?_;refine o4.pre 4 t14 ?_;refine c9z ?_;refine c9.split 9 rfl (fun e1=>?_) (fun e1=>?_)
  · try simp only[e1]
    have qe1:=e1;try replace qe1:=s10z qe1
    refine c9.A0 rfl ?_;refine c80z ?_;refine c285z ?_;refine c9.seq ?_;have hdd:=valD_nn (i:=i) (by omega) hd;have hvt:=N1 (l:=l) (k:=i) (by omega);have hvm:=IV (l:=l) (k:=i+1) (m:=l.length) (by omega);rw[List.take_length]at hvm;have htd:(9223372036854775807-(((bat l i).toNat:Int)-48)).tdiv 10=(9223372036854775807-(((bat l i).toNat:Int)-48)) / 10:=Int.tdiv_eq_ediv_of_nonneg (by omega);have htd2:((9223372036854775807-(((bat l i).toNat:Int)-48)).tdiv 10:Int)<9223372036854775808∧0≤(9223372036854775807-(((bat l i).toNat:Int)-48)).tdiv 10:=by rw[htd];omega
    refine c9.region z8 ?_;refine o4.pre 7 t14 ?_;refine c9z ?_;refine c151z ?_;refine o4.pre 5 t14 ?_;refine c9z ?_;refine c9.split 22 rfl (fun e2=>?_) (fun e2=>?_)
    · exfalso;rw[htd]at e2;simp only[decide_eq_true_eq,gt_iff_lt]at e2;omega
    · try simp only[e2]
      have qe2:=e2;try replace qe2:=s10z qe2
      refine c122z ?_;refine c9.region z8 ?_;refine o4.pre 5 t14 ?_;refine c9z ?_;refine c9.region z8 ?_;refine o4.pre 3 t14 ?_;refine o4.nil ?_;exact ⟨l.length-(i+1),by omega,[.vec l.length (uQ l),.any,.any,.int .i64 ((yB (l.take (i+1)):Nat):Int),.int .i64 (((i+1):Nat):Int),.any,.any,.any,.any,.any,.any,.any,.any,.any,.any,.any,.any,.any,.any,.any,.any,.any,.any,.any,.any,.any,.any,.any],⟨(.inl t98),(.inr rfl),(.inr rfl),(.inl t98),(.inl t98),(.inr rfl),(.inr rfl),(.inr rfl),(.inr rfl),(.inr rfl),(.inr rfl),(.inr rfl),(.inr rfl),(.inr rfl),(.inr rfl),(.inr rfl),(.inr rfl),(.inr rfl),(.inr rfl),(.inr rfl),(.inr rfl),(.inr rfl),(.inr rfl),(.inr rfl),(.inr rfl),(.inr rfl),(.inr rfl),(.inr rfl),trivial⟩,(i+1),⟨rfl,by omega⟩,rfl⟩
  · try simp only[e1]
    have qe1:=e1;try replace qe1:=s10z qe1
    refine c9.DO rfl ?_;refine c9.exit ?_;obtain rfl:i=l.length:=by omega
    rw[List.take_length] at*;change c9 _ _ _ _ _;refine c11z ?_;refine o4.pre 2 t14 ?_;refine c77z ?_;refine Ends.mk (by simp only[WQ,yD,lE,mX];first | rfl | (simp (maxSteps:=2000000) (disch:=omega) only [go_sem,Nat.reduceBEq,Nat.reduceAdd,Nat.reduceSub,Nat.reduceLeDiff,Nat.reduceMul,reduceIte,reduceCtorEq,Int.reduceNeg,Int.reduceToNat,Nat.reduceLT,Int.reduceLE,Int.reduceLT,Int.reduceAdd,Int.reduceSub,Int.reduceMul,sT,if_false,show ((10:Int)=0)=False from by simp,if_pos,if_neg];rfl)) ?_;exact ⟨[],_,(List.append_nil _).symm,t42,by rfl⟩
theorem app_tok {a:Blk}{l:c6}{zs:List AV}{x y z u:AV}(hz:zs.length=n*4)(hn:n<10000):j9 cfg 168 (s8 168 4 g zs::a::⟨0,false,168,4,[x,y,z,u],0⟩::l) (.own 0 g 0 n) (.own 2 0 0 1)=some (.own 0 (g+1) 0 (n+1),s8 168 4 (g+1) (zs++[x,y,z,u])::a::⟨0,false,168,4,[x,y,z,u],0⟩::l):=by rw[aJ (C:=cfg) (K:=4) (m:=1) (new:=[x,y,z,u]) (zs:=zs) rfl rfl (by omega) hz rfl (by omega) t117 rfl (by decide) (by omega)];rfl
theorem RR {l:c6}{zs:List AV}{x y z u:AV}(hz:zs.length=n*4)(hn:n<10000):j9 cfg 168 (s8 168 4 g zs::⟨0,false,168,4,[x,y,z,u],0⟩::l) (.own 0 g 0 n) (.own 1 0 0 1)=some (.own 0 (g+1) 0 (n+1),s8 168 4 (g+1) (zs++[x,y,z,u])::⟨0,false,168,4,[x,y,z,u],0⟩::l):=by rw[aJ (C:=cfg) (K:=4) (m:=1) (new:=[x,y,z,u]) (zs:=zs) rfl rfl (by omega) hz rfl (by omega) t117 rfl (by decide) (by omega)];rfl
theorem qW {k n p:Int}:z7 [.int .i64 k,.str s,.int .i64 n,.int .i64 p]:=z7.cons .int (z7.cons .str (z7.cons .int (z7.cons .int .nil)))
theorem mI {a b:List AV}(h:z7 a)(h':z7 b):z7 (a++b):=fun x hx=>(List.mem_append.1 hx).elim (h x) (h' x)
theorem XL (hs:Span L isD i e)(hv:yB ((L.drop i).take (e-i))<9223372036854775808)(hl:L.length<1000000):CallA Tryz.prog cfg 141 [.vec (e-i) (uQ ((L.drop i).take (e-i)))] h (fun y h'=>y=.int .i64 ((yB ((L.drop i).take (e-i)):Nat):Int)∧h'=h):=by
  have hle:=hs.le;have e1:e-i=((L.drop i).take (e-i)).length:=by rw[List.length_take,List.length_drop];omega
  have:=c_numv (h:=h) _ (spanD hs) hv (by omega);rwa[←e1]at this
section
attribute [local go_sem] vG fA Option.bind_eq_bind XF XI XJ takeL U0 Nat.add_sub_cancel_left app_tok RR take_one M7 D0 wrap64 yC
theorem c_lex0 (L:Bs)(N:Nat)(hx:LX (L.drop 0) N)(hN:N≤4000)(hl:L.length≤262144):CallA Tryz.prog cfg 95 [.vec L.length (uQ L)] [] (fun y' h'=>ZU y'=.tup [.any,.int .i64 L.length,.int .i64 0]∧h'=[]):=by
  refine .bz Tryz.f95 124 ?_;have hs0:=D3 rfl hx (by omega);refine c108z ?_;refine .spl 11 rfl rfl (fun e1=>by exfalso;simp only[decide_eq_true_eq,gt_iff_lt]at e1;omega) (fun e1=>?_);try simp only[e1]
  have qe1:=fact e1;refine c152z ?_;refine c66z ?_;refine .ca rfl rfl (XK L 0 N hx (by omega) (by omega)) ?_;refine c147z ?_;refine c9.wC 5 rfl ?_;refine .aN (fun m st=>∃(q:Nat) (k:Nat) (n:Nat) (zs:List AV),(m=L.length-q∧(k+n≤4000∧LX (L.drop q) n∧q≤L.length∧(q<L.length→yA (bat L q)=false)∧zs.length=k*4∧z7 zs))∧st=⟨mkS 124 [(0,AV.vec L.length (uQ L)),(5,AV.own 0 k 0 k),(6,AV.int .i64 ((q:Nat):Int))],[s8 168 4 k zs]⟩) (.v ⟨(sk L 0),0,N,[],⟨rfl,⟨by omega,hs0.2.2.1,hs0.2.1,hs0.2.2.2,rfl,z7.nil⟩⟩,rfl⟩) ?_;rintro m sl h' ⟨q,k,n,zs,⟨hm,⟨hkn,hX,hq,hsp,hz,hpl⟩⟩,hst⟩;obtain ⟨rfl,rfl⟩:=St.mk.inj hst;clear hst;refine .sb ?_;refine c1z ?_;refine u2z ?_ ?_
  ·intro e2 qe2;refine c39z ?_;refine c105z ?_;exact ⟨_,_,rfl,by (show jQ 0 _ 6 (.tup [.own 0 (k+1) 0 (k+1),.int .i64 ((q:Nat):Int),.int .i64 0])=_;simp only[lZ,dW,qN,o6,Nat.not_lt_zero,if_false];rw[lJ (e:=168) (K:=4) (g:=k+1) (zs:=zs++_) rfl (by decide) t93 (by omega) (z7.frz (mI hpl qW) _ _ _)];rfl),by rw[show q=L.length from by omega];rfl⟩
  intro e2 qe2;refine .sk ?_;refine c75z ?_;refine .sb ?_;have hsp':=hsp (by omega);refine c30z ?_;refine .ca rfl rfl (D4 _) ?_;refine .n ?_;refine u2z ?_ ?_
  ·intro e3 qe3;refine .sb ?_;obtain ⟨ee,mm,hspn,hle16,hnm,hX2⟩:=hX.IT (by omega) (by assumption);have hlt:=hspn.lt;refine .aN (fun m st=>∃(j:Nat),(m=ee-j∧(q≤j∧j≤ee))∧st=⟨mkS 124 [(0,AV.vec L.length (uQ L)),(5,AV.own 0 k 0 k),(6,AV.int .i64 ((q:Nat):Int)),(7,AV.ptr 1 0 0),(8,AV.int .i64 ((j:Nat):Int))],[s8 168 4 k zs,⟨0,false,168,4,[.int .i64 0,.str ByteArray.empty,.int .i64 0,.int .i64 ((q:Nat):Int)],0⟩]⟩) (.v ⟨q,⟨rfl,⟨Nat.le_refl _,Nat.le_of_lt hspn.lt⟩⟩,rfl⟩) ?_;rintro m sl h' ⟨j,⟨hm,⟨hj1,hj2⟩⟩,hst⟩;obtain ⟨rfl,rfl⟩:=St.mk.inj hst;clear hst;have hle:=hspn.le;refine .seq ?_;refine c29z ?_;refine .spl 50 rfl rfl (fun e4=>?_) (fun e4=>?_)
   ·try simp only[e4]
    have qe4:=fact e4;refine .k 4 [(4,50)] ?_;refine .ca rfl rfl (D4 _) ?_;refine .k 1 [(4,50)] ?_;refine .spl 56 rfl rfl (fun e5=>?_) (fun e5=>?_)
    ·try simp only[e5]
     have qe5:=fact e5;refine .m [(4,50),(10,56)] ?_;refine .T ?_;refine c178z ?_;refine .c7 [0,5,6,7,8] ?_;refine .rz ?_;have hje:=U1 hspn hj2 (by omega) t212;exact ⟨_,by omega,.v ⟨(j+1),⟨rfl,⟨by omega,by omega⟩⟩,rfl⟩ (he:=t196)⟩
    try simp only[e5]
    have qe5:=fact e5;refine .k 4 [(10,56)] ?_;refine .ca rfl rfl (D5 _) ?_;refine .m [(4,50)] ?_;refine u2z ?_ ?_
    ·intro e6 qe6;refine c178z ?_;refine .c7 [0,5,6,7,8] ?_;refine .rz ?_;have hje:=U1 hspn hj2 (by omega) t212;exact ⟨_,by omega,.v ⟨(j+1),⟨rfl,⟨by omega,by omega⟩⟩,rfl⟩ (he:=t196)⟩
    intro e6 qe6;refine .exit ?_;have hje:ee=j:=(uS hspn hj1 hj2 (fun hlt=>by first | omega | assumption | simp_all [isW])).symm;subst hje;change c9 ..;refine c112z ?_;refine c29z ?_;refine .ca rfl rfl (Bb _) ?_;refine .nil ?_;refine u2z ?_ ?_
    ·intro e7 qe7;refine c2z ?_;refine .seq ?_;refine c112z ?_;refine .spl 111 rfl rfl (fun e8=>by exfalso;simp only[beq_iff_eq]at e8;omega) (fun e8=>?_);try simp only[e8]
     have qe8:=fact e8;refine c253z ?_;have hs1:=D3 rfl hX2 (by omega);exact ⟨_,by omega,.v ⟨(sk L ee),(k+1),mm,(zs++[.int .i64 _,.str _,.int .i64 _,.int .i64 ((q:Nat):Int)]),⟨rfl,⟨by omega,hs1.2.2.1,hs1.2.1,hs1.2.2.2,t93,mI hpl qW⟩⟩,rfl⟩ (he:=by rfl) (hk:=t59)⟩
    intro e7 qe7;refine .z ?_;refine .spl 77 rfl rfl (fun e9=>by exfalso;simp only[decide_eq_true_eq,gt_iff_lt]at e9;omega) (fun e9=>?_);try simp only[e9]
    have qe9:=fact e9;refine c242z ?_;refine c112z ?_;refine .spl 111 rfl rfl (fun e10=>by exfalso;simp only[beq_iff_eq]at e10;omega) (fun e10=>?_);try simp only[e10]
    have qe10:=fact e10;refine c253z ?_;have hs1:=D3 rfl hX2 (by omega);exact ⟨_,by omega,.v ⟨(sk L ee),(k+1),mm,(zs++[.int .i64 _,.str _,.int .i64 _,.int .i64 ((q:Nat):Int)]),⟨rfl,⟨by omega,hs1.2.2.1,hs1.2.1,hs1.2.2.2,t93,mI hpl qW⟩⟩,rfl⟩ (he:=by rfl) (hk:=t59)⟩
   try simp only[e4]
   have qe4:=fact e4;refine .k 8 [(4,50),(10,56)] ?_;refine .m [(4,50),(10,56)] ?_;refine .F ?_;refine .exit ?_;have hje:ee=j:=(uS hspn hj1 hj2 (fun hlt=>by first | omega | assumption | simp_all [isW])).symm;subst hje;change c9 ..;refine c112z ?_;refine c29z ?_;refine .ca rfl rfl (Bb _) ?_;refine .nil ?_;refine u2z ?_ ?_
   ·intro e11 qe11;refine c2z ?_;refine .seq ?_;refine c112z ?_;refine .spl 111 rfl rfl (fun e12=>by exfalso;simp only[beq_iff_eq]at e12;omega) (fun e12=>?_);try simp only[e12]
    have qe12:=fact e12;refine c253z ?_;have hs1:=D3 rfl hX2 (by omega);exact ⟨_,by omega,.v ⟨(sk L ee),(k+1),mm,(zs++[.int .i64 _,.str _,.int .i64 _,.int .i64 ((q:Nat):Int)]),⟨rfl,⟨by omega,hs1.2.2.1,hs1.2.1,hs1.2.2.2,t93,mI hpl qW⟩⟩,rfl⟩ (he:=by rfl) (hk:=t59)⟩
   intro e11 qe11;refine .z ?_;refine .spl 77 rfl rfl (fun e13=>by exfalso;simp only[decide_eq_true_eq,gt_iff_lt]at e13;omega) (fun e13=>?_);try simp only[e13]
   have qe13:=fact e13;refine c242z ?_;refine c112z ?_;refine .spl 111 rfl rfl (fun e14=>by exfalso;simp only[beq_iff_eq]at e14;omega) (fun e14=>?_);try simp only[e14]
   have qe14:=fact e14;refine c253z ?_;have hs1:=D3 rfl hX2 (by omega);exact ⟨_,by omega,.v ⟨(sk L ee),(k+1),mm,(zs++[.int .i64 _,.str _,.int .i64 _,.int .i64 ((q:Nat):Int)]),⟨rfl,⟨by omega,hs1.2.2.1,hs1.2.1,hs1.2.2.2,t93,mI hpl qW⟩⟩,rfl⟩ (he:=by rfl) (hk:=t59)⟩
  intro e3 qe3;refine .c7 [0,5,6,7,8] ?_;refine c30z ?_;refine .ca rfl rfl (D5 _) ?_;refine .n ?_;refine u2z ?_ ?_
  ·intro e15 qe15;refine .sb ?_;obtain ⟨ee,mm,hspn,hvv,hnm,hX2⟩:=hX.RP (by omega) (by assumption);have hlt:=hspn.lt;refine .aN (fun m st=>∃(j:Nat),(m=ee-j∧(q≤j∧j≤ee))∧st=⟨mkS 124 [(0,AV.vec L.length (uQ L)),(5,AV.own 0 k 0 k),(6,AV.int .i64 ((q:Nat):Int)),(7,AV.ptr 1 0 0),(8,AV.int .i64 ((j:Nat):Int))],[s8 168 4 k zs,⟨0,false,168,4,[.int .i64 0,.str ByteArray.empty,.int .i64 0,.int .i64 ((q:Nat):Int)],0⟩]⟩) (.v ⟨q,⟨rfl,⟨Nat.le_refl _,Nat.le_of_lt hspn.lt⟩⟩,rfl⟩) ?_;rintro m sl h' ⟨j,⟨hm,⟨hj1,hj2⟩⟩,hst⟩;obtain ⟨rfl,rfl⟩:=St.mk.inj hst;clear hst;have hle:=hspn.le;refine .seq ?_;refine c29z ?_;refine .spl 89 rfl rfl (fun e16=>?_) (fun e16=>?_)
   ·try simp only[e16]
    have qe16:=fact e16;refine .k 4 [(4,89)] ?_;refine .ca rfl rfl (D5 _) ?_;refine .n ?_;refine u2z ?_ ?_
    ·intro e17 qe17;refine c178z ?_;refine .c7 [0,5,6,7,8] ?_;refine .rz ?_;have hje:=U1 hspn hj2 (by omega) t212;exact ⟨_,by omega,.v ⟨(j+1),⟨rfl,⟨by omega,by omega⟩⟩,rfl⟩ (he:=t196)⟩
    intro e17 qe17;refine .exit ?_;have hje:ee=j:=(uS hspn hj1 hj2 (fun hlt=>by first | omega | assumption | simp_all [isW])).symm;subst hje;change c9 ..;refine .c7 [0,5,6,7,8] ?_;refine c30z ?_;refine .ca rfl rfl (XL hspn hvv (by omega)) ?_;refine c286z ?_;refine .spl 107 rfl rfl (fun e18=>by exfalso;simp only[decide_eq_true_eq]at e18;omega) (fun e18=>?_);try simp only[e18]
    have qe18:=fact e18;refine c242z ?_;refine c112z ?_;refine .spl 111 rfl rfl (fun e19=>by exfalso;simp only[beq_iff_eq]at e19;omega) (fun e19=>?_);try simp only[e19]
    have qe19:=fact e19;refine c253z ?_;have hs1:=D3 rfl hX2 (by omega);exact ⟨_,by omega,.v ⟨(sk L ee),(k+1),mm,(zs++[.int .i64 _,.str _,.int .i64 _,.int .i64 ((q:Nat):Int)]),⟨rfl,⟨by omega,hs1.2.2.1,hs1.2.1,hs1.2.2.2,t93,mI hpl qW⟩⟩,rfl⟩ (he:=by rfl) (hk:=t59)⟩
   try simp only[e16]
   have qe16:=fact e16;refine .m [(4,89)] ?_;refine .F ?_;refine .exit ?_;have hje:ee=j:=(uS hspn hj1 hj2 (fun hlt=>by first | omega | assumption | simp_all [isW])).symm;subst hje;change c9 ..;refine .c7 [0,5,6,7,8] ?_;refine c30z ?_;refine .ca rfl rfl (XL hspn hvv (by omega)) ?_;refine c286z ?_;refine .spl 107 rfl rfl (fun e20=>by exfalso;simp only[decide_eq_true_eq]at e20;omega) (fun e20=>?_);try simp only[e20]
   have qe20:=fact e20;refine c242z ?_;refine c112z ?_;refine .spl 111 rfl rfl (fun e21=>by exfalso;simp only[beq_iff_eq]at e21;omega) (fun e21=>?_);try simp only[e21]
   have qe21:=fact e21;refine c253z ?_;have hs1:=D3 rfl hX2 (by omega);exact ⟨_,by omega,.v ⟨(sk L ee),(k+1),mm,(zs++[.int .i64 _,.str _,.int .i64 _,.int .i64 ((q:Nat):Int)]),⟨rfl,⟨by omega,hs1.2.2.1,hs1.2.1,hs1.2.2.2,t93,mI hpl qW⟩⟩,rfl⟩ (he:=by rfl) (hk:=t59)⟩
  intro e15 qe15;obtain ⟨hsg1,hsg2,mm,hnm,hX2⟩:=hX.IU (by omega) hsp' t130 t130;refine c12z ?_;refine .ca rfl rfl (c_sign L q (by omega) (by omega)) ?_;refine .n ?_;refine .c7 [0,5,6,7,8] ?_;refine c75z ?_;refine .spl 38 rfl rfl (fun e22=>by exfalso;simp only[beq_iff_eq]at e22;omega) (fun e22=>?_);try simp only[e22]
  have qe22:=fact e22;refine c48z ?_;refine c1z ?_;refine .spl 111 rfl rfl (fun e23=>by exfalso;simp only[beq_iff_eq]at e23;omega) (fun e23=>?_);try simp only[e23]
  have qe23:=fact e23;refine c253z ?_;have hs1:=D3 rfl hX2 (by omega);exact ⟨_,by omega,.v ⟨(sk L (q+sgn L q)),(k+1),mm,(zs++[.int .i64 _,.str _,.int .i64 _,.int .i64 ((q:Nat):Int)]),⟨rfl,⟨by omega,hs1.2.2.1,hs1.2.1,hs1.2.2.2,t93,mI hpl qW⟩⟩,rfl⟩ (he:=by rfl) (hk:=t59)⟩
end
end Go.Proofs.YtonbocmibeikmaaGreat
end
section
namespace Go.Proofs.YtonbocmibeikmaaGreat
open Go.Ab Go.Un
theorem wrapU {n:Int}(h1:0≤n)(h2:n<18446744073709551616):IntKind.wrap .u64 n=n:=by rw[IntKind.wrap_u64];omega
theorem N5:∀(f n:Nat),n<10^f→0<f→yH (f+1) n=yH f n
  | 0,n,h,hf=>by omega
  | f+1,n,h,_=>by
    have e:yH (f+1+1) n=if n<10 then [dig n] else yH (f+1) (n / 10)++[dig n]:=rfl
    have e2:yH (f+1) n=if n<10 then [dig n] else yH f (n / 10)++[dig n]:=rfl
    rw[e,e2];split
    · rfl
    · rename_i hn
      have h1:n / 10<10^f:=by rw[Nat.pow_succ]at h;omega
      cases f with
      | zero=>simp at h1;omega
      | succ f=>rw[N5 (f+1) (n / 10) h1 (by omega)]
theorem N6 {n:Nat}(h:n<10000000000000000000)(h0:0<n / 10):yV n=yV (n / 10)++[dig n]:=by
  have e2:yV n=if n<10 then [dig n] else yH 19 (n / 10)++[dig n]:=rfl
  rw[e2,if_neg (by omega)];unfold yV;rw[N5 19 (n / 10) (by omega) (by omega)]
theorem zB {n:Nat}(h:n<10):yV n=[dig n]:=by
  have e2:yV n=if n<10 then [dig n] else yH 19 (n / 10)++[dig n]:=rfl
  rw[e2,if_pos h]
def Gw (n:Nat)(s:Bs):Bs:=if n=0 then s else yV n++s
theorem EM {n:Nat}(h:n<10000000000000000000):Gw (n / 10) [dig n]=yV n:=by
  unfold Gw;split
  · rw[zB (by omega)]
  · rw[N6 h (by omega)]
variable {s:Bs}
theorem IY {n:Nat}(h:n<10000000000000000000)(h0:0<n):Gw (n / 10) (dig n::s)=Gw n s:=by
  unfold Gw;rw[if_neg (by omega:¬n=0)];split
  · rw[zB (by omega)];rfl
  · rw[N6 h (by omega)];simp
theorem IZ {n:Nat}:UInt8.ofNat (((48:Int)+(((n%10:Nat)):Int)).toNat)=dig n:=by unfold dig;congr 1
theorem XM {n:Nat}:((n:Int)).tmod 10=((n%10:Nat):Int):=rfl
theorem XN {n:Nat}:((n:Int)).tdiv 10=((n / 10:Nat):Int):=rfl
theorem XO {a:UInt8}:(⟨#[a]⟩:BA)++(⟨s.toArray⟩:BA)=⟨(a::s).toArray⟩:=by apply ByteArray.ext;simp[ByteArray.data_append]
theorem JA:(⟨s.toArray⟩:BA).size=s.length:=by rw[mC];rfl
attribute [local go_sem] oH bE o7 cB l8 Int.natCast_nonneg Int.natCast_inj List.length_map wrap64 EL wrapU iF AQ M7 T7 AR D0 max2 nF
theorem RS {n m:Nat}(h:n*10^s.length≤m):n / 10*10^(dig n::s).length≤m:=by rw[List.length_cons,Nat.pow_succ,Nat.mul_comm (10^s.length),←Nat.mul_assoc];exact Nat.le_trans (Nat.mul_le_mul_right _ (Nat.div_mul_le_self n 10)) h
theorem RT {n m:Nat}(h0:0<n)(h:n*10^s.length≤m)(hm:m<10000000000000000000):(dig n::s).length≤20:=by
  rw[List.length_cons];by_cases hs:s.length+1≤20
  · exact hs
  · have h1:10^20≤10^s.length:=Nat.pow_le_pow_right (by omega) (by omega)
    have h2:1*10^s.length≤n*10^s.length:=Nat.mul_le_mul_right _ h0;omega
theorem c_dig0 (m0:Nat)(hm0:m0<10000000000000000000):CB 181 [.int .u64 (m0:Int)] [] (.str ⟨(yV m0).toArray⟩):=by
  refine CallA.body (Q:=fun y'=>y'=.str ⟨(yV m0).toArray⟩) z8 fn181 rfl ?_;simp only[ntm181,List.length_cons,List.length_nil,Nat.reduceAdd,Nat.reduceSub,List.replicate,List.cons_append,List.nil_append];refine c11z ?_;refine o4.pre 1 t15 ?_;refine c9z ?_;refine c11z ?_;refine o4.pre 7 t15 ?_;refine c9z ?_;refine c151z ?_;refine o4.pre 3 t15 ?_;refine c9z ?_;refine c9.block ?_;refine c9.aG ([⟨0,false,5,1,[.int .u8 (48+((m0%10:Nat):Int))],0⟩]) (by first | rfl | (simp only[List.append_assoc,List.cons_append,List.nil_append];rfl)) ?_;refine c9.loopW (fun m st=>∃(n:Nat) (s:Bs),(m=n∧(n<10000000000000000000∧Gw n s=yV m0∧s.length≤20∧n*10^s.length≤m0))∧st=⟨[.int .u64 ((n:Nat):Int),.any,.any,.str ⟨s.toArray⟩,.any,.any,.any,.any,.any,.any,.any,.any,.any,.any,.any,.any,.any,.any,.any,.any,.any,.any,.any,.any,.any],[⟨0,false,5,1,[.int .u8 (48+((m0%10:Nat):Int))],0⟩]⟩) ((m0 / 10)) ⟨[.int .u64 (((m0 / 10):Nat):Int),.any,.any,.str ⟨[dig m0].toArray⟩,.any,.any,.any,.any,.any,.any,.any,.any,.any,.any,.any,.any,.any,.any,.any,.any,.any,.any,.any,.any,.any],[⟨0,false,5,1,[.int .u8 (48+((m0%10:Nat):Int))],0⟩],[],(List.append_nil _).symm,Nat.le_refl _,aI.refl _,⟨(.inl t195),(.inr rfl),(.inr rfl),(.inl t195),(.inr rfl),(.inr rfl),(.inr rfl),(.inr rfl),(.inr rfl),(.inr rfl),(.inr rfl),(.inr rfl),(.inr rfl),(.inr rfl),(.inr rfl),(.inr rfl),(.inr rfl),(.inr rfl),(.inr rfl),(.inr rfl),(.inr rfl),(.inr rfl),(.inr rfl),(.inr rfl),(.inr rfl),trivial⟩,iW.get ⟨t3,t3,t3,t3,t3,t3,t3,t3,t3,t3,t3,t3,t3,t3,t3,t3,t3,t3,t3,t3,t3,t3,t3,t3,t3,trivial⟩,(m0 / 10),[dig m0],⟨rfl,⟨by omega,EM hm0,by simp,t65⟩⟩,rfl⟩ ?_;rintro m sl h' ⟨n,s,⟨hm,⟨hn,hP,hs,hM⟩⟩,hst⟩;obtain ⟨rfl,rfl⟩:=St.mk.inj hst;clear hst;refine c151z ?_;refine o4.pre 2 t15 ?_;refine c9z ?_;refine c9.split 13 rfl (fun e1=>?_) (fun e1=>?_)
  · try simp only[e1]
    have qe1:=e1;try replace qe1:=s10z qe1
    refine c9.A0 rfl ?_;refine c80z ?_;refine c285z ?_;refine c9.region z8 ?_;refine o4.pre 9 t15 ?_;refine c9z ?_;refine c9.region z8 ?_;refine o4.pre 3 t15 ?_;refine o4.nil ?_;have hP2:=(IY (s:=s) hn (by omega)).trans hP;exact ⟨(n / 10),by omega,[.int .u64 (((n / 10):Nat):Int),.any,.any,.str ⟨(dig n::s).toArray⟩,.any,.any,.any,.any,.any,.any,.any,.any,.any,.any,.any,.any,.any,.any,.any,.any,.any,.any,.any,.any,.any],[⟨0,false,5,1,[.int .u8 (48+((m0%10:Nat):Int))],0⟩],_,by rfl,by simp,by exact aI.refl _,⟨(.inl t195),(.inr rfl),(.inr rfl),(.inl t195),(.inr rfl),(.inr rfl),(.inr rfl),(.inr rfl),(.inr rfl),(.inr rfl),(.inr rfl),(.inr rfl),(.inr rfl),(.inr rfl),(.inr rfl),(.inr rfl),(.inr rfl),(.inr rfl),(.inr rfl),(.inr rfl),(.inr rfl),(.inr rfl),(.inr rfl),(.inr rfl),(.inr rfl),trivial⟩,iW.get ⟨t3,t3,t3,t3,t3,t3,t3,t3,t3,t3,t3,t3,t3,t3,t3,t3,t3,t3,t3,t3,t3,t3,t3,t3,t3,trivial⟩,(n / 10),(dig n::s),⟨rfl,⟨by omega,hP2,RT (by omega) hM hm0,RS hM⟩⟩,rfl⟩
  · try simp only[e1]
    have qe1:=e1;try replace qe1:=s10z qe1
    refine c9.DO rfl ?_;refine c9.exit ?_;change c9 _ _ _ _ _;refine c11z ?_;refine o4.pre 2 t15 ?_;refine c77z ?_;refine Ends.mk (by simp only[WV,yD,lE,mX];first | rfl | (simp (maxSteps:=2000000) (disch:=omega) only [go_sem,Nat.reduceBEq,Nat.reduceAdd,Nat.reduceSub,Nat.reduceLeDiff,Nat.reduceMul,reduceIte,reduceCtorEq,Int.reduceNeg,Int.reduceToNat,Nat.reduceLT,Int.reduceLE,Int.reduceLT,Int.reduceAdd,Int.reduceSub,Int.reduceMul,XM,XN,IZ,kH,rd,XO,JA,show ((10:Int)=0)=False from by simp,show (⟨#[dig m0]⟩:BA)=⟨[dig m0].toArray⟩ from rfl,sT,if_pos,if_neg];rfl)) ?_;exact ⟨_,_,(by first | rfl | exact (List.append_nil _).symm | (simp only[List.append_assoc,List.cons_append,List.nil_append];rfl)),by first | rfl | (simp only[jQ,iT,o6,v9,jI];rfl),by (rw[←hP,show n=0 from by omega];rfl)⟩
variable {h:c6}
theorem RU (n:Nat)(hn:n<10000000000000000000):CallA Tryz.prog cfg 181 [.int .u64 (n:Int)] h (fun y h'=>y=.str ⟨(yV n).toArray⟩∧h'=h):=N2 rfl ((c_dig0 n hn).mono fun _ _ h=>by rw[h.1];rfl) h
theorem N7 (n:Int)(h0:0≤n)(hn:n<10000000000000000000):CallA Tryz.prog cfg 181 [.int .u64 n] h (fun y h'=>y=.str ⟨(yV n.toNat).toArray⟩∧h'=h):=by have:=RU (h:=h) n.toNat (by omega);rwa[Int.toNat_of_nonneg h0]at this
theorem c_num (n:Int)(h1:-9000000000000000000≤n)(h2:n<9000000000000000000):CB 163 [.int .i64 n] h (.str (ED n)):=by
  refine CallA.body (Q:=fun y'=>y'=.str (ED n)) z8 fn163 rfl ?_;simp only[ntm163,List.length_cons,List.length_nil,Nat.reduceAdd,Nat.reduceSub,List.replicate,List.cons_append,List.nil_append];have hs1:(yV (-(n+1)+1).toNat).length≤20:=uH 20 _;refine c11z ?_;refine o4.pre 1 t20 ?_;refine c9z ?_;refine c151z ?_;refine o4.pre 2 t20 ?_;refine c9z ?_;refine c9.split 4 rfl (fun e1=>?_) (fun e1=>?_)
  · try simp only[e1]
    have qe1:=e1;try replace qe1:=s10z qe1
    refine c284z ?_;refine o4.pre 5 t20 ?_;refine o4.ZL rfl rfl rfl hb181 (N7 _ (by omega) (by omega)) ?_;refine o4.pre 2 t20 ?_;refine c77z ?_;refine Ends.mk t73 ?_;exact ⟨[],_,(List.append_nil _).symm,t42,t144⟩
  · try simp only[e1]
    have qe1:=e1;try replace qe1:=s10z qe1
    refine c202z ?_;refine o4.pre 2 t20 ?_;refine o4.ZL rfl rfl rfl hb181 (N7 _ (by omega) (by omega)) ?_;refine o4.pre 1 t20 ?_;refine c77z ?_;refine Ends.mk t73 ?_;exact ⟨[],_,(List.append_nil _).symm,t42,t144⟩
theorem strE1:u9 cfg mA 20 188 [.int .i64 1] []=some (.int .i64 6,[]):=by kernel_rfl
theorem strE2:u9 cfg mA 20 188 [.int .i64 2] []=some (.int .i64 6,[]):=by kernel_rfl
theorem strE3:u9 cfg mA 20 188 [.int .i64 3] []=some (.int .i64 5,[]):=by kernel_rfl
theorem strE4:u9 cfg mA 20 188 [.int .i64 4] []=some (.int .i64 5,[]):=by kernel_rfl
theorem strE5:u9 cfg mA 20 188 [.int .i64 5] []=some (.int .i64 4,[]):=by kernel_rfl
theorem strE6:u9 cfg mA 20 188 [.int .i64 6] []=some (.int .i64 4,[]):=by kernel_rfl
theorem strE7:u9 cfg mA 20 188 [.int .i64 7] []=some (.int .i64 4,[]):=by kernel_rfl
theorem strE8:u9 cfg mA 20 188 [.int .i64 8] []=some (.int .i64 3,[]):=by kernel_rfl
theorem strE9:u9 cfg mA 20 188 [.int .i64 9] []=some (.int .i64 3,[]):=by kernel_rfl
theorem strE10:u9 cfg mA 20 188 [.int .i64 10] []=some (.int .i64 2,[]):=by kernel_rfl
theorem strE11:u9 cfg mA 20 188 [.int .i64 11] []=some (.int .i64 2,[]):=by kernel_rfl
theorem strE12:u9 cfg mA 20 188 [.int .i64 12] []=some (.int .i64 2,[]):=by kernel_rfl
theorem strE13:u9 cfg mA 20 188 [.int .i64 13] []=some (.int .i64 2,[]):=by kernel_rfl
theorem strE14:u9 cfg mA 20 188 [.int .i64 14] []=some (.int .i64 2,[]):=by kernel_rfl
theorem strE15:u9 cfg mA 20 188 [.int .i64 15] []=some (.int .i64 2,[]):=by kernel_rfl
theorem strE16:u9 cfg mA 20 188 [.int .i64 16] []=some (.int .i64 1,[]):=by kernel_rfl
theorem strE17:u9 cfg mA 20 188 [.int .i64 17] []=some (.int .i64 0,[]):=by kernel_rfl
theorem sF (o:Int)(h1:1≤o)(h2:o≤17):CallA Tryz.prog cfg 188 [.int .i64 o] h (fun y h'=>y=.int .i64 (iU o)∧h'=h):=by
  have key:∀(k v:Int),u9 cfg mA 20 188 [.int .i64 k] []=some (.int .i64 v,[])→iU k=v→CallA Tryz.prog cfg 188 [.int .i64 k] h (fun y h'=>y=.int .i64 (iU k)∧h'=h):=fun k v he hv=>by rw[hv];exact N2 rfl ((A9 z8 DY 20 _ _ _ _ _ he).mono fun _ _ h=>by rw[h.1];rfl) h
  have hcases:o=1∨o=2∨o=3∨o=4∨o=5∨o=6∨o=7∨o=8∨o=9∨o=10∨o=11∨o=12∨o=13∨o=14∨o=15∨o=16∨o=17:=by omega
  rcases hcases with rfl | rfl | rfl | rfl | rfl | rfl | rfl | rfl | rfl | rfl | rfl | rfl | rfl | rfl | rfl | rfl | rfl
  · exact key _ _ strE1 rfl
  · exact key _ _ strE2 rfl
  · exact key _ _ strE3 rfl
  · exact key _ _ strE4 rfl
  · exact key _ _ strE5 rfl
  · exact key _ _ strE6 rfl
  · exact key _ _ strE7 rfl
  · exact key _ _ strE8 rfl
  · exact key _ _ strE9 rfl
  · exact key _ _ strE10 rfl
  · exact key _ _ strE11 rfl
  · exact key _ _ strE12 rfl
  · exact key _ _ strE13 rfl
  · exact key _ _ strE14 rfl
  · exact key _ _ strE15 rfl
  · exact key _ _ strE16 rfl
  · exact key _ _ strE17 rfl
theorem RV {l:List Ex}{i:Nat}(h:i<l.length):List.take 1 (List.drop (i*4) (o2 l))=[AV.int .i64 (l.getD i l9).op]:=by have:=congrArg (fun x=>x.take 1) (read_es h);simp only[List.take_take,cM]at this;simpa using this
variable {o:Int}
theorem qX (h1:1≤o)(h2:o≤17):0≤iU o∧iU o≤6∧(iU o=6↔o=1∨o=2)∧(iU o=5↔o=3∨o=4):=by
  have hcases:o=1∨o=2∨o=3∨o=4∨o=5∨o=6∨o=7∨o=8∨o=9∨o=10∨o=11∨o=12∨o=13∨o=14∨o=15∨o=16∨o=17:=by omega
  rcases hcases with rfl | rfl | rfl | rfl | rfl | rfl | rfl | rfl | rfl | rfl | rfl | rfl | rfl | rfl | rfl | rfl | rfl<;>decide
variable {vars:List BA}
theorem GE.op:∀{d:Nat} {e:Ex},GE vars d e→1≤e.op∧e.op≤17
  | d,.leaf o n s,h=>by have h':=kZ.1 h;simp only[Ex.op];omega
  | 0,.un o a,h=>h.elim
  | 0,.bin o a b,h=>h.elim
  | d+1,.un o a,h=>by have:=h.1;simp only[Ex.op];omega
  | d+1,.bin o a b,h=>by have:=h.1;simp only[Ex.op];omega
section
attribute [local go_sem] RV
theorem U2 (e:Ex)(k:Nat)(hk:k<e.args.length)(h1:1≤e.op∧e.op≤17)(h2:1≤(e.args.getD k l9).op∧(e.args.getD k l9).op≤17)(hl:e.args.length≤2):CB 189 [.agg [.int .i64 e.op,.int .i64 e.num,.str e.name,.vec e.args.length (o2 e.args)],.int .i64 (k:Int)] h (.bool (nA e k)):=by
  refine .bz Tryz.f189 29 ?_;refine .z ?_;refine .ss z8 (mkP 12 [0,1,0,7,15,31,63,0,128,511,1023,2047] []) ?_;refine .k 6 [] ?_;refine .ca rfl rfl (sF _ h2.1 h2.2) ?_;refine .k 2 [] ?_;refine .ca rfl rfl (sF _ h1.1 h1.2) ?_;refine .n [] ?_;refine .c7 [1,5,6] ?_;refine c30z ?_;refine .spl 20 rfl rfl (fun e1=>?_) (fun e1=>?_)
  ·try simp only[e1]
   have qe1:=fact e1;refine .k 8 [(3,20),(7,24)] ?_;refine .n ?_;exact .ret (.ex (hq:=t85))
  try simp only[e1]
  have qe1:=fact e1;refine .k 4 [(3,20)] ?_;refine .spl 24 rfl rfl (fun e2=>?_) (fun e2=>?_)
  ·try simp only[e2]
   have qe2:=fact e2;refine .m [(3,20),(7,24)] ?_;exact .ret (.ex (hq:=t85))
  try simp only[e2]
  have qe2:=fact e2;refine .m [(3,20),(7,24)] ?_;exact .ret (.ex (hq:=t85))
end
variable {a:Ex}
theorem AW (h1:1≤o∧o≤17)(h2:1≤a.op∧a.op≤17):CB 189 [.agg [.int .i64 o,.int .i64 0,.str ByteArray.empty,.vec 1 (w8 a)],.int .i64 0] h (.bool (nA (.un o a) 0)):=by have:=U2 (h:=h) (.un o a) 0 t218 h1 h2 t218;simpa only[Ex.op,Ex.num,Ex.name,Ex.args,o2,List.flatMap_cons,List.flatMap_nil,List.append_nil,List.length_cons,List.length_nil,Nat.zero_add,Int.natCast_zero,Int.cast_ofNat_Int] using this
variable {b:Ex}
theorem N8 (h1:1≤o∧o≤17)(h2:1≤a.op∧a.op≤17):CB 189 [.agg [.int .i64 o,.int .i64 0,.str ByteArray.empty,.vec 2 (w8 a++w8 b)],.int .i64 0] h (.bool (nA (.bin o a b) 0)):=by have:=U2 (h:=h) (.bin o a b) 0 t218 h1 h2 t218;simpa only[Ex.op,Ex.num,Ex.name,Ex.args,o2,List.flatMap_cons,List.flatMap_nil,List.append_nil,List.length_cons,List.length_nil,Nat.zero_add,Nat.reduceAdd,Int.natCast_zero,Int.cast_ofNat_Int] using this
theorem wS (h1:1≤o∧o≤17)(h2:1≤b.op∧b.op≤17):CB 189 [.agg [.int .i64 o,.int .i64 0,.str ByteArray.empty,.vec 2 (w8 a++w8 b)],.int .i64 1] h (.bool (nA (.bin o a b) 1)):=by have:=U2 (h:=h) (.bin o a b) 1 t218 h1 h2 t218;simpa only[Ex.op,Ex.num,Ex.name,Ex.args,o2,List.flatMap_cons,List.flatMap_nil,List.append_nil,List.length_cons,List.length_nil,Nat.zero_add,Nat.reduceAdd,Int.natCast_one,Int.cast_ofNat_Int] using this
theorem gM:w8 (.un o a)=[.int .i64 o,.int .i64 0,.str ByteArray.empty,.vec 1 (w8 a)]:=rfl
theorem dY:w8 (.bin o a b)=[.int .i64 o,.int .i64 0,.str ByteArray.empty,.vec 2 (w8 a++w8 b)]:=rfl
theorem cG {n:Int}{s:BA}:w8 (.leaf o n s)=[.int .i64 o,.int .i64 n,.str s,.vec 0 []]:=rfl
theorem kP {l:List AV}:List.take 4 (w8 a++l)=w8 a:=by rw[←o7 a,List.take_left]
theorem kQ {l:List AV}:List.drop 4 (w8 a++l)=l:=by rw[←o7 a,List.drop_left]
theorem nR {s:BA}:(s.toList==ByteArray.empty.toList)=decide (s.size=0):=by
  rw[ByteArray.toList_eq,ByteArray.toList_eq,Bool.eq_iff_iff];simp only[beq_iff_eq,decide_eq_true_eq];constructor
  · intro h
    have:=congrArg List.length h;simpa using this
  · intro h
    exact List.length_eq_zero_iff.1 t173
theorem eq_mk {s:BA}:(⟨#[]⟩:BA)=ByteArray.empty:=rfl
theorem nS:ByteArray.empty.size=0:=rfl
section
attribute [local go_sem] gM dY cG kP kQ iF nR eq_mk nS
theorem RW {vars:List BA}(n:Int)(hn:0≤n):CB 179 [.agg (w8 (.leaf 1 n ByteArray.empty))] h (.bool true):=by
  refine .bz Tryz.f179 77 ?_;have hst:iU 1=6:=rfl;refine c239z ?_;refine c19z ?_;refine c103z ?_;refine .z ?_;refine .spl 10 rfl rfl (fun e1=>?_) (fun e1=>by exfalso;first | omega | (replace e1:=s11z e1;omega) | (simp at e1;omega) | (simp at e1;done));try simp only[e1]
  have qe1:=fact e1;refine .T ?_;refine c275z ?_;refine .ss z8 (mkP 28 [0,1,3,7,15,31,63,127,255,511,1023,2047,4095,0,8192,24576,57855,123391,254463,516607,1040895,2089471,4186623,8380927,16769535,33546751,33554431,134217727] []) ?_;refine .k 4 [] ?_;refine .spl 15 rfl rfl (fun e2=>?_) (fun e2=>by exfalso;first | omega | (replace e2:=s11z e2;omega) | (simp at e2;omega) | (simp at e2;done));try simp only[e2]
  have qe2:=fact e2;refine .k 5 [(3,15)] ?_;refine .spl 20 rfl rfl (fun e3=>?_) (fun e3=>by exfalso;first | omega | (replace e3:=s11z e3;omega) | (simp at e3;omega) | (simp at e3;done));try simp only[e3]
  have qe3:=fact e3;refine .k 8 [(8,20)] ?_;refine .spl 28 rfl rfl (fun e4=>by exfalso;first | omega | (replace e4:=s11z e4;omega) | (simp at e4;omega) | (simp at e4;done)) (fun e4=>?_);try simp only[e4]
  have qe4:=fact e4;refine .k 8 [(16,28),(21,33)] ?_;refine .n [] ?_;refine .c7 [1,3,4,5] ?_;refine c12z ?_;refine .spl 40 rfl rfl (fun e5=>by exfalso;first | omega | (replace e5:=s11z e5;omega) | (simp at e5;omega) | (simp at e5;done)) (fun e5=>?_);try simp only[e5]
  have qe5:=fact e5;refine .m [(2,40)] ?_;refine c242z ?_;refine .c7 [1,3] ?_;refine c133z ?_;refine .spl 51 rfl rfl (fun e6=>by exfalso;first | omega | (replace e6:=s11z e6;omega) | (simp at e6;omega) | (simp at e6;done)) (fun e6=>?_);try simp only[e6]
  have qe6:=fact e6;refine .k 3 [(5,51)] ?_;refine .spl 54 rfl rfl (fun e7=>by exfalso;first | omega | (replace e7:=s11z e7;omega) | (simp at e7;omega) | (simp at e7;done)) (fun e7=>?_);try simp only[e7]
  have qe7:=fact e7;refine .k 8 [(8,54),(12,58)] ?_;refine .m [(5,51)] ?_;refine c85z ?_;refine .c7 [1,3] ?_;refine c163z ?_;refine .z ?_;exact .ret (.ex (hq:=by rfl))
end
section
attribute [local go_sem] gM dY cG kP kQ iF nR eq_mk nS
theorem RX {vars:List BA}(s:BA)(hn:isName (L8 s))(hr:uR s=false):CB 179 [.agg (w8 (.leaf 2 0 s))] h (.bool true):=by
  refine .bz Tryz.f179 77 ?_;have hst:iU 2=6:=rfl;have hsz:=(gB hn).1;refine c239z ?_;refine c19z ?_;refine c103z ?_;refine .z ?_;refine .spl 10 rfl rfl (fun e1=>?_) (fun e1=>by exfalso;first | omega | (replace e1:=s11z e1;omega) | (simp at e1;omega) | (simp at e1;done));try simp only[e1]
  have qe1:=fact e1;refine .T ?_;refine c275z ?_;refine .ss z8 (mkP 28 [0,1,3,7,15,31,63,127,255,511,1023,2047,4095,0,8192,24576,57855,123391,254463,516607,1040895,2089471,4186623,8380927,16769535,33546751,33554431,134217727] []) ?_;refine .k 4 [] ?_;refine .spl 15 rfl rfl (fun e2=>by exfalso;first | omega | (replace e2:=s11z e2;omega) | (simp at e2;omega) | (simp at e2;done)) (fun e2=>?_);try simp only[e2]
  have qe2:=fact e2;refine .k 8 [(3,15),(8,20)] ?_;refine .k 5 [] ?_;refine .spl 28 rfl rfl (fun e3=>?_) (fun e3=>by exfalso;first | omega | (replace e3:=s11z e3;omega) | (simp at e3;omega) | (simp at e3;done));try simp only[e3]
  have qe3:=fact e3;refine .k 5 [(16,28)] ?_;refine .spl 33 rfl rfl (fun e4=>?_) (fun e4=>by exfalso;first | omega | (replace e4:=s11z e4;omega) | (simp at e4;omega) | (simp at e4;done));try simp only[e4]
  have qe4:=fact e4;refine .k 2 [(21,33)] ?_;refine .ca rfl rfl (nQ _ hn hr) ?_;refine .n [] ?_;refine .c7 [1,3,4,5] ?_;refine .zm [(2,40)] ?_;refine .spl 43 rfl rfl (fun e5=>by exfalso;first | omega | (replace e5:=s11z e5;omega) | (simp at e5;omega) | (simp at e5;done)) (fun e5=>?_);try simp only[e5]
  have qe5:=fact e5;refine c242z ?_;refine .c7 [1,3] ?_;refine c133z ?_;refine .spl 51 rfl rfl (fun e6=>by exfalso;first | omega | (replace e6:=s11z e6;omega) | (simp at e6;omega) | (simp at e6;done)) (fun e6=>?_);try simp only[e6]
  have qe6:=fact e6;refine .k 3 [(5,51)] ?_;refine .spl 54 rfl rfl (fun e7=>by exfalso;first | omega | (replace e7:=s11z e7;omega) | (simp at e7;omega) | (simp at e7;done)) (fun e7=>?_);try simp only[e7]
  have qe7:=fact e7;refine .k 8 [(8,54),(12,58)] ?_;refine .m [(5,51)] ?_;refine c85z ?_;refine .c7 [1,3] ?_;refine c163z ?_;refine .z ?_;exact .ret (.ex (hq:=by rfl))
end
section
attribute [local go_sem] gM dY cG kP kQ iF nR eq_mk nS
theorem RY {vars:List BA}(o:Int)(a:Ex)(ho:o=3∨o=4)(iha:∀(h:c6),CB 179 [.agg (w8 a)] h (.bool true)):CB 179 [.agg (w8 (.un o a))] h (.bool true):=by
  refine .bz Tryz.f179 77 ?_;have hst:=(qX (o:=o) (by omega) (by omega)).2.2.2.2 ho;refine c239z ?_;refine c19z ?_;refine c103z ?_;refine .z ?_;refine .spl 10 rfl rfl (fun e1=>by exfalso;first | omega | (replace e1:=s11z e1;omega) | (simp at e1;omega) | (simp at e1;done)) (fun e1=>?_);try simp only[e1]
  have qe1:=fact e1;refine c174z ?_;refine .spl 44 rfl rfl (fun e2=>?_) (fun e2=>by exfalso;first | omega | (replace e2:=s11z e2;omega) | (simp at e2;omega) | (simp at e2;done));try simp only[e2]
  have qe2:=fact e2;refine .T ?_;refine .c7 [1] ?_;refine c2z ?_;refine .seq ?_;refine c133z ?_;refine .spl 51 rfl rfl (fun e3=>by exfalso;first | omega | (replace e3:=s11z e3;omega) | (simp at e3;omega) | (simp at e3;done)) (fun e3=>?_);try simp only[e3]
  have qe3:=fact e3;refine .k 3 [(5,51)] ?_;refine .spl 54 rfl rfl (fun e4=>?_) (fun e4=>by exfalso;first | omega | (replace e4:=s11z e4;omega) | (simp at e4;omega) | (simp at e4;done));try simp only[e4]
  have qe4:=fact e4;refine .k 4 [(8,54)] ?_;refine .spl 58 rfl rfl (fun e5=>by exfalso;first | omega | (replace e5:=s11z e5;omega) | (simp at e5;omega) | (simp at e5;done)) (fun e5=>?_);try simp only[e5]
  have qe5:=fact e5;refine .m [(5,51),(8,54),(12,58)] ?_;refine .spl 64 rfl rfl (fun e6=>by exfalso;first | omega | (replace e6:=s11z e6;omega) | (simp at e6;omega) | (simp at e6;done)) (fun e6=>?_);try simp only[e6]
  have qe6:=fact e6;refine c85z ?_;refine .c7 [1,3] ?_;refine c15z ?_;refine c243z ?_;refine c102z ?_;refine .n ?_;refine .spl 76 rfl rfl (fun e7=>by exfalso;first | omega | (replace e7:=s11z e7;omega) | (simp at e7;omega) | (simp at e7;done)) (fun e7=>?_);try simp only[e7]
  have qe7:=fact e7;refine c48z ?_;refine .c7 [1,3,6] ?_;refine .rz ?_;refine c43z ?_;refine c10z ?_;exact .ret (.ex (hq:=by rfl))
end
section
attribute [local go_sem] gM dY cG kP kQ iF nR eq_mk nS
theorem RZ {vars:List BA}(o:Int)(a b:Ex)(ho:5≤o∧o≤17)(iha:∀(h:c6),CB 179 [.agg (w8 a)] h (.bool true))(ihb:∀(h:c6),CB 179 [.agg (w8 b)] h (.bool true)):CB 179 [.agg (w8 (.bin o a b))] h (.bool true):=by
  refine .bz Tryz.f179 77 ?_;have hst:=qX (o:=o) (by omega) (by omega);refine c239z ?_;refine c19z ?_;refine c103z ?_;refine .z ?_;refine .spl 10 rfl rfl (fun e1=>by exfalso;first | omega | (replace e1:=s11z e1;omega) | (simp at e1;omega) | (simp at e1;done)) (fun e1=>?_);try simp only[e1]
  have qe1:=fact e1;refine c174z ?_;refine .spl 44 rfl rfl (fun e2=>by exfalso;first | omega | (replace e2:=s11z e2;omega) | (simp at e2;omega) | (simp at e2;done)) (fun e2=>?_);try simp only[e2]
  have qe2:=fact e2;refine c242z ?_;refine .c7 [1,3] ?_;refine c133z ?_;refine .spl 51 rfl rfl (fun e3=>by exfalso;first | omega | (replace e3:=s11z e3;omega) | (simp at e3;omega) | (simp at e3;done)) (fun e3=>?_);try simp only[e3]
  have qe3:=fact e3;refine .k 3 [(5,51)] ?_;refine .spl 54 rfl rfl (fun e4=>?_) (fun e4=>by exfalso;first | omega | (replace e4:=s11z e4;omega) | (simp at e4;omega) | (simp at e4;done));try simp only[e4]
  have qe4:=fact e4;refine .k 4 [(8,54)] ?_;refine .spl 58 rfl rfl (fun e5=>by exfalso;first | omega | (replace e5:=s11z e5;omega) | (simp at e5;omega) | (simp at e5;done)) (fun e5=>?_);try simp only[e5]
  have qe5:=fact e5;refine .m [(5,51),(8,54),(12,58)] ?_;refine .spl 64 rfl rfl (fun e6=>by exfalso;first | omega | (replace e6:=s11z e6;omega) | (simp at e6;omega) | (simp at e6;done)) (fun e6=>?_);try simp only[e6]
  have qe6:=fact e6;refine c85z ?_;refine .c7 [1,3] ?_;refine c15z ?_;refine c255z ?_;refine .n ?_;refine .spl 76 rfl rfl (fun e7=>by exfalso;first | omega | (replace e7:=s11z e7;omega) | (simp at e7;omega) | (simp at e7;done)) (fun e7=>?_);try simp only[e7]
  have qe7:=fact e7;refine c48z ?_;refine .c7 [1,3,6] ?_;refine .rz ?_;refine c262z ?_;refine .n ?_;refine .spl 76 rfl rfl (fun e8=>by exfalso;first | omega | (replace e8:=s11z e8;omega) | (simp at e8;omega) | (simp at e8;done)) (fun e8=>?_);try simp only[e8]
  have qe8:=fact e8;refine c48z ?_;refine .c7 [1,3,6] ?_;refine .rz ?_;refine c43z ?_;refine c10z ?_;exact .ret (.ex (hq:=by rfl))
end
def aV (vars:List BA):Prop:=∀x∈vars,isName (L8 x)∧uR x=false
theorem aV.n (h:aV vars):Names vars:=fun x hx=>(h x hx).1
theorem D6 {vars:List BA}(hv:aV vars):∀{d:Nat} {e:Ex},GE vars d e→∀(h:c6),CB 179 [.agg (w8 e)] h (.bool true)
  | d,.leaf o n s,hg,h=>by
    rcases kZ.1 hg with ⟨rfl,h1,_,rfl⟩ | ⟨rfl,rfl,h1⟩
    · exact RW (vars:=vars) n h1
    · exact RX (vars:=vars) s (hv s h1).1 (hv s h1).2
  | 0,.un o a,hg,h=>hg.elim
  | 0,.bin o a b,hg,h=>hg.elim
  | d+1,.un o a,hg,h=>RY (vars:=vars) o a hg.1 (D6 hv hg.2)
  | d+1,.bin o a b,hg,h=>RZ (vars:=vars) o a b hg.1 (D6 hv hg.2.1) (D6 hv hg.2.2)
def mx (a b:Int):Int:=if b > a then b else a
def hgt:Ex→Int
  | .leaf ..=>0
  | .un o a=>mx 0 (if nA (.un o a) 0 then hgt a+1 else hgt a)+1
  | .bin o a b=>mx (mx 0 (if nA (.bin o a b) 0 then hgt a+1 else hgt a)) (if nA (.bin o a b) 1 then hgt b+1 else hgt b)
theorem wT:∀e:Ex,0≤hgt e∧hgt e≤2*(e.dep:Int)
  | .leaf ..=>⟨Int.le_refl _,by simp[hgt,Ex.dep]⟩
  | .un o a=>by have:=wT a;simp only[hgt,mx,Ex.dep];constructor<;>(repeat' split)<;>omega
  | .bin o a b=>by have:=wT a;have:=wT b;simp only[hgt,mx,Ex.dep];constructor<;>(repeat' split)<;>omega
section
attribute [local go_sem] gM dY cG kP kQ iF nR eq_mk nS
theorem JB (o n:Int)(s:BA)(ho:o=1∨o=2):CB 180 [.agg (w8 (.leaf o n s))] h (.int .i64 (hgt (.leaf o n s))):=by
  refine .bz Tryz.f180 34 ?_;have hst:=(qX (o:=o) (by omega) (by omega)).2.2.1.2 ho;refine c49z ?_;refine c68z ?_;refine .seq ?_;refine c144z ?_;refine .n ?_;refine .spl 30 rfl rfl (fun e1=>by exfalso;first | omega | (replace e1:=s11z e1;omega) | (simp at e1;omega) | (simp at e1;done)) (fun e1=>?_);try simp only[e1]
  have qe1:=fact e1;refine c152z ?_;exact .ret (.ex (hq:=by rfl))
end
section
attribute [local go_sem] gM dY cG kP kQ iF nR eq_mk nS
theorem JC (o:Int)(a:Ex)(ho:o=3∨o=4)(hd:a.dep≤1000)(hga:1≤a.op∧a.op≤17)(iha:∀(h:c6),CB 180 [.agg (w8 a)] h (.int .i64 (hgt a))):CB 180 [.agg (w8 (.un o a))] h (.int .i64 (hgt (.un o a))):=by
  refine .bz Tryz.f180 34 ?_;have hst:=(qX (o:=o) (by omega) (by omega)).2.2.2.2 ho;have hha:=wT a;refine c49z ?_;refine c243z ?_;refine c102z ?_;refine c127z ?_;refine .ca rfl rfl (AW (by omega) hga) ?_;refine .nil ?_;refine u2z ?_ ?_
  ·intro e1 qe1;refine c271z ?_;refine .seq ?_;refine c144z ?_;refine .n ?_;refine .spl 30 rfl rfl (fun e2=>?_) (fun e2=>by exfalso;first | omega | (replace e2:=s11z e2;omega) | (simp at e2;omega) | (simp at e2;done));try simp only[e2]
   have qe2:=fact e2;refine .T ?_;refine c2z ?_;refine .z ?_;exact .ret (.ex (hq:=t68))
  intro e1 qe1;refine .sk ?_;refine c67z ?_;change c9 _ _ _ _ _;refine c272z ?_;refine c6z ?_;refine c8z ?_;refine .seq ?_;refine c19z ?_;refine .n ?_;refine .spl 30 rfl rfl (fun e3=>?_) (fun e3=>by exfalso;first | omega | (replace e3:=s11z e3;omega) | (simp at e3;omega) | (simp at e3;done));try simp only[e3]
  have qe3:=fact e3;refine .T ?_;refine .c7 [3] ?_;refine c2z ?_;refine .z ?_;exact .ret (.ex (hq:=t68))
end
section
attribute [local go_sem] gM dY cG kP kQ iF nR eq_mk nS
theorem JD (o:Int)(a b:Ex)(ho:5≤o∧o≤17)(hd:a.dep≤1000)(hd2:b.dep≤1000)(hga:1≤a.op∧a.op≤17)(hgb:1≤b.op∧b.op≤17)(iha:∀(h:c6),CB 180 [.agg (w8 a)] h (.int .i64 (hgt a)))(ihb:∀(h:c6),CB 180 [.agg (w8 b)] h (.int .i64 (hgt b))):CB 180 [.agg (w8 (.bin o a b))] h (.int .i64 (hgt (.bin o a b))):=by
  refine .bz Tryz.f180 34 ?_;have hst:=qX (o:=o) (by omega) (by omega);have hha:=wT a;have hhb:=wT b;refine c49z ?_;refine c255z ?_;refine c127z ?_;refine .ca rfl rfl (N8 (by omega) hga) ?_;refine .nil ?_;refine u2z ?_ ?_
  ·intro e1 qe1;refine c2z ?_;refine c113z ?_;refine c262z ?_;refine c127z ?_;refine .ca rfl rfl (wS (by omega) hgb) ?_;refine .nil ?_;refine u2z ?_ ?_
   ·intro e2 qe2;refine c271z ?_;refine .seq ?_;refine c144z ?_;refine .n ?_;refine .spl 30 rfl rfl (fun e3=>by exfalso;first | omega | (replace e3:=s11z e3;omega) | (simp at e3;omega) | (simp at e3;done)) (fun e3=>?_);try simp only[e3]
    have qe3:=fact e3;refine c152z ?_;exact .ret (.ex (hq:=t68))
   intro e2 qe2;refine .sk ?_;refine c67z ?_;change c9 _ _ _ _ _;refine c272z ?_;refine c6z ?_;refine c8z ?_;refine .seq ?_;refine c19z ?_;refine .n ?_;refine .spl 30 rfl rfl (fun e4=>by exfalso;first | omega | (replace e4:=s11z e4;omega) | (simp at e4;omega) | (simp at e4;done)) (fun e4=>?_);try simp only[e4]
   have qe4:=fact e4;refine c20z ?_;refine c207z ?_;exact .ret (.ex (hq:=t68))
  intro e1 qe1;refine .sk ?_;refine c67z ?_;change c9 _ _ _ _ _;refine c272z ?_;refine c71z ?_;refine c3z ?_;refine c139z ?_;refine c127z ?_;refine .ca rfl rfl (wS (by omega) hgb) ?_;refine .nil ?_;refine u2z ?_ ?_
  ·intro e5 qe5;refine c271z ?_;refine .seq ?_;refine c144z ?_;refine .n ?_;refine .spl 30 rfl rfl (fun e6=>by exfalso;first | omega | (replace e6:=s11z e6;omega) | (simp at e6;omega) | (simp at e6;done)) (fun e6=>?_);try simp only[e6]
   have qe6:=fact e6;refine c152z ?_;exact .ret (.ex (hq:=t68))
  intro e5 qe5;refine .sk ?_;refine c67z ?_;change c9 _ _ _ _ _;refine c272z ?_;refine c6z ?_;refine c8z ?_;refine .seq ?_;refine c19z ?_;refine .n ?_;refine .spl 30 rfl rfl (fun e7=>by exfalso;first | omega | (replace e7:=s11z e7;omega) | (simp at e7;omega) | (simp at e7;done)) (fun e7=>?_);try simp only[e7]
  have qe7:=fact e7;refine c20z ?_;refine c207z ?_;exact .ret (.ex (hq:=t68))
end
theorem uT {vars:List BA}:∀{d:Nat} {e:Ex},d≤100→GE vars d e→∀(h:c6),CB 180 [.agg (w8 e)] h (.int .i64 (hgt e))
  | d,.leaf o n s,hd,hg,h=>by have h':=kZ.1 hg;exact JB o n s (by omega)
  | 0,.un o a,hd,hg,h=>hg.elim
  | 0,.bin o a b,hd,hg,h=>hg.elim
  | d+1,.un o a,hd,hg,h=>JC o a hg.1 (by have:=hg.2.dep;omega) (GE.op hg.2) (uT (by omega) hg.2)
  | d+1,.bin o a b,hd,hg,h=>JD o a b hg.1 (by have:=hg.2.1.dep;omega) (by have:=hg.2.2.dep;omega) (GE.op hg.2.1) (GE.op hg.2.2) (uT (by omega) hg.2.1) (uT (by omega) hg.2.2)
theorem AX (hv:aV vars){d:Nat}(hd:d≤12)(e:Ex)(hg:GE vars d e):CB 159 [.agg (w8 e)] h (.bool true):=by refine .bz Tryz.f159 10 ?_;have hh:=wT e;have hdp:=hg.dep;refine c259z ?_;refine .ca rfl rfl (D6 hv hg _) ?_;refine .k 2 [(2,5)] ?_;refine .ca rfl rfl (uT (by omega) hg _) ?_;refine .m [(2,5)] ?_;exact .ret (.ex (hq:=by (exact congrArg AV.bool (decide_eq_true (by omega)))))
end Go.Proofs.YtonbocmibeikmaaGreat
end
section
namespace Go.Proofs.YtonbocmibeikmaaGreat
open Go.Ab Go.Un
theorem mx6:(6≤maxLen)=True:=by simp;decide
theorem mx3:(3≤maxLen)=True:=by simp;decide
def sgS (k:Int):List BA:=if k=0 then [(⟨#[124,124]⟩:BA)] else if k=1 then [(⟨#[38,38]⟩:BA)] else if k=2 then [(⟨#[61,61]⟩:BA),(⟨#[33,61]⟩:BA),(⟨#[60]⟩:BA),(⟨#[60,61]⟩:BA),(⟨#[62]⟩:BA),(⟨#[62,61]⟩:BA)] else if k=3 then [(⟨#[43]⟩:BA),(⟨#[45]⟩:BA)] else [(⟨#[42]⟩:BA),(⟨#[47]⟩:BA),(⟨#[37]⟩:BA)]
def sgO (k:Int):List Int:=if k=0 then [17] else if k=1 then [16] else if k=2 then [14,15,10,11,12,13] else if k=3 then [8,9] else [5,6,7]
theorem SA {k:Int}(h0:0≤k)(h4:k≤4):(sgS k).length=(sgO k).length∧(sgO k).length≤6:=by
  have hc:k=0∨k=1∨k=2∨k=3∨k=4:=by omega
  rcases hc with rfl | rfl | rfl | rfl | rfl<;>decide
variable {o:Int}
theorem SB (h:5≤o∧o≤17):∀i,i<(sgO (iU o)).length→(sgO (iU o)).getD i 0=o→(sgS (iU o)).getD i ByteArray.empty=T3 o:=by
  have hcases:o=5∨o=6∨o=7∨o=8∨o=9∨o=10∨o=11∨o=12∨o=13∨o=14∨o=15∨o=16∨o=17:=by omega
  rcases hcases with rfl | rfl | rfl | rfl | rfl | rfl | rfl | rfl | rfl | rfl | rfl | rfl | rfl<;>decide
theorem SD (h:5≤o∧o≤17):¬∀i,i<(sgO (iU o)).length→(sgO (iU o)).getD i 0≠o:=by
  have hcases:o=5∨o=6∨o=7∨o=8∨o=9∨o=10∨o=11∨o=12∨o=13∨o=14∨o=15∨o=16∨o=17:=by omega
  rcases hcases with rfl | rfl | rfl | rfl | rfl | rfl | rfl | rfl | rfl | rfl | rfl | rfl | rfl<;>decide
theorem uU (h:5≤o∧o≤17):0≤iU o∧iU o≤4:=by
  have hcases:o=5∨o=6∨o=7∨o=8∨o=9∨o=10∨o=11∨o=12∨o=13∨o=14∨o=15∨o=16∨o=17:=by omega
  rcases hcases with rfl | rfl | rfl | rfl | rfl | rfl | rfl | rfl | rfl | rfl | rfl | rfl | rfl<;>decide
variable {i:Nat}
theorem AY {l:List Int}(h:∀d,d<i→l.getD d 0≠o)(e:l.getD i 0≠o):∀d,d<i+1→l.getD d 0≠o:=fun d hd=>by
  by_cases hdi:d=i
  · rw[hdi];exact e
  · exact h d (by omega)
theorem D7 {a:Array UInt8}:(⟨a⟩:BA).size=a.size:=rfl
variable {h:c6}{a:Ex}{p:Bool}
theorem c_innU (hp:nA (.un o a) 0=p)(h1:1≤o∧o≤17)(h2:1≤a.op∧a.op≤17):CB 189 [.agg [.int .i64 o,.int .i64 0,.str ByteArray.empty,.vec 1 (w8 a)],.int .i64 0] h (.bool p):=by subst hp;exact AW h1 h2
theorem c_inn0 {b:Ex}(hp:nA (.bin o a b) 0=p)(h1:1≤o∧o≤17)(h2:1≤a.op∧a.op≤17):CB 189 [.agg [.int .i64 o,.int .i64 0,.str ByteArray.empty,.vec 2 (w8 a++w8 b)],.int .i64 0] h (.bool p):=by subst hp;exact N8 h1 h2
theorem c_inn1 {b:Ex}(hp:nA (.bin o a b) 1=p)(h1:1≤o∧o≤17)(h2:1≤b.op∧b.op≤17):CB 189 [.agg [.int .i64 o,.int .i64 0,.str ByteArray.empty,.vec 2 (w8 a++w8 b)],.int .i64 1] h (.bool p):=by subst hp;exact wS h1 h2
attribute [local go_sem] j9 rd oH bE o7 cB dQ l8 Int.natCast_nonneg Int.natCast_inj List.length_map wrap64 EL wrapU iF AQ M7 T7 AR D0 max2 nF mx6 mx3 D7 bD gM dY cG kP kQ nR eq_mk nS tD yZ Nat.reduceMul
theorem c_signs (k:Int):CB 186 [.int .i64 k] h (.tup [.vec (sgS k).length (bA (sgS k)),.vec (sgO k).length (g8 (sgO k))]):=by
  refine .bz Tryz.f186 23 ?_;refine c16z ?_;refine .z ?_;refine u2z ?_ ?_
  ·intro e1 qe1;refine .z ?_;exact .ret (.ex (hf:=t38) (hq:=t133))
  intro e1 qe1;refine .z ?_;refine u2z ?_ ?_
  ·intro e2 qe2;refine c10z ?_;exact .ret (.ex (hf:=t38) (hq:=t133))
  intro e2 qe2;refine .z ?_;refine u2z ?_ ?_
  ·intro e3 qe3;refine c10z ?_;exact .ret (.ex (hf:=t38) (hq:=t133))
  intro e3 qe3;refine .c7 [4] ?_;refine .z ?_;refine u2z ?_ ?_
  ·intro e4 qe4;refine .z ?_;exact .ret (.ex (hf:=t38) (hq:=t133))
  intro e4 qe4;refine c5z ?_;refine .z ?_;exact .ret (.ex (hf:=t38) (hq:=t133))
theorem c_text1 (n:Int)(h0:0≤n)(h1:n<4611686018427387904):CB 182 [.agg (w8 (.leaf 1 n ByteArray.empty))] h (.str (dF (.leaf 1 n ByteArray.empty))):=by refine .bz Tryz.f182 95 ?_;refine c49z ?_;refine c68z ?_;refine .sb ?_;refine .c7 [1,3] ?_;refine c71z ?_;refine c17z ?_;refine .ca rfl rfl (c_num _ (by omega) (by omega)) ?_;refine .n ?_;exact .ret (.ex (hq:=by (rw[ED,if_neg (by omega)];rfl)))
theorem c_text2 (n:Int)(s:BA):CB 182 [.agg (w8 (.leaf 2 n s))] h (.str (dF (.leaf 2 n s))):=by refine .bz Tryz.f182 95 ?_;refine c49z ?_;refine c68z ?_;refine .sb ?_;refine .c7 [1,3] ?_;refine c175z ?_;refine c275z ?_;exact .ret (.ex (hq:=by rfl))
theorem c_textU (o:Int)(a:Ex)(ho:o=3∨o=4)(hga:1≤a.op∧a.op≤17)(iha:∀(h:c6),CB 182 [.agg (w8 a)] h (.str (dF a)))(hsa:(dF a).size<1000000):CB 182 [.agg (w8 (.un o a))] h (.str (dF (.un o a))):=by
  refine .bz Tryz.f182 95 ?_;refine c49z ?_;refine c243z ?_;refine c102z ?_;refine c127z ?_;refine .ca rfl rfl (c_innU rfl (by omega) hga) ?_;refine .nil ?_;refine u2z ?_ ?_
  ·intro e1 qe1;refine c271z ?_;refine c281z ?_;refine .spl 32 rfl rfl (fun e2=>by exfalso;first | omega | (replace e2:=s11z e2;omega) | (simp at e2;omega) | (simp at e2;done)) (fun e2=>?_);try simp only[e2]
   have qe2:=fact e2;refine c174z ?_;refine .spl 39 rfl rfl (fun e3=>by exfalso;first | omega | (replace e3:=s11z e3;omega) | (simp at e3;omega) | (simp at e3;done)) (fun e3=>?_);try simp only[e3]
   have qe3:=fact e3;refine .F ?_;refine c95z ?_;refine u2z ?_ ?_
   ·intro e4 qe4;refine .z ?_;exact .ret (.ex (hq:=t185))
   intro e4 qe4;refine .z ?_;refine .spl 53 rfl rfl (fun e5=>?_) (fun e5=>by exfalso;first | omega | (replace e5:=s11z e5;omega) | (simp at e5;omega) | (simp at e5;done));try simp only[e5]
   have qe5:=fact e5;refine .T ?_;refine c207z ?_;exact .ret (.ex (hq:=t185))
  intro e1 qe1;refine .sk ?_;refine c179z ?_;refine c281z ?_;refine .spl 32 rfl rfl (fun e6=>by exfalso;first | omega | (replace e6:=s11z e6;omega) | (simp at e6;omega) | (simp at e6;done)) (fun e6=>?_);try simp only[e6]
  have qe6:=fact e6;refine c174z ?_;refine .spl 39 rfl rfl (fun e7=>by exfalso;first | omega | (replace e7:=s11z e7;omega) | (simp at e7;omega) | (simp at e7;done)) (fun e7=>?_);try simp only[e7]
  have qe7:=fact e7;refine .F ?_;refine c95z ?_;refine u2z ?_ ?_
  ·intro e8 qe8;refine .z ?_;exact .ret (.ex (hq:=t185))
  intro e8 qe8;refine .z ?_;refine .spl 53 rfl rfl (fun e9=>?_) (fun e9=>by exfalso;first | omega | (replace e9:=s11z e9;omega) | (simp at e9;omega) | (simp at e9;done));try simp only[e9]
  have qe9:=fact e9;refine .T ?_;refine c207z ?_;exact .ret (.ex (hq:=t185))
theorem JE (o:Int)(a b:Ex)(ho:5≤o∧o≤17)(hga:1≤a.op∧a.op≤17)(hgb:1≤b.op∧b.op≤17)(hp:nA (.bin o a b) 0=true)(hq:nA (.bin o a b) 1=true)(iha:∀(h:c6),CB 182 [.agg (w8 a)] h (.str (dF a)))(hsa:(dF a).size<1000000)(ihb:∀(h:c6),CB 182 [.agg (w8 b)] h (.str (dF b)))(hsb:(dF b).size<1000000):CB 182 [.agg (w8 (.bin o a b))] h (.str (dF (.bin o a b))):=by
  refine .bz Tryz.f182 95 ?_;have hst:=uU ho;have hsg:=SA hst.1 hst.2;have hsa2:=SB ho;have hse:=(wG ho).2;refine c49z ?_;refine c255z ?_;refine c170z ?_;refine .nil ?_;refine .T ?_;refine c2z ?_;refine c113z ?_;refine c262z ?_;refine c171z ?_;refine .nil ?_;refine .T ?_;refine c271z ?_;refine c281z ?_;refine .spl 32 rfl rfl (fun e1=>by exfalso;first | omega | (replace e1:=s11z e1;omega) | (simp at e1;omega) | (simp at e1;done)) (fun e1=>?_);try simp only[e1]
  have qe1:=fact e1;refine c174z ?_;refine .spl 39 rfl rfl (fun e2=>by exfalso;first | omega | (replace e2:=s11z e2;omega) | (simp at e2;omega) | (simp at e2;done)) (fun e2=>?_);try simp only[e2]
  have qe2:=fact e2;refine .F ?_;refine c95z ?_;refine .spl 45 rfl rfl (fun e3=>by exfalso;first | omega | (replace e3:=s11z e3;omega) | (simp at e3;omega) | (simp at e3;done)) (fun e3=>?_);try simp only[e3]
  have qe3:=fact e3;refine c174z ?_;refine .spl 53 rfl rfl (fun e4=>by exfalso;first | omega | (replace e4:=s11z e4;omega) | (simp at e4;omega) | (simp at e4;done)) (fun e4=>?_);try simp only[e4]
  have qe4:=fact e4;refine c48z ?_;refine c231z ?_;refine .n ?_;refine c7z ?_;refine .aR (fun m st=>∃(i:Nat),(m=(sgO (iU o)).length-i∧((∀d,d<i→(sgO (iU o)).getD d 0≠o)∧i≤(sgO (iU o)).length))∧st=⟨mkS 95 [(1,AV.ptr h.length 0 0),(3,AV.own (h.length+2) 1 0 2),(6,AV.vec (sgS (iU o)).length (bA (sgS (iU o)))),(7,AV.vec (sgO (iU o)).length (g8 (sgO (iU o)))),(8,AV.int .i64 ((i:Nat):Int))],h++[⟨0,false,49,4,[.int .i64 o,.int .i64 0,.str ByteArray.empty,.vec 2 (w8 a++w8 b)],0⟩,⟨0,false,9,1,[.str (⟨#[40]⟩++dF a++⟨#[41]⟩)],0⟩,⟨1,false,9,1,[.str (⟨#[40]⟩++dF a++⟨#[41]⟩),.str (⟨#[40]⟩++dF b++⟨#[41]⟩)],0⟩,⟨0,false,9,1,[.str (⟨#[40]⟩++dF b++⟨#[41]⟩)],0⟩]⟩) _ (.v ⟨0,⟨rfl,⟨t78,by omega⟩⟩,rfl⟩) ?_;rintro m sl h' ⟨i,⟨hm,⟨hI,hi⟩⟩,hst⟩;obtain ⟨rfl,rfl⟩:=St.mk.inj hst;refine c1z ?_;refine u2z ?_ ?_
  ·intro e5 qe5;refine c3z ?_;refine c154z ?_;refine u2z ?_ ?_
   ·intro e6 qe6;refine .c7 [3,6,8] ?_;have hsi:=hsa2 i (by omega) (by assumption);have hss:((sgS (iU o)).getD i ByteArray.empty).size≤2:=by rw[hsi];exact hse
    refine c81z ?_;exact .ret (.ex (hq:=t163))
   intro e6 qe6;refine c246z ?_;refine .rz ?_;exact ⟨_,by omega,.v ⟨(i+1),⟨rfl,⟨AY hI (by assumption),by omega⟩⟩,rfl⟩⟩
  intro e5 qe5;refine .exit ?_;exfalso;exact SD ho (fun d hd=>hI d (by omega))
theorem JF (o:Int)(a b:Ex)(ho:5≤o∧o≤17)(hga:1≤a.op∧a.op≤17)(hgb:1≤b.op∧b.op≤17)(hp:nA (.bin o a b) 0=true)(hq:nA (.bin o a b) 1=false)(iha:∀(h:c6),CB 182 [.agg (w8 a)] h (.str (dF a)))(hsa:(dF a).size<1000000)(ihb:∀(h:c6),CB 182 [.agg (w8 b)] h (.str (dF b)))(hsb:(dF b).size<1000000):CB 182 [.agg (w8 (.bin o a b))] h (.str (dF (.bin o a b))):=by
  refine .bz Tryz.f182 95 ?_;have hst:=uU ho;have hsg:=SA hst.1 hst.2;have hsa2:=SB ho;have hse:=(wG ho).2;refine c49z ?_;refine c255z ?_;refine c170z ?_;refine .nil ?_;refine .T ?_;refine c2z ?_;refine c113z ?_;refine c262z ?_;refine c171z ?_;refine .nil ?_;refine c20z ?_;refine c179z ?_;refine c281z ?_;refine .spl 32 rfl rfl (fun e1=>by exfalso;first | omega | (replace e1:=s11z e1;omega) | (simp at e1;omega) | (simp at e1;done)) (fun e1=>?_);try simp only[e1]
  have qe1:=fact e1;refine c174z ?_;refine .spl 39 rfl rfl (fun e2=>by exfalso;first | omega | (replace e2:=s11z e2;omega) | (simp at e2;omega) | (simp at e2;done)) (fun e2=>?_);try simp only[e2]
  have qe2:=fact e2;refine .F ?_;refine c95z ?_;refine .spl 45 rfl rfl (fun e3=>by exfalso;first | omega | (replace e3:=s11z e3;omega) | (simp at e3;omega) | (simp at e3;done)) (fun e3=>?_);try simp only[e3]
  have qe3:=fact e3;refine c174z ?_;refine .spl 53 rfl rfl (fun e4=>by exfalso;first | omega | (replace e4:=s11z e4;omega) | (simp at e4;omega) | (simp at e4;done)) (fun e4=>?_);try simp only[e4]
  have qe4:=fact e4;refine c48z ?_;refine c231z ?_;refine .n ?_;refine c7z ?_;refine .aR (fun m st=>∃(i:Nat),(m=(sgO (iU o)).length-i∧((∀d,d<i→(sgO (iU o)).getD d 0≠o)∧i≤(sgO (iU o)).length))∧st=⟨mkS 95 [(1,AV.ptr h.length 0 0),(3,AV.own (h.length+2) 1 0 2),(6,AV.vec (sgS (iU o)).length (bA (sgS (iU o)))),(7,AV.vec (sgO (iU o)).length (g8 (sgO (iU o)))),(8,AV.int .i64 ((i:Nat):Int))],h++[⟨0,false,49,4,[.int .i64 o,.int .i64 0,.str ByteArray.empty,.vec 2 (w8 a++w8 b)],0⟩,⟨0,false,9,1,[.str (⟨#[40]⟩++dF a++⟨#[41]⟩)],0⟩,⟨1,false,9,1,[.str (⟨#[40]⟩++dF a++⟨#[41]⟩),.str (dF b)],0⟩,⟨0,false,9,1,[.str (dF b)],0⟩]⟩) _ (.v ⟨0,⟨rfl,⟨t78,by omega⟩⟩,rfl⟩) ?_;rintro m sl h' ⟨i,⟨hm,⟨hI,hi⟩⟩,hst⟩;obtain ⟨rfl,rfl⟩:=St.mk.inj hst;refine c1z ?_;refine u2z ?_ ?_
  ·intro e5 qe5;refine c3z ?_;refine c154z ?_;refine u2z ?_ ?_
   ·intro e6 qe6;refine .c7 [3,6,8] ?_;have hsi:=hsa2 i (by omega) (by assumption);have hss:((sgS (iU o)).getD i ByteArray.empty).size≤2:=by rw[hsi];exact hse
    refine c81z ?_;exact .ret (.ex (hq:=t163))
   intro e6 qe6;refine c246z ?_;refine .rz ?_;exact ⟨_,by omega,.v ⟨(i+1),⟨rfl,⟨AY hI (by assumption),by omega⟩⟩,rfl⟩⟩
  intro e5 qe5;refine .exit ?_;exfalso;exact SD ho (fun d hd=>hI d (by omega))
theorem JG (o:Int)(a b:Ex)(ho:5≤o∧o≤17)(hga:1≤a.op∧a.op≤17)(hgb:1≤b.op∧b.op≤17)(hp:nA (.bin o a b) 0=false)(hq:nA (.bin o a b) 1=true)(iha:∀(h:c6),CB 182 [.agg (w8 a)] h (.str (dF a)))(hsa:(dF a).size<1000000)(ihb:∀(h:c6),CB 182 [.agg (w8 b)] h (.str (dF b)))(hsb:(dF b).size<1000000):CB 182 [.agg (w8 (.bin o a b))] h (.str (dF (.bin o a b))):=by
  refine .bz Tryz.f182 95 ?_;have hst:=uU ho;have hsg:=SA hst.1 hst.2;have hsa2:=SB ho;have hse:=(wG ho).2;refine c49z ?_;refine c255z ?_;refine c170z ?_;refine .nil ?_;refine c20z ?_;refine c113z ?_;refine c262z ?_;refine c171z ?_;refine .nil ?_;refine .T ?_;refine c271z ?_;refine c281z ?_;refine .spl 32 rfl rfl (fun e1=>by exfalso;first | omega | (replace e1:=s11z e1;omega) | (simp at e1;omega) | (simp at e1;done)) (fun e1=>?_);try simp only[e1]
  have qe1:=fact e1;refine c174z ?_;refine .spl 39 rfl rfl (fun e2=>by exfalso;first | omega | (replace e2:=s11z e2;omega) | (simp at e2;omega) | (simp at e2;done)) (fun e2=>?_);try simp only[e2]
  have qe2:=fact e2;refine .F ?_;refine c95z ?_;refine .spl 45 rfl rfl (fun e3=>by exfalso;first | omega | (replace e3:=s11z e3;omega) | (simp at e3;omega) | (simp at e3;done)) (fun e3=>?_);try simp only[e3]
  have qe3:=fact e3;refine c174z ?_;refine .spl 53 rfl rfl (fun e4=>by exfalso;first | omega | (replace e4:=s11z e4;omega) | (simp at e4;omega) | (simp at e4;done)) (fun e4=>?_);try simp only[e4]
  have qe4:=fact e4;refine c48z ?_;refine c231z ?_;refine .n ?_;refine c7z ?_;refine .aR (fun m st=>∃(i:Nat),(m=(sgO (iU o)).length-i∧((∀d,d<i→(sgO (iU o)).getD d 0≠o)∧i≤(sgO (iU o)).length))∧st=⟨mkS 95 [(1,AV.ptr h.length 0 0),(3,AV.own (h.length+2) 1 0 2),(6,AV.vec (sgS (iU o)).length (bA (sgS (iU o)))),(7,AV.vec (sgO (iU o)).length (g8 (sgO (iU o)))),(8,AV.int .i64 ((i:Nat):Int))],h++[⟨0,false,49,4,[.int .i64 o,.int .i64 0,.str ByteArray.empty,.vec 2 (w8 a++w8 b)],0⟩,⟨0,false,9,1,[.str (dF a)],0⟩,⟨1,false,9,1,[.str (dF a),.str (⟨#[40]⟩++dF b++⟨#[41]⟩)],0⟩,⟨0,false,9,1,[.str (⟨#[40]⟩++dF b++⟨#[41]⟩)],0⟩]⟩) _ (.v ⟨0,⟨rfl,⟨t78,by omega⟩⟩,rfl⟩) ?_;rintro m sl h' ⟨i,⟨hm,⟨hI,hi⟩⟩,hst⟩;obtain ⟨rfl,rfl⟩:=St.mk.inj hst;refine c1z ?_;refine u2z ?_ ?_
  ·intro e5 qe5;refine c3z ?_;refine c154z ?_;refine u2z ?_ ?_
   ·intro e6 qe6;refine .c7 [3,6,8] ?_;have hsi:=hsa2 i (by omega) (by assumption);have hss:((sgS (iU o)).getD i ByteArray.empty).size≤2:=by rw[hsi];exact hse
    refine c81z ?_;exact .ret (.ex (hq:=t163))
   intro e6 qe6;refine c246z ?_;refine .rz ?_;exact ⟨_,by omega,.v ⟨(i+1),⟨rfl,⟨AY hI (by assumption),by omega⟩⟩,rfl⟩⟩
  intro e5 qe5;refine .exit ?_;exfalso;exact SD ho (fun d hd=>hI d (by omega))
theorem JH (o:Int)(a b:Ex)(ho:5≤o∧o≤17)(hga:1≤a.op∧a.op≤17)(hgb:1≤b.op∧b.op≤17)(hp:nA (.bin o a b) 0=false)(hq:nA (.bin o a b) 1=false)(iha:∀(h:c6),CB 182 [.agg (w8 a)] h (.str (dF a)))(hsa:(dF a).size<1000000)(ihb:∀(h:c6),CB 182 [.agg (w8 b)] h (.str (dF b)))(hsb:(dF b).size<1000000):CB 182 [.agg (w8 (.bin o a b))] h (.str (dF (.bin o a b))):=by
  refine .bz Tryz.f182 95 ?_;have hst:=uU ho;have hsg:=SA hst.1 hst.2;have hsa2:=SB ho;have hse:=(wG ho).2;refine c49z ?_;refine c255z ?_;refine c170z ?_;refine .nil ?_;refine c20z ?_;refine c113z ?_;refine c262z ?_;refine c171z ?_;refine .nil ?_;refine c20z ?_;refine c179z ?_;refine c281z ?_;refine .spl 32 rfl rfl (fun e1=>by exfalso;first | omega | (replace e1:=s11z e1;omega) | (simp at e1;omega) | (simp at e1;done)) (fun e1=>?_);try simp only[e1]
  have qe1:=fact e1;refine c174z ?_;refine .spl 39 rfl rfl (fun e2=>by exfalso;first | omega | (replace e2:=s11z e2;omega) | (simp at e2;omega) | (simp at e2;done)) (fun e2=>?_);try simp only[e2]
  have qe2:=fact e2;refine .F ?_;refine c95z ?_;refine .spl 45 rfl rfl (fun e3=>by exfalso;first | omega | (replace e3:=s11z e3;omega) | (simp at e3;omega) | (simp at e3;done)) (fun e3=>?_);try simp only[e3]
  have qe3:=fact e3;refine c174z ?_;refine .spl 53 rfl rfl (fun e4=>by exfalso;first | omega | (replace e4:=s11z e4;omega) | (simp at e4;omega) | (simp at e4;done)) (fun e4=>?_);try simp only[e4]
  have qe4:=fact e4;refine c48z ?_;refine c231z ?_;refine .n ?_;refine c7z ?_;refine .aR (fun m st=>∃(i:Nat),(m=(sgO (iU o)).length-i∧((∀d,d<i→(sgO (iU o)).getD d 0≠o)∧i≤(sgO (iU o)).length))∧st=⟨mkS 95 [(1,AV.ptr h.length 0 0),(3,AV.own (h.length+2) 1 0 2),(6,AV.vec (sgS (iU o)).length (bA (sgS (iU o)))),(7,AV.vec (sgO (iU o)).length (g8 (sgO (iU o)))),(8,AV.int .i64 ((i:Nat):Int))],h++[⟨0,false,49,4,[.int .i64 o,.int .i64 0,.str ByteArray.empty,.vec 2 (w8 a++w8 b)],0⟩,⟨0,false,9,1,[.str (dF a)],0⟩,⟨1,false,9,1,[.str (dF a),.str (dF b)],0⟩,⟨0,false,9,1,[.str (dF b)],0⟩]⟩) _ (.v ⟨0,⟨rfl,⟨t78,by omega⟩⟩,rfl⟩) ?_;rintro m sl h' ⟨i,⟨hm,⟨hI,hi⟩⟩,hst⟩;obtain ⟨rfl,rfl⟩:=St.mk.inj hst;refine c1z ?_;refine u2z ?_ ?_
  ·intro e5 qe5;refine c3z ?_;refine c154z ?_;refine u2z ?_ ?_
   ·intro e6 qe6;refine .c7 [3,6,8] ?_;have hsi:=hsa2 i (by omega) (by assumption);have hss:((sgS (iU o)).getD i ByteArray.empty).size≤2:=by rw[hsi];exact hse
    refine c81z ?_;exact .ret (.ex (hq:=t163))
   intro e6 qe6;refine c246z ?_;refine .rz ?_;exact ⟨_,by omega,.v ⟨(i+1),⟨rfl,⟨AY hI (by assumption),by omega⟩⟩,rfl⟩⟩
  intro e5 qe5;refine .exit ?_;exfalso;exact SD ho (fun d hd=>hI d (by omega))
theorem c_textB (o:Int)(a b:Ex)(ho:5≤o∧o≤17)(hga:1≤a.op∧a.op≤17)(hgb:1≤b.op∧b.op≤17)(iha:∀(h:c6),CB 182 [.agg (w8 a)] h (.str (dF a)))(hsa:(dF a).size<1000000)(ihb:∀(h:c6),CB 182 [.agg (w8 b)] h (.str (dF b)))(hsb:(dF b).size<1000000):CB 182 [.agg (w8 (.bin o a b))] h (.str (dF (.bin o a b))):=by
  cases hp:nA (.bin o a b) 0<;>cases hq:nA (.bin o a b) 1
  · exact JH o a b ho hga hgb hp hq iha hsa ihb hsb
  · exact JG o a b ho hga hgb hp hq iha hsa ihb hsb
  · exact JF o a b ho hga hgb hp hq iha hsa ihb hsb
  · exact JE o a b ho hga hgb hp hq iha hsa ihb hsb
theorem U3:∀{d:Nat},d≤3→H3 d<1000000
  | 0,_=>by decide
  | 1,_=>by decide
  | 2,_=>by decide
  | 3,_=>by decide
theorem wU {vars:List BA}(hv:Names vars):∀{d:Nat} {e:Ex},d≤3→GE vars d e→∀(h:c6),CB 182 [.agg (w8 e)] h (.str (dF e))
  | d,.leaf o n s,hd,hg,h=>by
    rcases kZ.1 hg with ⟨rfl,h1,h2,rfl⟩ | ⟨rfl,rfl,h1⟩
    · exact c_text1 n h1 h2
    · exact c_text2 0 s
  | 0,.un o a,hd,hg,h=>hg.elim
  | 0,.bin o a b,hd,hg,h=>hg.elim
  | d+1,.un o a,hd,hg,h=>c_textU o a hg.1 (GE.op hg.2) (wU hv (by omega) hg.2) (Nat.lt_of_le_of_lt (dI hv hg.2).2 (U3 (by omega)))
  | d+1,.bin o a b,hd,hg,h=>c_textB o a b hg.1 (GE.op hg.2.1) (GE.op hg.2.2) (wU hv (by omega) hg.2.1) (Nat.lt_of_le_of_lt (dI hv hg.2.1).2 (U3 (by omega))) (wU hv (by omega) hg.2.2) (Nat.lt_of_le_of_lt (dI hv hg.2.2).2 (U3 (by omega)))
theorem JI {e:Ex}:o2 [e]=w8 e:=by simp[o2]
theorem JJ (x:BA):CB 184 [.agg [.str x,.vec 0 []]] h (.str x):=by refine .bz Tryz.f184 19 ?_;refine c108z ?_;refine .T ?_;refine .z ?_;exact .ret (.ex (hq:=by rfl))
variable {vars:List BA}
theorem c_refT1 (hv:Names vars)(x:BA)(e:Ex)(hg:GE vars 1 e)(hx:x.size≤16):CB 184 [.agg [.str x,.vec 1 (w8 e)]] h (.str (x++OS++dF e++OT)):=by refine .bz Tryz.f184 19 ?_;have hse:=(dI hv hg).2;have hb:H3 1=48:=rfl;refine c108z ?_;refine c20z ?_;refine .ss z8 (mkP 11 [0,1,3,0,8,24,56,120,255,511,1023] []) ?_;refine .k 7 [] ?_;refine .ca rfl rfl (wU hv (by omega) hg _) ?_;refine .n [] ?_;exact .ret (.ex (hq:=by rfl))
variable {E:Env}
theorem AZ (hE:uI E)(hv:Names vars){r:Rf}(g:GR E vars r):CB 184 [.agg (AG r)] h (.str (OU r)):=by
  obtain ⟨x,idx⟩:=r;rcases g with ⟨m,hm,hn,⟨_,e,hi,he⟩ | ⟨_,hi⟩⟩ | ⟨p,hp,_,hn,hi⟩
  · have hx:=aP (hE.mn m hm)
    simp only at hn hi;rw[←hn]at hx;subst hi;have:=c_refT1 (h:=h) hv x e he hx;simp only[AG,List.length_singleton,JI];exact this
  · simp only at hi
    subst hi;exact JJ x
  · simp only at hi
    subst hi;exact JJ x
variable {xs:List Ar}
theorem SE (h:(xs.getD i eR).mu=true)(h0:0<i):gH xs (i+1)=gH xs i++nB++cN++OU (xs.getD i eR).r:=by rw[gH,if_pos h,if_pos h0]
theorem SF (h:(xs.getD i eR).mu=true)(h0:¬0<i):gH xs (i+1)=gH xs i++cN++OU (xs.getD i eR).r:=by rw[gH,if_pos h,if_neg h0]
theorem SG (h:(xs.getD i eR).mu=false)(h0:0<i):gH xs (i+1)=gH xs i++nB++dF (xs.getD i eR).e:=by rw[gH,if_neg t219,if_pos h0]
theorem SH (h:(xs.getD i eR).mu=false)(h0:¬0<i):gH xs (i+1)=gH xs i++dF (xs.getD i eR).e:=by rw[gH,if_neg t219,if_neg h0]
theorem wV {a:Ar}:FL a=[.bool a.mu,.str a.r.name,.vec a.r.idx.length (o2 a.r.idx),.int .i64 a.e.op,.int .i64 a.e.num,.str a.e.name,.vec a.e.args.length (o2 a.e.args)]:=by rw[FL,cM]
variable {l:List Ar}
theorem SI (h:i<l.length):List.take 1 (List.drop (i*7) (cC l))=[AV.bool (l.getD i eR).mu]:=by have:=congrArg (fun x=>x.take 1) (wD h);simp only[List.take_take,wV]at this;simpa using this
theorem read_ar (h:i<l.length):List.take 2 (List.drop (i*7+1) (cC l))=AG (l.getD i eR).r:=by have:=congrArg (fun x=>(x.drop 1).take 2) (wD h);simp only[wV,List.drop_take,List.take_take,List.drop_drop]at this;simpa [AG] using this
theorem read_ae (h:i<l.length):List.take 4 (List.drop (i*7+3) (cC l))=w8 (l.getD i eR).e:=by have:=congrArg (fun x=>(x.drop 3).take 4) (wD h);simp only[wV,List.drop_take,List.take_take,List.drop_drop]at this;rw[cM];simpa using this
theorem EN (hE:uI E)(hv:Names vars)(h:∀a∈xs,(a.mu=true∧GR E vars a.r)∨(a.mu=false∧GE vars 2 a.e))(i:Nat)(hi:i≤xs.length):(gH xs i).size≤1+112*i:=(C6 hE hv h i hi).2.1
theorem XP (h:∀a∈xs,(a.mu=true∧GR E vars a.r)∨(a.mu=false∧GE vars 2 a.e))(hi:i<xs.length):((xs.getD i eR).mu=true→GR E vars (xs.getD i eR).r)∧((xs.getD i eR).mu=false→GE vars 2 (xs.getD i eR).e):=by
  have hm:=h _ (j0 (d:=eR) hi);rcases hm with ⟨h1,h2⟩ | ⟨h1,h2⟩
  · exact ⟨fun _=>h2,fun h=>absurd (h1.symm.trans h) (by decide)⟩
  · exact ⟨fun h=>absurd (h1.symm.trans h) (by decide),fun _=>h2⟩
section
attribute [local go_sem] SI read_ar read_ae
theorem JK (hE:uI E)(hv:Names vars)(xs:List Ar)(ha:∀a∈xs,(a.mu=true∧GR E vars a.r)∨(a.mu=false∧GE vars 2 a.e))(hl:xs.length≤100):CB 183 [.vec xs.length (cC xs)] h (.str (WZ xs)):=by
  refine .bz Tryz.f183 39 ?_;refine c49z ?_;refine .aR (fun m st=>∃(i:Nat),(m=xs.length-i∧i≤xs.length)∧st=⟨mkS 39 [(0,AV.vec xs.length (cC xs)),(3,AV.str (gH xs i)),(4,AV.int .i64 ((i:Nat):Int))],h⟩) _ (.v ⟨0,⟨rfl,by omega⟩,rfl⟩ (hs:=t32)) ?_;rintro m sl h' ⟨i,⟨hm,hi⟩,hst⟩;obtain ⟨rfl,rfl⟩:=St.mk.inj hst;have hsz:=EN hE hv ha i hi;refine c1z ?_;refine u2z ?_ ?_
  ·intro e1 qe1;refine c3z ?_;refine c1z ?_;refine u2z ?_ ?_
   ·intro e2 qe2;refine c2z ?_;refine .c7 [0,3,4] ?_;have har:=XP ha (i:=i) (by omega);refine .z ?_;refine u2z ?_ ?_
    ·intro e3 qe3;have hrs:=((har.1 (by assumption)).pw hE hv).2;refine .r ?_;refine .e 7 ?_;refine .ca rfl rfl (AZ hE hv (har.1 (by assumption))) ?_;refine c273z ?_;refine .rz ?_;exact ⟨_,by omega,.v ⟨(i+1),⟨rfl,by omega⟩,rfl⟩ (hs:=t32)⟩
    intro e3 qe3;have hes:=(dI hv (har.2 (by assumption))).2;have hb:H3 2=104:=rfl;refine .r ?_;refine .e 6 ?_;refine .ca rfl rfl (wU hv (by omega) (har.2 (by assumption)) _) ?_;refine c273z ?_;refine .rz ?_;exact ⟨_,by omega,.v ⟨(i+1),⟨rfl,by omega⟩,rfl⟩ (hs:=t32)⟩
   intro e2 qe2;refine .sk ?_;have har:=XP ha (i:=i) (by omega);refine .z ?_;refine u2z ?_ ?_
   ·intro e4 qe4;refine .c7 [0,3,4] ?_;have hrs:=((har.1 (by assumption)).pw hE hv).2;refine .r ?_;refine .e 7 ?_;refine .ca rfl rfl (AZ hE hv (har.1 (by assumption))) ?_;refine c273z ?_;refine .rz ?_;exact ⟨_,by omega,.v ⟨(i+1),⟨rfl,by omega⟩,rfl⟩ (hs:=t32)⟩
   intro e4 qe4;refine .c7 [0,3,4] ?_;have hes:=(dI hv (har.2 (by assumption))).2;have hb:H3 2=104:=rfl;refine .r ?_;refine .e 6 ?_;refine .ca rfl rfl (wU hv (by omega) (har.2 (by assumption)) _) ?_;refine c273z ?_;refine .rz ?_;exact ⟨_,by omega,.v ⟨(i+1),⟨rfl,by omega⟩,rfl⟩ (hs:=t32)⟩
  intro e1 qe1;refine .exit ?_;obtain rfl:i=xs.length:=by omega
  change c9 ..;refine c28z ?_;exact ⟨[],_,(List.append_nil _).symm,t42,by rfl⟩
end
section
attribute [local go_sem] l9
theorem c_noE:CB 160 [.agg (w8 l9)] h (.bool true):=by refine .bz Tryz.f160 22 ?_;refine .z ?_;refine .s ?_;refine .k 8 [(3,6)] ?_;refine .k 8 [(8,11),(13,16)] ?_;refine .m [(13,16)] ?_;exact .ret (.ex (hq:=by rfl))
end
theorem c_noR:CB 162 [.agg (AG o1)] h (.bool true):=by show CallA _ _ _ [.agg [.str ByteArray.empty,.vec 0 []]] _ _;refine .bz Tryz.f162 12 ?_;refine .z ?_;refine .s ?_;refine .k 8 [(3,6)] ?_;refine .n ?_;exact .ret (.ex (hq:=by rfl))
theorem XQ (x:BA)(hx:isName (L8 x))(hr:uR x=false):CB 161 [.agg [.str x,.vec 0 []]] h (.bool true):=by refine .bz Tryz.f161 25 ?_;refine c209z ?_;refine .ca rfl rfl (nQ _ hx hr) ?_;refine .k 8 [(3,6),(8,11)] ?_;refine .k 8 [(8,11),(13,16)] ?_;refine .m [(3,6),(8,11)] ?_;exact .ret (.ex (hq:=by rfl))
theorem c_okR1 (hv:aV vars)(x:BA)(hx:isName (L8 x))(hr:uR x=false)(e:Ex)(hg:GE vars 1 e):CB 161 [.agg [.str x,.vec 1 (w8 e)]] h (.bool true):=by refine .bz Tryz.f161 25 ?_;refine c209z ?_;refine .ca rfl rfl (nQ _ hx hr) ?_;refine .k 8 [(3,6),(8,11)] ?_;refine .k 7 [(8,11),(13,16)] ?_;refine .ca rfl rfl (AX hv (by omega) e hg) ?_;refine .m [(3,6),(8,11)] ?_;exact .ret (.ex (hq:=by rfl))
structure GRes (E:Env):Prop where
  mn:∀m∈E.c4,uR m.name=false
  pn:∀p∈E.params,uR p.name=false
theorem SJ (hE:uI E)(hR:GRes E)(hv:aV vars){r:Rf}(g:GR E vars r):CB 161 [.agg (AG r)] h (.bool true):=by
  obtain ⟨x,idx⟩:=r;rcases g with ⟨m,hm,hn,⟨_,e,hi,he⟩ | ⟨_,hi⟩⟩ | ⟨p,hp,_,hn,hi⟩
  · have h1:=hE.mn m hm
    have h2:=hR.mn m hm;simp only at hn hi;rw[←hn]at h1 h2;subst hi;have:=c_okR1 (h:=h) hv x h1 h2 e he;simp only[AG,List.length_singleton,JI];exact this
  · have h1:=hE.mn m hm
    have h2:=hR.mn m hm;simp only at hn hi;rw[←hn]at h1 h2;subst hi;exact XQ x h1 h2
  · have h1:=hE.pn p hp
    have h2:=hR.pn p hp;simp only at hn hi;rw[←hn]at h1 h2;subst hi;exact XQ x h1 h2
end Go.Proofs.YtonbocmibeikmaaGreat
end
section
namespace Go.Un
open Go.Ab
theorem eH:∀s:Sl,s.len≤s.wt
 | .nil=>Nat.le_refl _
 | .cons k n e r as1 th el rest=>by have:=eH rest;simp only[Sl.len,Sl.wt];omega
section
variable {c:Core}{ps:List Pm}{blk:List BA→Int→Int→Int→Int→BR}{vs:List BA}{deep J l:Int}
theorem r_lock (h:(c5 c.L J 14).1<4):u3 c ps blk vs deep J l=(row 5 ByteArray.empty l9 (y0 c ps vs (c5 c.L J 14).2).1 [] .nil .nil,vs,(y0 c ps vs (c5 c.L J 14).2).2,l):=by unfold u3 kO;rw[if_pos h]
theorem SK (h0:¬(c5 c.L J 14).1<4)(h:(c5 c.L J 14).1<7):u3 c ps blk vs deep J l=(row 6 ByteArray.empty l9 (y0 c ps vs (c5 c.L J 14).2).1 [] .nil .nil,vs,(y0 c ps vs (c5 c.L J 14).2).2,l):=by unfold u3 kO;rw[if_neg h0,if_pos h]
theorem r_var (h:(c5 c.L J 14).1=7):u3 c ps blk vs deep J l=(row 1 (vnm l.toNat) (j6 c vs (c5 c.L J 14).2).1 o1 [] .nil .nil,vs++[vnm l.toNat],(j6 c vs (c5 c.L J 14).2).2,l):=by unfold u3 kO;rw[if_neg (by omega),if_neg (by omega),if_pos h]
theorem SL (h:(c5 c.L J 14).1=8)(h2:0<vs.length):u3 c ps blk vs deep J l=(row 2 (vs.getD (c5 c.L (c5 c.L J 14).2 vs.length).1.toNat ByteArray.empty) (j6 c vs (c5 c.L (c5 c.L J 14).2 vs.length).2).1 o1 [] .nil .nil,vs,(j6 c vs (c5 c.L (c5 c.L J 14).2 vs.length).2).2,l):=by unfold u3 kO;rw[if_neg (by omega),if_neg (by omega),if_neg (by omega),if_pos ⟨h,h2⟩]
theorem r_call (h:(c5 c.L J 14).1=9):u3 c ps blk vs deep J l=(row 3 (c.fs.getD (c5 c.L (c5 c.L J 14).2 c.fs.length).1.toNat j7).name l9 o1 (aS c ps vs (c.fs.getD (c5 c.L (c5 c.L J 14).2 c.fs.length).1.toNat j7).params (c5 c.L (c5 c.L J 14).2 c.fs.length).2).1 .nil .nil,vs,
   (aS c ps vs (c.fs.getD (c5 c.L (c5 c.L J 14).2 c.fs.length).1.toNat j7).params (c5 c.L (c5 c.L J 14).2 c.fs.length).2).2,l):=by
 unfold u3 kO;rw[if_neg (by omega),if_neg (by omega),if_neg (by omega),if_neg (by omega),if_pos (.inl h),if_neg (by omega)]
theorem r_go (h:(c5 c.L J 14).1=10):u3 c ps blk vs deep J l=(row 4 (c.fs.getD (c5 c.L (c5 c.L J 14).2 c.fs.length).1.toNat j7).name l9 o1 (aS c ps vs (c.fs.getD (c5 c.L (c5 c.L J 14).2 c.fs.length).1.toNat j7).params (c5 c.L (c5 c.L J 14).2 c.fs.length).2).1 .nil .nil,vs,
   (aS c ps vs (c.fs.getD (c5 c.L (c5 c.L J 14).2 c.fs.length).1.toNat j7).params (c5 c.L (c5 c.L J 14).2 c.fs.length).2).2,l):=by
 unfold u3 kO;rw[if_neg (by omega),if_neg (by omega),if_neg (by omega),if_neg (by omega),if_pos (.inr h),if_pos h]
variable {b:BR}
theorem r_if (h:(c5 c.L J 14).1=11)(h2:0<deep){d:BR}(hb:blk vs (deep-1) 3 (j6 c vs (c5 c.L J 14).2).2 l=b)(h3:(c5 c.L b.2.1 2).1=1)(hd:blk vs (deep-1) 3 (c5 c.L b.2.1 2).2 b.2.2=d):u3 c ps blk vs deep J l=(row 7 ByteArray.empty (j6 c vs (c5 c.L J 14).2).1 o1 [] b.1 d.1,vs,d.2.1,d.2.2):=by unfold u3 kO;rw[if_neg (by omega),if_neg (by omega),if_neg (by omega),if_neg (by omega),if_neg (by omega),if_pos ⟨h,h2⟩,hb];unfold ifK;rw[if_pos h3,hd]
theorem r_if2 (h:(c5 c.L J 14).1=11)(h2:0<deep)(hb:blk vs (deep-1) 3 (j6 c vs (c5 c.L J 14).2).2 l=b)(h3:¬(c5 c.L b.2.1 2).1=1):u3 c ps blk vs deep J l=(row 7 ByteArray.empty (j6 c vs (c5 c.L J 14).2).1 o1 [] b.1 .nil,vs,(c5 c.L b.2.1 2).2,b.2.2):=by unfold u3 kO;rw[if_neg (by omega),if_neg (by omega),if_neg (by omega),if_neg (by omega),if_neg (by omega),if_pos ⟨h,h2⟩,hb];unfold ifK;rw[if_neg h3]
theorem r_while (h:(c5 c.L J 14).1=12)(h2:0<deep)(hb:blk vs (deep-1) 3 (j6 c vs (c5 c.L J 14).2).2 l=b):u3 c ps blk vs deep J l=(row 8 ByteArray.empty (j6 c vs (c5 c.L J 14).2).1 o1 [] b.1 .nil,vs,b.2.1,b.2.2):=by unfold u3 kO;rw[if_neg (by omega),if_neg (by omega),if_neg (by omega),if_neg (by omega),if_neg (by omega),if_neg (by omega),if_pos ⟨h,h2⟩,hb]
theorem r_ret (h:(c5 c.L J 14).1=13)(h2:(c5 c.L (c5 c.L J 14).2 3).1=1):u3 c ps blk vs deep J l=(row 9 ByteArray.empty l9 o1 [] .nil .nil,vs,(c5 c.L (c5 c.L J 14).2 3).2,l):=by unfold u3 kO;rw[if_neg (by omega),if_neg (by omega),if_neg (by omega),if_neg (by omega),if_neg (by omega),if_neg (by omega),if_neg (by omega),if_pos ⟨h,h2⟩]
theorem SM (h:(c5 c.L J 14).1=13)(h2:¬(c5 c.L (c5 c.L J 14).2 3).1=1)(hb:blk vs 0 2 (y0 c ps vs (c5 c.L (c5 c.L J 14).2 3).2).2 l=b):u3 c ps blk vs deep J l=prK vs (y0 c ps vs (c5 c.L (c5 c.L J 14).2 3).2).1 b:=by unfold u3 kO;rw[if_neg (by omega),if_neg (by omega),if_neg (by omega),if_neg (by omega),if_neg (by omega),if_neg (by omega),if_neg (by omega),if_neg (by omega),if_pos h,hb]
theorem JL (h7:7<(c5 c.L J 14).1)(h13:¬(c5 c.L J 14).1=13)(h8:(c5 c.L J 14).1=8→vs.length=0)(h9:¬(c5 c.L J 14).1=9)(h10:¬(c5 c.L J 14).1=10)(h11:(c5 c.L J 14).1=11→deep≤0)(h12:(c5 c.L J 14).1=12→deep≤0)(hb:blk vs 0 2 (y0 c ps vs (c5 c.L J 14).2).2 l=b):u3 c ps blk vs deep J l=prK vs (y0 c ps vs (c5 c.L J 14).2).1 b:=by unfold u3 kO;rw[if_neg (by omega),if_neg (by omega),if_neg (by omega),if_neg (by omega),if_neg (by omega),if_neg (by omega),if_neg (by omega),if_neg (by omega),if_neg h13,hb]
end
variable {out:Sl}
theorem dZ {c:Core}{ps:List Pm}{blk:List BA→Int→Int→Int→Int→BR}{n:Nat}{vs vs':List BA}{deep J l J' l':Int}{S:Sl}{R:BR}(h:iY c ps blk (n+1) vs deep out J l=R)(hl:0<l)(hr:u3 c ps blk vs deep J (l-1)=(S,vs',J',l')):iY c ps blk n vs' deep (out.app S) J' l'=R:=by rw[iY,if_neg (by omega),hr]at h;exact h
theorem BB {c:Core}{ps:List Pm}{blk:List BA→Int→Int→Int→Int→BR}{n:Nat}{vs:List BA}{deep J l:Int}{R:BR}(h:iY c ps blk n vs deep out J l=R)(hl:n=0∨l≤0):R=(out,J,l):=by
 rw[←h];cases n with
 | zero=>rfl
 | succ n=>rw[iY,if_pos (by omega)]
theorem cH {c:Core}(hc:OkC c){ps:List Pm}{fu:Nat}(hfu:fu≤23){all vs vs':List BA}{left0 deep J l J' l':Int}{out S:Sl}(h0:left0≤fu+1)(hd:0≤deep)(ho:OkB (EI c ps) c.L all left0 (deep.toNat+1) (out,J,l))(hv:∀x∈vs,x∈aQ out all)(hl:0<l)
  (hr:u3 c ps (g7 c ps fu) vs deep J (l-1)=(S,vs',J',l')):OkB (EI c ps) c.L all left0 (deep.toNat+1) (out.app S,J',l')∧l'≤l-1∧∀x∈vs',x∈aQ (out.app S) all:=by
 have hl2:=ho.ol;have hw:=ho.wt;have hdp:=ho.dep;simp only at hl2 hw hdp;obtain ⟨r1,r2,r3⟩:=AP hc (ps:=ps) (blk:=g7 c ps fu) (vars:=vs) (all:=aQ out all) (deep:=deep) (I:=J) (left:=l-1) ho.oi ⟨by omega,by omega⟩ hd hv (ho.fr.mono t101) fun d most I all' l' a1 a2 a3 a4 a5 a6 a7=>jN hc fu vs d most I all' l' a1 a2 a3 a4 (by omega) (by omega) a6 a7;rw[hr]at r1 r2 r3;have q1:=r1.ol;have q2:=r1.wt;have q3:=r1.dep;simp only at q1 q2 q3 r2 r3;refine ⟨⟨r1.oi,⟨q1.1,t101⟩,GS.app.2 ⟨ho.gs,r1.gs⟩,?_,?_,?_⟩,r2,?_⟩
 ·simp only[iE];exact r1.fr
 ·simp only[Sl.L9];omega
 ·simp only[C9];omega
 ·rw[iE];exact r3
def Gx (l:List Mx):Prop:=∀j,j<l.length→(l.getD j aA).name=mnm j∧0≤(l.getD j aA).size∧(l.getD j aA).size≤3∧((l.getD j aA).re=true→(l.getD j aA).size=0)
def Gy (l:List Gl):Prop:=∀j,j<l.length→(l.getD j mU).name=gnm j ∧ -10≤(l.getD j mU).init∧(l.getD j mU).init≤10
def SN (N n:Nat)(l:List Pm):Prop:=(n=N∧l=[])∨(N=1∧n=0∧l.map (·.name)=[pnm 1])∨(N=2∧n=1∧l.map (·.name)=[pnm 2])∨(N=2∧n=0∧l.map (·.name)=[pnm 2,pnm 1])
def SO (l:List Fu):Prop:=∀j,j<l.length→(l.getD j j7).name=fnm j∧(j=0→(l.getD j j7).params=[])∧
  ((l.getD j j7).params.map (·.name)=[]∨(l.getD j j7).params.map (·.name)=[pnm 1]∨(l.getD j j7).params.map (·.name)=[pnm 2,pnm 1])
variable {j:Nat}
theorem wW {α:Type}{l:List α}{x d:α}(h:j<(l++[x]).length):(j<l.length∧(l++[x]).getD j d=l.getD j d)∨(j=l.length∧(l++[x]).getD j d=x):=by
 simp at h;by_cases hj:j<l.length
 ·exact .inl ⟨hj,by simp[List.getD,List.getElem?_append_left hj]⟩
 ·obtain rfl:j=l.length:=by omega
  exact .inr ⟨rfl,by simp[List.getD]⟩
theorem Gx.snoc {l:List Mx}(h:Gx l){m:Mx}(h1:m.name=mnm l.length)(h2:0≤m.size∧m.size≤3)(h3:m.re=true→m.size=0):Gx (l++[m]):=fun j hj=>by
 rcases wW (d:=aA) hj with ⟨q,e⟩ | ⟨rfl,e⟩
 ·rw[e];exact h j q
 ·rw[e];exact ⟨h1,h2.1,h2.2,h3⟩
theorem Gy.snoc {l:List Gl}(h:Gy l){m:Gl}(h1:m.name=gnm l.length)(h2:-10≤m.init∧m.init≤10):Gy (l++[m]):=fun j hj=>by
 rcases wW (d:=mU) hj with ⟨q,e⟩ | ⟨rfl,e⟩
 ·rw[e];exact h j q
 ·rw[e];exact ⟨h1,h2⟩
theorem SO.snoc {l:List Fu}(h:SO l){f:Fu}(h1:f.name=fnm l.length)(h2:l.length=0→f.params=[])(h3:f.params.map (·.name)=[]∨f.params.map (·.name)=[pnm 1]∨f.params.map (·.name)=[pnm 2,pnm 1]):SO (l++[f]):=fun j hj=>by
 rcases wW (d:=j7) hj with ⟨q,e⟩ | ⟨rfl,e⟩
 ·rw[e];exact h j q
 ·rw[e];exact ⟨h1,h2,h3⟩
variable {N n:Nat}{l:List Pm}
theorem SN.step (h:SN N n l)(hn:0<n)(hN:N≤2){p:Pm}(hp:p.name=pnm n):SN N (n-1) (l++[p]):=by
 rcases h with ⟨rfl,rfl⟩ | ⟨_,h,_⟩ | ⟨rfl,rfl,h⟩ | ⟨_,h,_⟩
 ·have:n=1∨n=2:=by omega
  rcases this with rfl | rfl
  ·exact .inr (.inl ⟨rfl,rfl,by simp[hp]⟩)
  ·exact .inr (.inr (.inl ⟨rfl,rfl,by simp[hp]⟩))
 ·omega
 ·exact .inr (.inr (.inr ⟨rfl,rfl,by simp[h,hp]⟩))
 ·omega
theorem SN.fin (h:SN N n l)(hn:n=0∨l=[])(hN:N≤2):l.map (·.name)=[]∨l.map (·.name)=[pnm 1]∨l.map (·.name)=[pnm 2,pnm 1]:=by
 rcases h with ⟨rfl,rfl⟩ | ⟨_,_,h⟩ | ⟨_,h1,h⟩ | ⟨_,_,h⟩
 ·exact .inl rfl
 ·exact .inr (.inl h)
 ·rcases hn with hn | hn
  ·omega
  ·subst hn;exact .inl rfl
 ·exact .inr (.inr h)
theorem SN.len (h:SN N n l):l.length≤2:=by
 have:l.length=(l.map (·.name)).length:=by simp
 rcases h with ⟨rfl,rfl⟩ | ⟨_,_,h⟩ | ⟨_,_,h⟩ | ⟨_,_,h⟩
 ·simp
 all_goals rw[this,h];simp
def eA (l:List Pm):List BA:=(l.filter fun x=>! x.mu).map (·.name)
theorem N9 (h:j<l.length):eA (l.take (j+1))=eA (l.take j)++(if (l.getD j jL).mu then [] else [(l.getD j jL).name]):=by unfold eA;rw[List.take_add_one,List.filter_append,List.map_append];congr 1;simp only[List.getD_eq_getElem?_getD,List.getElem?_eq_getElem h,Option.toList_some,Option.getD_some,List.filter_cons,List.filter_nil];cases l[j].mu<;>rfl
def setBody (fs:List Fu)(i:Nat)(B:Sl):List Fu:=fs.set i { fs.getD i j7 with body:=B }
def oX (fs:List Fu):List (BA×List Pm):=fs.map fun f=>(f.name,f.params)
variable {fs:List Fu}{i:Nat}{B:Sl}
theorem mJ:(setBody fs i B).length=fs.length:=by simp[setBody]
theorem mK (h:i<fs.length):(setBody fs i B).getD j j7=if j=i then { fs.getD i j7 with body:=B } else fs.getD j j7:=by
 unfold setBody;by_cases e:j=i
 ·subst e;simp[List.getD,h]
 ·rw[if_neg e];simp[List.getD,List.getElem?_set_ne (Ne.symm e)]
theorem qY (h:i<fs.length):oX (setBody fs i B)=oX fs:=by
 refine List.ext_getElem (by simp[oX,setBody]) fun j h1 h2=>?_;have hj:j<fs.length:=by simpa [oX] using h2
 have e:=mK (j:=j) (B:=B) h;have e1:(setBody fs i B).getD j j7=(setBody fs i B)[j]'(by rw[mJ];exact hj):=by simp[List.getD,mJ,hj]
 have e2:fs.getD j j7=fs[j]:=by simp[List.getD,hj]
 simp only[oX,List.getElem_map];rw[←e1,←e2,e];split
 ·rename_i q;subst q;rfl
 ·rfl
theorem SO.oX {l l':List Fu}(h:SO l)(e:oX l'=oX l):SO l':=fun j hj=>by
 have hl:l'.length=l.length:=by have:=congrArg List.length e;simpa [Un.oX] using this
 have e1:∀(m:List Fu),j<m.length→(Un.oX m).getD j (ByteArray.empty,[])=((m.getD j j7).name,(m.getD j j7).params):=fun m hm=>by simp[Un.oX,List.getD,hm]
 have h1:=e1 l' hj;have h2:=e1 l (by omega);rw[e,h2]at h1;injection h1 with h3 h4;have:=h j (by omega);rw[h3,h4]at this;exact this
structure Ov (gs:List Gl)(ms:List Mx)(fs:List Fu)(i:Nat)(left:Int):Prop where
 body:∀j,j<i→GS ⟨gs.map (·.name),ms,oX fs,(fs.getD j j7).params⟩ (fs.getD j j7).body (gs.map (·.name)++eA (fs.getD j j7).params)∧(fs.getD j j7).body.dep≤3
 wt:tP fs i≤2*(24-left).toNat
 ol:0≤left∧left≤24
theorem zC {l l':List Fu}:∀i,(∀j,j<i→(l.getD j j7).body=(l'.getD j j7).body)→tP l i=tP l' i
 | 0,_=>rfl
 | i+1,h=>by rw[tP,tP,zC i fun j hj=>h j (by omega),h i (by omega)]
theorem Ov.step {gs:List Gl}{ms:List Mx}{fs:List Fu}{i:Nat}{left left':Int}{L:List Int}{B:Sl}{I':Int}(h:Ov gs ms fs i left)(hi:i<fs.length)
  (hb:OkB ⟨gs.map (·.name),ms,oX fs,(fs.getD i j7).params⟩ L (gs.map (·.name)++eA (fs.getD i j7).params) left 3 (B,I',left')):Ov gs ms (setBody fs i B) (i+1) left':=by
 have hol:=hb.ol;have hwt:=hb.wt;have h1:=h.ol;have h2:=h.wt;simp only at hol hwt;refine ⟨fun j hj=>?_,?_,by omega⟩
 ·rw[qY hi,mK hi];by_cases e:j=i
  ·subst e;rw[if_pos rfl];exact ⟨hb.gs,hb.dep⟩
  ·rw[if_neg e];exact h.body j (by omega)
 ·have e1:tP (setBody fs i B) i=tP fs i:=zC i fun j hj=>by rw[mK hi,if_neg (by omega)]
  rw[tP,e1,mK hi,if_pos rfl];simp only;omega
variable {gs:List Gl}
theorem prog_ok {ms:List Mx}{left:Int}(hg:Gy gs)(hgl:gs.length≤2)(hm:Gx ms)(hml:1≤ms.length∧ms.length≤4)(hf:SO fs)(hfl:1≤fs.length∧fs.length≤4)(hb:Ov gs ms fs fs.length left):GP ⟨gs,ms,fs⟩:=by have hw:=hb.wt;have hl:=hb.ol;refine ⟨⟨hgl,hg,hml,hm,hfl,hf⟩,fun i hi=>?_,by show tP fs fs.length≤48;omega⟩;exact hb.body i hi
theorem EO {ps:List Pm}(hg:Gy gs)(hgl:gs.length≤2)(hp:ps.map (·.name)=[]∨ps.map (·.name)=[pnm 1]∨ps.map (·.name)=[pnm 2,pnm 1]):Fr 24 (gs.map (·.name)++eA ps):=by
 intro j hj hm;refine M5 j hj ?_;rcases List.mem_append.1 hm with hm | hm
 ·obtain ⟨g,hg1,hg2⟩:=List.mem_map.1 hm;obtain ⟨k,hk,rfl⟩:=cU (d:=mU) hg1;rw[←hg2,(hg k hk).1];exact List.mem_append.2 (.inl (List.mem_map.2 ⟨k,List.mem_range.2 (by omega),rfl⟩))
 ·obtain ⟨p,hp1,hp2⟩:=List.mem_map.1 hm;have hp3:p.name∈ps.map (·.name):=List.mem_map.2 ⟨p,(List.mem_filter.1 hp1).1,rfl⟩;rw[hp2]at hp3;refine List.mem_append.2 (.inr (List.mem_append.2 (.inr (List.mem_append.2 (.inr ?_)))));rcases hp with e | e | e
  ·rw[e]at hp3;simp at hp3
  ·rw[e]at hp3;simp at hp3;rw[hp3];simp
  ·rw[e]at hp3;simpa using hp3
theorem okC_of {L:List Int}{ms:List Mx}{gF:Nat}{ar:Bool}(hm:Gx ms)(hml:1≤ms.length∧ms.length≤4)(hf:SO fs)(hfl:1≤fs.length∧fs.length≤4):OkC ⟨L,gs,ms,fs,gF,ar⟩:=by
 refine ⟨hml,fun i hi=>⟨(hm i hi).2.1,(hm i hi).2.2.1⟩,hfl,fun f hff=>?_⟩;obtain ⟨k,hk,rfl⟩:=cU (d:=j7) hff;have h1:=(hf k hk).2.2;have h2:(fs.getD k j7).params.length=((fs.getD k j7).params.map (·.name)).length:=by simp
 rw[h2];rcases h1 with e | e | e<;>rw[e]<;>simp
end Go.Un
end
section
namespace Go.Proofs.YtonbocmibeikmaaGreat
open Go.Ab Go.Un
theorem wX {s:BA}:uR s=XG.any fun x=>L8 x==L8 s:=by simp only[uR,hasB,ByteArray.toList_eq];rfl
theorem JM:∀j,j<24→uR (vnm j)=false:=by
  intro j hj;rw[wX];have key:∀j,j<24→(XG.any fun x=>L8 x==L8 (vnm j))=false:=by decide
  exact key j hj
theorem JN:∀j,j<2→uR (gnm j)=false:=by
  intro j hj;rw[wX];have key:∀j,j<2→(XG.any fun x=>L8 x==L8 (gnm j))=false:=by decide
  exact key j hj
theorem JO:∀j,j<4→uR (mnm j)=false:=by
  intro j hj;rw[wX];have key:∀j,j<4→(XG.any fun x=>L8 x==L8 (mnm j))=false:=by decide
  exact key j hj
theorem JP:∀j,j<4→uR (fnm j)=false:=by
  intro j hj;rw[wX];have key:∀j,j<4→(XG.any fun x=>L8 x==L8 (fnm j))=false:=by decide
  exact key j hj
theorem U4:∀j,j<3→uR (pnm j)=false:=by
  intro j hj;rw[wX];have key:∀j,j<3→(XG.any fun x=>L8 x==L8 (pnm j))=false:=by decide
  exact key j hj
variable {pre th el rest:Sl}{k:Int}{n:BA}{e:Ex}{r:Rf}{xs:List Ar}
theorem D8:List.take 11 (List.drop (pre.len*11) (s4 (pre.app (.cons k n e r xs th el rest))))=[.int .i64 k,.str n,.int .i64 e.op,.int .i64 e.num,.str e.name,.vec e.args.length (o2 e.args),.str r.name,.vec r.idx.length (o2 r.idx),.vec xs.length (cC xs),.vec th.len (s4 th),.vec el.len (s4 el)]:=by rw[read_s rfl,rowS,cM];rfl
variable {h:c6}{vars:List BA}
theorem D9 (hv:aV vars)(hg:GE vars 2 e):CB 182 [.agg [.int .i64 e.op,.int .i64 e.num,.str e.name,.vec e.args.length (o2 e.args)]] h (.str (dF e)):=by rw[←cM];exact wU hv.n (by omega) hg h
theorem E4 (hv:aV vars)(hg:GE vars 2 e):CB 159 [.agg [.int .i64 e.op,.int .i64 e.num,.str e.name,.vec e.args.length (o2 e.args)]] h (.bool true):=by rw[←cM];exact AX hv (by omega) e hg
theorem aV.snoc (h:aV vars){j:Nat}(hj:j<24):aV (vars++[vnm j]):=by
  intro x hx;rcases List.mem_append.1 hx with hx | hx
  · exact h x hx
  · replace hx:=s9z hx
    subst hx;exact ⟨uJ,JM j hj⟩
theorem U5 {pre:Sl}{k:Int}{n:BA}{e:Ex}{r:Rf}{xs:List Ar}{th el rest:Sl}:(pre.app (.cons k n e r xs th el rest)).wt=pre.wt+(1+th.wt+el.wt+rest.wt):=by rw[Sl.L9,Sl.wt]
theorem aK {pre:Sl}{k:Int}{n:BA}{e:Ex}{r:Rf}{xs:List Ar}{th el rest:Sl}:(pre.app (.cons k n e r xs th el rest)).len=pre.len+(rest.len+1):=by rw[Go.Un.Sl.dA,Go.Un.Sl.len]
theorem gN {k:Int}{n:BA}{e:Ex}{r:Rf}{xs:List Ar}{th el rest:Sl}:(Sl.cons k n e r xs th el rest).dep=max (max th.dep el.dep+1) rest.dep:=rfl
theorem fO:pre.app (.cons k n e r xs th el rest)=(pre.app (.cons k n e r xs th el .nil)).app rest:=by rw[Sl.L7];rfl
theorem SP:(((pre.app (.cons k n e r xs th el .nil)).len:Nat):Int)=(pre.len:Int)+1:=by rw[Go.Un.Sl.dA];simp[Go.Un.Sl.len]
theorem zD {tabs:BA}(h:Cl (L8 tabs) 0):Cl (L8 (tabs++iX)) 0:=bS h M4
attribute [local go_sem] oH bE o7 cB dQ cD l8 Int.natCast_nonneg Int.natCast_inj List.length_map wrap64 EL nF D7 bD nR eq_mk nS D8 Nat.reduceMul
theorem SQ {E:Env}(hE:uI E)(S:Sl)(ih:∀S':Sl,S'.wt<S.wt→∀(vars:List BA) (tabs:BA),aV vars→GS E S' vars→tabs.size+S'.dep≤10→Cl (L8 tabs) 0→∀h:c6,CB 164 [.vec S'.len (s4 S'),.str tabs] h (.str (nC S' tabs ByteArray.empty)))(vars:List BA)(tabs:BA)(hv0:aV vars)(hG0:GS E S vars)(hd:tabs.size+S.dep≤10)(ht:Cl (L8 tabs) 0)(hw:S.wt≤1000):CB 164 [.vec S.len (s4 S),.str tabs] h (.str (nC S tabs ByteArray.empty)):=by
  refine .bz Tryz.f164 133 ?_;have hlw:=eH S;have hTs:=(kY hE S vars tabs ByteArray.empty 0 hv0.n hG0 hd ht Cl.nil).2;have hse:ByteArray.empty.size=0:=rfl;refine c49z ?_;refine .aN (fun m st=>∃(Z:Sl) (pre:Sl) (rst:Sl) (vs:List BA) (out:BA),(m=rst.len∧(Z=S∧S=pre.app rst∧GS E rst vs∧aV vs∧nC rst tabs out=nC S tabs ByteArray.empty∧tabs.size+rst.dep≤10))∧st=⟨mkS 133 [(0,AV.vec (Go.Un.Sl.len Z) (s4 Z)),(1,AV.str tabs),(5,AV.str out),(6,AV.int .i64 ((pre.len:Nat):Int))],h⟩) (.v ⟨S,Sl.nil,S,vars,ByteArray.empty,⟨rfl,⟨rfl,rfl,hG0,hv0,rfl,hd⟩⟩,rfl⟩ (hs:=t11)) ?_;rintro m sl h' ⟨Z,pre,rst,vs,out,⟨hm,⟨hZ,hS,hG,hv,hT,hdp⟩⟩,hst⟩;obtain ⟨rfl,rfl⟩:=St.mk.inj hst;clear hst;subst hZ;have hlen:=congrArg Go.Un.Sl.len hS;rw[Go.Un.Sl.dA]at hlen;have hos:out.size≤400000:=by have:=IA rst tabs out;rw[hT]at this;omega
  refine c1z ?_;refine u2z ?_ ?_
  ·intro e1 qe1;refine c3z ?_;obtain ⟨k,n,e,r,xs,th,el,rest,rfl⟩:=Go.Un.Sl.pL (s:=rst) (by omega);subst hS;have hwc:=@U5 pre k n e r xs th el rest;have hlc:=@aK pre k n e r xs th el rest;have hdc:=@gN k n e r xs th el rest;rcases hG with ⟨rfl,⟨j,hj,rfl⟩,hn,he,rfl,rfl,rfl,rfl,hr⟩ | ⟨rfl,hn,he,rfl,rfl,rfl,rfl,hr⟩ | ⟨rfl | rfl,⟨f,hf,rfl,ha⟩,rfl,rfl,rfl,rfl,hr⟩ | ⟨rfl | rfl,rfl,rfl,hR,rfl,rfl,rfl,hr⟩ | ⟨rfl,rfl,he,rfl,rfl,hth,hel,hr⟩ | ⟨rfl,rfl,he,rfl,rfl,hth,rfl,hr⟩ | ⟨rfl,rfl,rfl,rfl,rfl,rfl,rfl,hr⟩
   ·have hes:=(dI hv.n he).2;have hb:H3 2=104:=rfl;have hns:=aP (uJ (j:=j));refine c211z ?_;refine c71z ?_;refine .so z8 (mkP 12 [0,1,0,4,15,31,0,64,192,511,1023,2047] []) ?_;refine .k 8 [] ?_;refine .ca rfl rfl (D9 hv he) ?_;refine .n [] ?_;change c9 ..;refine c140z ?_;have hT2:=hT;simp only[nC,show ((1:Int)=2)=False from by simp,show ((1:Int)=3)=False from by simp,show ((1:Int)=4)=False from by simp,show ((1:Int)=5)=False from by simp,show ((1:Int)=6)=False from by simp,show ((1:Int)=7)=False from by simp,show ((1:Int)=8)=False from by simp,if_true,if_false,true_or,or_true,or_false,false_or,or_self]at hT2;exact ⟨_,by omega,.v ⟨_,(pre.app (.cons 1 (vnm j) e o1 [] .nil .nil .nil)),rest,(vs++[vnm j]),_,⟨rfl,⟨rfl,fO,hr,(hv.snoc hj),hT2,by omega⟩⟩,rfl⟩ (he:=by rfl) (hs:=t11)⟩
   ·have hes:=(dI hv.n he).2;have hb:H3 2=104:=rfl;have hns:=aP (hv _ hn).1;refine c211z ?_;refine c175z ?_;refine .c7 [0,1,5,6,7] ?_;refine .so z8 (mkP 11 [0,0,2,7,15,0,32,96,255,511,1023] []) ?_;refine .k 7 [] ?_;refine .ca rfl rfl (D9 hv he) ?_;refine .n [] ?_;change c9 ..;refine c140z ?_;have hT2:=hT;simp only[nC,show ((2:Int)=1)=False from by simp,show ((2:Int)=3)=False from by simp,show ((2:Int)=4)=False from by simp,show ((2:Int)=5)=False from by simp,show ((2:Int)=6)=False from by simp,show ((2:Int)=7)=False from by simp,show ((2:Int)=8)=False from by simp,if_true,if_false,true_or,or_true,or_false,false_or,or_self]at hT2;exact ⟨_,by omega,.v ⟨_,(pre.app (.cons 2 n e o1 [] .nil .nil .nil)),rest,vs,_,⟨rfl,⟨rfl,fO,hr,hv,hT2,by omega⟩⟩,rfl⟩ (he:=by rfl) (hs:=t11)⟩
   ·have hns:=aP (hE.fn f hf);have has:=(T4 hE hv.n ha (hE.fp f hf)).2.1;have hxl:=(mE hE hv.n ha).1;have hfl:=hE.fp f hf;refine c220z ?_;refine c71z ?_;refine .so z8 (mkP 10 [0,0,2,7,0,16,48,127,255,511] []) ?_;refine .k 6 [] ?_;refine .ca rfl rfl (JK hE hv.n xs (mE hE hv.n ha).2 (by omega)) ?_;refine .n [] ?_;change c9 ..;refine c140z ?_;have hT2:=hT;simp only[nC,show ((3:Int)=1)=False from by simp,show ((3:Int)=2)=False from by simp,show ((3:Int)=4)=False from by simp,show ((3:Int)=5)=False from by simp,show ((3:Int)=6)=False from by simp,show ((3:Int)=7)=False from by simp,show ((3:Int)=8)=False from by simp,if_true,if_false,true_or,or_true,or_false,false_or,or_self]at hT2;exact ⟨_,by omega,.v ⟨_,(pre.app (.cons 3 f.1 l9 o1 xs .nil .nil .nil)),rest,vs,_,⟨rfl,⟨rfl,fO,hr,hv,hT2,by omega⟩⟩,rfl⟩ (he:=by rfl) (hs:=t11)⟩
   ·have hns:=aP (hE.fn f hf);have has:=(T4 hE hv.n ha (hE.fp f hf)).2.1;have hxl:=(mE hE hv.n ha).1;have hfl:=hE.fp f hf;refine c220z ?_;refine c175z ?_;refine .so z8 (mkP 11 [0,1,0,4,15,0,32,96,255,511,1023] []) ?_;refine .k 7 [] ?_;refine .ca rfl rfl (JK hE hv.n xs (mE hE hv.n ha).2 (by omega)) ?_;refine .n [] ?_;change c9 ..;refine c140z ?_;have hT2:=hT;simp only[nC,show ((4:Int)=1)=False from by simp,show ((4:Int)=2)=False from by simp,show ((4:Int)=3)=False from by simp,show ((4:Int)=5)=False from by simp,show ((4:Int)=6)=False from by simp,show ((4:Int)=7)=False from by simp,show ((4:Int)=8)=False from by simp,if_true,if_false,true_or,or_true,or_false,false_or,or_self]at hT2;exact ⟨_,by omega,.v ⟨_,(pre.app (.cons 4 f.1 l9 o1 xs .nil .nil .nil)),rest,vs,_,⟨rfl,⟨rfl,fO,hr,hv,hT2,by omega⟩⟩,rfl⟩ (he:=by rfl) (hs:=t11)⟩
   ·have hrs:=(hR.pw hE hv.n).2;refine c220z ?_;refine c33z ?_;refine c71z ?_;refine c186z ?_;refine .ca rfl rfl (AZ hE hv.n hR) ?_;refine c25z ?_;refine c140z ?_;have hT2:=hT;simp only[nC,show ((5:Int)=1)=False from by simp,show ((5:Int)=2)=False from by simp,show ((5:Int)=3)=False from by simp,show ((5:Int)=4)=False from by simp,show ((5:Int)=6)=False from by simp,show ((5:Int)=7)=False from by simp,show ((5:Int)=8)=False from by simp,if_true,if_false,true_or,or_true,or_false,false_or,or_self]at hT2;exact ⟨_,by omega,.v ⟨_,(pre.app (.cons 5 ByteArray.empty l9 r [] .nil .nil .nil)),rest,vs,_,⟨rfl,⟨rfl,fO,hr,hv,hT2,by omega⟩⟩,rfl⟩ (he:=by rfl) (hs:=t11)⟩
   ·have hrs:=(hR.pw hE hv.n).2;refine c220z ?_;refine c33z ?_;refine c175z ?_;refine .c7 [0,1,5,6,7] ?_;refine c186z ?_;refine .ca rfl rfl (AZ hE hv.n hR) ?_;refine c25z ?_;refine c140z ?_;have hT2:=hT;simp only[nC,show ((6:Int)=1)=False from by simp,show ((6:Int)=2)=False from by simp,show ((6:Int)=3)=False from by simp,show ((6:Int)=4)=False from by simp,show ((6:Int)=5)=False from by simp,show ((6:Int)=7)=False from by simp,show ((6:Int)=8)=False from by simp,if_true,if_false,true_or,or_true,or_false,false_or,or_self]at hT2;exact ⟨_,by omega,.v ⟨_,(pre.app (.cons 6 ByteArray.empty l9 r [] .nil .nil .nil)),rest,vs,_,⟨rfl,⟨rfl,fO,hr,hv,hT2,by omega⟩⟩,rfl⟩ (he:=by rfl) (hs:=t11)⟩
   ·have hes:=(dI hv.n he).2;have hb:H3 2=104:=rfl;have hts:(tabs++iX).size=tabs.size+1:=by rw[bD];rfl
    have hths:=(kY hE th vs (tabs++iX) ByteArray.empty 0 hv.n hth (by omega) (zD ht) Cl.nil).2;have hels:=(kY hE el vs (tabs++iX) ByteArray.empty 0 hv.n hel (by omega) (zD ht) Cl.nil).2;refine c220z ?_;refine c33z ?_;refine c33z ?_;refine .seq ?_;refine .c7 [0,1,5,6,7,23] ?_;refine c71z ?_;refine .sk ?_;refine .T ?_;refine c108z ?_;refine c20z ?_;refine .ss z8 (mkP 18 [0,0,3,0,8,24,63,127,0,256,0,1024,3896,8191,0,32767,65535,131071] []) ?_;refine .k 5 [] ?_;refine .ca rfl rfl (D9 hv he) ?_;refine .k 6 [] ?_;refine .ca rfl rfl (ih th (by omega) vs (tabs++iX) hv hth (by omega) (zD ht) _) ?_;refine .n [] ?_;refine .c7 [0,1,5,6,7] ?_;refine .z ?_;refine u2z ?_ ?_
    ·intro e2 qe2;refine .r ?_;refine .e 6 ?_;refine .ca rfl rfl (ih el (by omega) vs (tabs++iX) hv hel (by omega) (zD ht) _) ?_;refine c25z ?_;refine c140z ?_;have hT2:=hT;have hel0:0<el.len:=by omega
     simp only[nC,show ((7:Int)=1)=False from by simp,show ((7:Int)=2)=False from by simp,show ((7:Int)=3)=False from by simp,show ((7:Int)=4)=False from by simp,show ((7:Int)=5)=False from by simp,show ((7:Int)=6)=False from by simp,show ((7:Int)=8)=False from by simp,if_true,if_false,true_or,or_true,or_false,false_or,or_self,if_pos hel0]at hT2;exact ⟨_,by omega,.v ⟨_,(pre.app (.cons 7 ByteArray.empty e o1 [] th el .nil)),rest,vs,_,⟨rfl,⟨rfl,fO,hr,hv,hT2,by omega⟩⟩,rfl⟩ (he:=by rfl) (hs:=t11)⟩
    intro e2 qe2;refine c5z ?_;refine c67z ?_;have hT2:=hT;have hel0:¬0<el.len:=by omega
    simp only[nC,show ((7:Int)=1)=False from by simp,show ((7:Int)=2)=False from by simp,show ((7:Int)=3)=False from by simp,show ((7:Int)=4)=False from by simp,show ((7:Int)=5)=False from by simp,show ((7:Int)=6)=False from by simp,show ((7:Int)=8)=False from by simp,if_true,if_false,true_or,or_true,or_false,false_or,or_self,if_neg hel0]at hT2;exact ⟨_,by omega,.v ⟨_,(pre.app (.cons 7 ByteArray.empty e o1 [] th el .nil)),rest,vs,_,⟨rfl,⟨rfl,fO,hr,hv,hT2,by omega⟩⟩,rfl⟩ (he:=by rfl) (hs:=t11)⟩
   ·have hes:=(dI hv.n he).2;have hb:H3 2=104:=rfl;have hts:(tabs++iX).size=tabs.size+1:=by rw[bD];rfl
    have hths:=(kY hE th vs (tabs++iX) ByteArray.empty 0 hv.n hth (by omega) (zD ht) Cl.nil).2;refine c220z ?_;refine c33z ?_;refine c33z ?_;refine .seq ?_;refine .c7 [0,1,5,6,7,23] ?_;refine c6z ?_;refine c2z ?_;refine .T ?_;refine c108z ?_;refine .T ?_;refine .c7 [0,1,5,6,7] ?_;refine c2z ?_;refine .ss z8 (mkP 18 [0,0,3,0,8,24,63,127,0,256,0,1024,3896,8191,0,32767,65535,131071] []) ?_;refine .k 5 [] ?_;refine .ca rfl rfl (D9 hv he) ?_;refine .k 6 [] ?_;refine .ca rfl rfl (ih th (by omega) vs (tabs++iX) hv hth (by omega) (zD ht) _) ?_;refine .n [] ?_;refine .c7 [0,1,5,6,7] ?_;refine c6z ?_;refine c5z ?_;refine c67z ?_;have hT2:=hT;simp only[nC,show ((8:Int)=1)=False from by simp,show ((8:Int)=2)=False from by simp,show ((8:Int)=3)=False from by simp,show ((8:Int)=4)=False from by simp,show ((8:Int)=5)=False from by simp,show ((8:Int)=6)=False from by simp,show ((8:Int)=7)=False from by simp,if_true,if_false,true_or,or_true,or_false,false_or,or_self,Go.Un.Sl.len,Nat.lt_irrefl]at hT2;exact ⟨_,by omega,.v ⟨_,(pre.app (.cons 8 ByteArray.empty e o1 [] th .nil .nil)),rest,vs,_,⟨rfl,⟨rfl,fO,hr,hv,hT2,by omega⟩⟩,rfl⟩ (he:=by rfl) (hs:=t11)⟩
   ·skip;refine c220z ?_;refine c33z ?_;refine c33z ?_;refine .seq ?_;refine .c7 [0,1,5,6,7,23] ?_;refine c6z ?_;refine c2z ?_;refine c247z ?_;refine c2z ?_;refine c89z ?_;have hT2:=hT;simp only[nC,show ((9:Int)=1)=False from by simp,show ((9:Int)=2)=False from by simp,show ((9:Int)=3)=False from by simp,show ((9:Int)=4)=False from by simp,show ((9:Int)=5)=False from by simp,show ((9:Int)=6)=False from by simp,show ((9:Int)=7)=False from by simp,show ((9:Int)=8)=False from by simp,if_true,if_false,true_or,or_true,or_false,false_or,or_self]at hT2;exact ⟨_,by omega,.v ⟨_,(pre.app (.cons 9 ByteArray.empty l9 o1 [] .nil .nil .nil)),rest,vs,_,⟨rfl,⟨rfl,fO,hr,hv,hT2,by omega⟩⟩,rfl⟩ (he:=by rfl) (hs:=t11)⟩
  intro e1 qe1;refine .exit ?_;obtain rfl:=Go.Un.Sl.C0 (show rst.len=0 by omega);rw[nC]at hT;change c9 ..;refine .z ?_;exact .ret (.ex (hq:=by (exact congrArg AV.str hT)))
theorem JQ {E:Env}(hE:uI E):∀(n:Nat) (S:Sl),S.wt≤n→n≤1000→∀(vars:List BA) (tabs:BA),aV vars→GS E S vars→tabs.size+S.dep≤10→Cl (L8 tabs) 0→∀h:c6,CB 164 [.vec S.len (s4 S),.str tabs] h (.str (nC S tabs ByteArray.empty))
  | n,S,hn,h1,vars,tabs,hv,hG,hd,ht,h=>by
    refine SQ hE S (fun S' hS'=>?_) vars tabs hv hG hd ht (by omega);cases n with
    | zero=>omega
    | succ n=>exact JQ hE n S' (by omega) (by omega)
end Go.Proofs.YtonbocmibeikmaaGreat
end
section
namespace Go.Proofs.YtonbocmibeikmaaGreat
open Go.Ab Go.Un
structure Frame where
  b0:Blk
  b1:Blk
  b2:Blk
  z:Blk
  m:Blk
  g:Blk
  rest:c6
def Frame.n (e:Frame):Nat:=e.rest.length+9
def hB (c:Core)(e:Frame)(I left:Int):c6:=
  e.b0::e.b1::e.b2::e.z::⟨0,false,118,2,[.vec c.L.length (g8 c.L),.int .i64 I],0⟩::
  ⟨0,false,129,6,[.ptr 4 0 0,.vec c.gs.length (u0 c.gs),.vec c.ms.length (g6 c.ms),.own 8 c.gF 0 c.fs.length,.int .i64 left,.bool c.ar],0⟩::
  e.m::e.g::⟨c.gF,false,136,3,o8 c.fs,0⟩::e.rest
section
variable {c:Core}{e:Frame}{I left k:Int}{l:c6}
theorem dG:(hB c e I left).length=e.n:=by simp[hB,Frame.n]
theorem hB_1:(hB c e I left)[4]?=some ⟨0,false,118,2,[.vec c.L.length (g8 c.L),.int .i64 I],0⟩:=rfl
theorem hB_2:(hB c e I left)[5]?=some ⟨0,false,129,6,[.ptr 4 0 0,.vec c.gs.length (u0 c.gs),.vec c.ms.length (g6 c.ms),.own 8 c.gF 0 c.fs.length,.int .i64 left,.bool c.ar],0⟩:=rfl
theorem hB_5:(hB c e I left)[8]?=some ⟨c.gF,false,136,3,o8 c.fs,0⟩:=rfl
theorem Br:(hB c e I left++l)[4]?=some ⟨0,false,118,2,[.vec c.L.length (g8 c.L),.int .i64 I],0⟩:=rfl
theorem Bt:(hB c e I left++l)[5]?=some ⟨0,false,129,6,[.ptr 4 0 0,.vec c.gs.length (u0 c.gs),.vec c.ms.length (g6 c.ms),.own 8 c.gF 0 c.fs.length,.int .i64 left,.bool c.ar],0⟩:=rfl
theorem Bu:(hB c e I left++l)[8]?=some ⟨c.gF,false,136,3,o8 c.fs,0⟩:=rfl
theorem Bv:(hB c e I left++l).set 5 ⟨0,false,129,6,[.ptr 4 0 0,.vec c.gs.length (u0 c.gs),.vec c.ms.length (g6 c.ms),.own 8 c.gF 0 c.fs.length,.int .i64 k,.bool c.ar],0⟩=hB c e I k++l:=rfl
variable {j:Nat}
theorem gP:(hB c e I left++l)[e.n+j]?=l[j]?:=by rw[List.getElem?_append_right (by rw[dG];omega),dG,Nat.add_sub_cancel_left]
theorem E5:(hB c e I left++l)[e.n]?=l[0]?:=by rw[List.getElem?_append_right (by rw[dG];omega),dG,Nat.sub_self]
theorem hU {b:Blk}:(hB c e I left++l).set (e.n+j) b=hB c e I left++l.set j b:=by rw[List.set_append_right _ _ (by rw[dG];omega),dG,Nat.add_sub_cancel_left]
theorem U6 {b:Blk}:(hB c e I left++l).set e.n b=hB c e I left++l.set 0 b:=by rw[List.set_append_right _ _ (by rw[dG];omega),dG,Nat.sub_self]
variable {left':Int}
theorem iZ {I':Int}:aI (hB c e I left) (hB c e I' left'):=by
  refine aI.of ⟨.inl rfl,.inl rfl,.inl rfl,.inl rfl,.inr (iW.get ⟨.vec _ _,.int _ _,trivial⟩),.inr (iW.get ⟨.ptr _ _ _ ?_,.vec _ _,.vec _ _,.own _ _ _ _ ?_,.int _ _,.bool _,trivial⟩),.inl rfl,.inl rfl,.inl rfl,oU.refl _ _⟩
  · rw[dG];unfold Frame.n;omega
  · rw[dG];unfold Frame.n;omega
theorem E6 {I':Int}{l':c6}(hk:oU (e.n+l'.length) l l'):aI (hB c e I left++l) (hB c e I' left'++l'):=
  iZ.app (by rw[dG,dG]) (by rw[dG];exact hk)
end
theorem famB (c:Core)(e:Frame)(left:Int):cE 4 c.L e.n fun I=>hB c e I left:=⟨fun _=>rfl,fun _ _=>rfl,fun _=>dG⟩
theorem iG {c:Core}{e:Frame}{left:Int}(l:c6)(I n:Int)(hI:OkI c.L I)(hL:c.L.length<4611686018427387904)(hn:0<n)(hm:n≤4611686018427387904):CH 75 [.ptr 4 0 0,.int .i64 n] (hB c e I left++l) (.int .i64 (c5 c.L I n).1) (hB c e (c5 c.L I n).2 left++l):=nP (famB c e left) l I n hI hL hn hm
theorem U7 {c:Core}{e:Frame}{left:Int}(l:c6)(I v:Int)(hI:OkI c.L I)(hL:c.L.length<4611686018427387904)(names:List BA)(hN:names.length<1000)(hv:0≤v∧v<1000):CH 158 [.ptr 4 0 0,.vec names.length (bA names),.int .i64 v] (hB c e I left++l) (.agg (w8 (eP c.L names v.toNat I).1)) (hB c e (eP c.L names v.toNat I).2 left++l):=by have h:=XD hL names hN v.toNat (by omega) ((famB c e left).app l) I hI;rw[Int.toNat_of_nonneg hv.1]at h;exact h
variable {i:Nat}
theorem qZ {l:List Mx}(h:i<l.length):List.take 1 (List.drop (i*3+2) (g6 l))=[AV.int .i64 (l.getD i aA).size]:=by have:=congrArg (fun x=>x.drop 2) (C1 h);simp only[List.drop_take,List.drop_drop]at this;simpa using this
theorem SR {l:List Mx}(h:i<l.length):List.take 1 (List.drop (i*3) (g6 l))=[AV.str (l.getD i aA).name]:=by have:=congrArg (fun x=>x.take 1) (C1 h);simp only[List.take_take]at this;simpa using this
theorem BC {l:List Pm}(h:i<l.length):List.take 1 (List.drop (i*2) (aC l))=[AV.str (l.getD i jL).name]:=by have:=congrArg (fun x=>x.take 1) (HU h);simp only[List.take_take]at this;simpa using this
theorem mL {l:List Pm}(h:i<l.length):List.take 1 (List.drop (i*2+1) (aC l))=[AV.bool (l.getD i jL).mu]:=by have:=congrArg (fun x=>x.drop 1) (HU h);simp only[List.drop_take,List.drop_drop]at this;simpa using this
variable {vars:List BA}{size:Int}
theorem idx_pos {c:Core}{I:Int}(h:c.ar=true)(h2:(c5 c.L I 3).1=1):iP c vars size I=eP c.L vars 1 (c5 c.L I 3).2:=by rw[iP,if_pos h,if_pos h2]
theorem idx_neg {c:Core}{I:Int}(h:c.ar=true)(h2:¬(c5 c.L I 3).1=1):iP c vars size I=(.leaf 1 (c5 c.L (c5 c.L I 3).2 size).1 ByteArray.empty,(c5 c.L (c5 c.L I 3).2 size).2):=by rw[iP,if_pos h,if_neg h2]
theorem idx_no {c:Core}{I:Int}(h:c.ar=false):iP c vars size I=(.leaf 1 (c5 c.L I size).1 ByteArray.empty,(c5 c.L I size).2):=by rw[iP,if_neg t219]
theorem wex_pos {c:Core}{I:Int}(h:c.ar=true):j6 c vars I=eP c.L vars (1+(c5 c.L I 2).1).toNat (c5 c.L I 2).2:=by rw[j6,if_pos h]
theorem wex_neg {c:Core}{I:Int}(h:c.ar=false):j6 c vars I=eP c.L vars 0 I:=by rw[j6,if_neg t219]
attribute [local go_sem] l8 bE n6 bK o7 Int.natCast_nonneg Int.natCast_inj List.length_map dG hB_1 hB_2 hB_5 Br Bt Bu Bv gP E5 hU U6
theorem frz_E {n d:Nat}{H:c6}{a:Ex}:o6 (jQ n H (d+1)) (w8 a)=some (w8 a):=by rw[cM];rfl
theorem SS {r:Rf}:pV (FL ⟨true,r,l9⟩) (.bool true::(AG r++[.int .i64 0,.int .i64 0,.str ByteArray.empty,.j4])):=⟨.inl rfl,.inl rfl,.inl rfl,.inl rfl,.inl rfl,.inl rfl,.inr ⟨rfl,rfl⟩,trivial⟩
theorem JR {x:Ex}:pV (FL ⟨false,o1,x⟩) (.bool false::.str ByteArray.empty::.j4::w8 x):=⟨.inl rfl,.inl rfl,.inr ⟨rfl,rfl⟩,pV.refl _⟩
theorem frz_A {n d:Nat}{H:c6}{l:List Ar}:o6 (iT n H (d+1)) (cC l)=some (cC l):=by
  induction l with
  | nil=>rfl
  | cons a l ih=>
    refine zA ?_ ih;simp only[FL,o6,qO,qP,oE,EJ]
section
attribute [local go_sem] iF
theorem c_index {c:Core}{e:Frame}{left I:Int}(hc:OkC c)(hI:OkI c.L I)(hL:c.L.length<4611686018427387904)(vars:List BA)(hN:vars.length<1000)(size:Int)(hs:0<size∧size≤3):CH 157 [.ptr 5 0 0,.vec vars.length (bA vars),.int .i64 size] (hB c e I left) (.agg (w8 (iP c vars size I).1)) (hB c e (iP c vars size I).2 left):=by
  refine .wz Tryz.f157 32 ?_;have h3:=n9 hI (n:=3) (by omega);refine c23z ?_;refine c29z ?_;refine .spl 11 rfl rfl (fun e1=>?_) (fun e1=>?_)
  ·try simp only[e1]
   have qe1:=fact e1;refine .k 4 [(4,11)] ?_;refine .ch rfl rfl (iG _ _ 3 hI hL (by omega) (by omega)) ?_;refine .m [(4,11)] ?_;refine u2z ?_ ?_
   ·intro e2 qe2;refine .c7 [0,1,6] ?_;refine c29z ?_;refine .ch rfl rfl (U7 _ _ 1 h3.2.2 hL vars hN (by omega)) ?_;refine c105z ?_;exact ⟨hB _ _ _ _,_,_,rfl,t79,iZ,t9,t83⟩
   intro e2 qe2;refine .sk ?_;refine .c7 [0,2,6] ?_;refine c29z ?_;refine .ch rfl rfl (iG _ _ size (by first | exact h3.2.2 | exact hI) hL (by omega) (by omega)) ?_;refine c105z ?_;exact ⟨hB _ _ _ _,_,_,rfl,t79,iZ,t9,t83⟩
  try simp only[e1]
  have qe1:=fact e1;refine .m [(4,11)] ?_;refine c20z ?_;refine .c7 [0,2,6] ?_;refine c29z ?_;refine .ch rfl rfl (iG _ _ size (by first | exact h3.2.2 | exact hI) hL (by omega) (by omega)) ?_;refine c105z ?_;exact ⟨hB _ _ _ _,_,_,rfl,t79,iZ,t9,t83⟩
end
section
attribute [local go_sem] iF wrap64
theorem c_wexpr {c:Core}{e:Frame}{left I:Int}(hc:OkC c)(hI:OkI c.L I)(hL:c.L.length<4611686018427387904)(vars:List BA)(hN:vars.length<1000):CH 128 [.ptr 5 0 0,.vec vars.length (bA vars)] (hB c e I left) (.agg (w8 (j6 c vars I).1)) (hB c e (j6 c vars I).2 left):=by
  refine .wz Tryz.f128 28 ?_;have h2:=n9 hI (n:=2) (by omega);refine c108z ?_;refine u2z ?_ ?_
  ·intro e1 qe1;refine c29z ?_;refine .ch rfl rfl (U7 _ _ 0 hI hL vars hN (by omega)) ?_;refine c105z ?_;exact ⟨hB _ _ _ _,_,_,rfl,t79,iZ,t9,t188⟩
  intro e1 qe1;refine .sk ?_;refine .sm z8 (mkP 13 [0,1,3,7,0,0,32,96,224,480,992,2047,4095] [9,11,12]) [0,1,2,3,4] ?_;refine gJ.p (pd:=[]) 9 ?_;refine gJ.u9 rfl rfl rfl rfl rfl xZ (iG _ _ 2 hI hL (by omega) (by omega)) ?_;refine gJ.p 1 ?_;refine gJ.u9 rfl rfl rfl rfl rfl QP (U7 _ _ _ h2.2.2 hL vars hN (by omega)) ?_;refine gJ.p 1 ?_;refine gJ.nil t13 ?_;refine c4z ?_;exact ⟨hB _ _ _ _,_,_,rfl,t79,iZ,t9,t188⟩
end
theorem lK {l:List BA}{x:BA}:bA (l++[x])=bA l++[.str x]:=by simp[bA]
theorem EP {c:Core}(h:i<c.ms.length):(c.ms.map (·.name)).take (i+1)=(c.ms.map (·.name)).take i++[(c.ms.getD i aA).name]:=by rw[List.take_add_one];simp[List.getD,h]
theorem O0 (l m:List Pm):extra (l++m)=extra l++extra m:=by
  induction l with
  | nil=>rfl
  | cons p l ih=>simp only[List.cons_append,extra];split<;>simp[ih]
variable {j:Nat}
theorem zE {l:List Pm}(h:j<l.length):l.take (j+1)=l.take j++[l.getD j jL]:=by rw[List.take_add_one];simp[List.getD,h]
variable {ps:List Pm}
theorem JS {c:Core}:l6 c (ps.take 0)=c.ms.map (·.name):=by simp[l6,extra]
theorem rn_t {c:Core}(h:j<ps.length)(hm:(ps.getD j jL).mu=true):l6 c (ps.take (j+1))=l6 c (ps.take j)++[(ps.getD j jL).name]++[(ps.getD j jL).name]:=by rw[zE h];simp only[l6,O0,List.append_assoc];simp only[extra,hm,if_true];rfl
theorem rn_f {c:Core}(h:j<ps.length)(hm:(ps.getD j jL).mu=false):l6 c (ps.take (j+1))=l6 c (ps.take j):=by rw[zE h];simp only[l6,O0];simp only[extra,hm,Bool.false_eq_true,if_false,List.append_nil]
theorem ref_pos {c:Core}{I:Int}(h1:(c5 c.L I (l6 c ps).length).1<c.ms.length)(h2:0<(c.ms.getD (c5 c.L I (l6 c ps).length).1.toNat aA).size):y0 c ps vars I=
    (⟨(l6 c ps).getD (c5 c.L I (l6 c ps).length).1.toNat ByteArray.empty,[(iP c vars (c.ms.getD (c5 c.L I (l6 c ps).length).1.toNat aA).size (c5 c.L I (l6 c ps).length).2).1]⟩,(iP c vars (c.ms.getD (c5 c.L I (l6 c ps).length).1.toNat aA).size (c5 c.L I (l6 c ps).length).2).2):=if_pos ⟨h1,h2⟩
theorem ref_neg {c:Core}{I:Int}(h:¬((c5 c.L I (l6 c ps).length).1<c.ms.length∧0<(c.ms.getD (c5 c.L I (l6 c ps).length).1.toNat aA).size)):y0 c ps vars I=
    (⟨(l6 c ps).getD (c5 c.L I (l6 c ps).length).1.toNat ByteArray.empty,[]⟩,(c5 c.L I (l6 c ps).length).2):=if_neg h
theorem encN_ne {l:List BA}(h:0<l.length):bA l≠[]:=by intro e;have:=congrArg List.length e;rw[bE,List.length_nil]at this;omega
theorem JT {x:Ex}:o2 [x]=w8 x:=by simp[o2]
theorem JU {c:Core}{e:Frame}{I left:Int}{fb rb:Blk}{g n:Nat}{zs:List BA}{x:AV}(hz:zs.length=n)(hn:n<1000) :
    j9 cfg 9 (hB c e I left++[fb,rb,s8 9 1 g (bA zs),⟨0,false,9,1,[x],0⟩]) (.own (e.n+2) g 0 n) (.own (e.n+3) 0 0 1)=some (.own (e.n+2) (g+1) 0 (n+1),hB c e I left++[fb,rb,s8 9 1 (g+1) (bA zs++[x]),⟨0,false,9,1,[x],0⟩]):=by
  have hb:(hB c e I left++[fb,rb,s8 9 1 g (bA zs),⟨0,false,9,1,[x],0⟩])[e.n+2]?=some (s8 9 1 g (bA zs)):=gP;rw[aJ (C:=cfg) (K:=1) (m:=1) (new:=[x]) hb rfl (by omega) (by rw[bE,hz,Nat.mul_one]) rfl (by omega) t151 rfl (by decide) (by omega),hU];rfl
theorem ER {c:Core}{e:Frame}{I left:Int}{fb rb:Blk}{g n:Nat}{zs:List BA}{x y:AV}(hz:zs.length=n)(hn:n<1000) :
    j9 cfg 9 (hB c e I left++[fb,rb,s8 9 1 g (bA zs),⟨0,false,9,1,[x,y],0⟩]) (.own (e.n+2) g 0 n) (.own (e.n+3) 0 0 2)=some (.own (e.n+2) (g+1) 0 (n+2),hB c e I left++[fb,rb,s8 9 1 (g+1) (bA zs++[x,y]),⟨0,false,9,1,[x,y],0⟩]):=by
  have hb:(hB c e I left++[fb,rb,s8 9 1 g (bA zs),⟨0,false,9,1,[x,y],0⟩])[e.n+2]?=some (s8 9 1 g (bA zs)):=gP;rw[aJ (C:=cfg) (K:=1) (m:=2) (new:=[x,y]) hb rfl (by omega) (by rw[bE,hz,Nat.mul_one]) rfl (by omega) t151 rfl (by decide) (by omega),hU];rfl
theorem XR {n:Nat}{l:List BA}:∀x∈bA l,Refs n x:=by intro x hx;obtain ⟨y,_,rfl⟩:=List.mem_map.1 hx;exact .str _
theorem Frame.n_ge (e:Frame):9≤e.n:=by unfold Frame.n;omega
theorem SU {c:Core}{e:Frame}{left I:Int}{l:c6}(hc:OkC c)(hI:OkI c.L I)(hL:c.L.length<4611686018427387904)(vars:List BA)(hN:vars.length<1000)(size:Int)(hs:0<size∧size≤3):CH 157 [.ptr 5 0 0,.vec vars.length (bA vars),.int .i64 size] (hB c e I left++l) (.agg (w8 (iP c vars size I).1)) (hB c e (iP c vars size I).2 left++l):=c_index (e:=⟨e.b0,e.b1,e.b2,e.z,e.m,e.g,e.rest++l⟩) hc hI hL vars hN size hs
theorem BD {c:Core}{e:Frame}{left I:Int}{l:c6}(hc:OkC c)(hI:OkI c.L I)(hL:c.L.length<4611686018427387904)(vars:List BA)(hN:vars.length<1000):CH 128 [.ptr 5 0 0,.vec vars.length (bA vars)] (hB c e I left++l) (.agg (w8 (j6 c vars I).1)) (hB c e (j6 c vars I).2 left++l):=c_wexpr (e:=⟨e.b0,e.b1,e.b2,e.z,e.m,e.g,e.rest++l⟩) hc hI hL vars hN
section
attribute [local go_sem] iF wrap64 fE JU ER SR qZ BC mL tD M7 T7 D0 max2
theorem c_ref {c:Core}{e:Frame}{left I:Int}(hc:OkC c)(hI:OkI c.L I)(hL:c.L.length<4611686018427387904)(vars:List BA)(hN:vars.length<1000)(f:Fu)(hp:f.params.length≤2):CH 127 [.ptr 5 0 0,.agg (fE f),.vec vars.length (bA vars)] (hB c e I left) (.agg (AG (y0 c f.params vars I).1)) (hB c e (y0 c f.params vars I).2 left):=by
  refine .wz Tryz.f127 107 ?_;have hml:=hc.ml;refine c49z ?_;refine c9.wC 7 rfl ?_;refine .aN (fun m st=>∃(i:Nat),(m=c.ms.length-i∧i≤c.ms.length)∧st=⟨mkS 107 [(0,AV.ptr 5 0 0),(2,AV.vec vars.length (bA vars)),(4,AV.ptr e.n 0 0),(6,AV.ptr (e.n+1) 0 0),(7,AV.own (e.n+2) i 0 i),(8,AV.int .i64 ((i:Nat):Int))],hB c e I left++[⟨0,false,136,3,[.str f.name,.vec f.params.length (aC f.params),.vec f.body.len (s4 f.body)],0⟩,⟨0,false,187,2,[.str ByteArray.empty,.j4],0⟩,s8 9 1 i (bA ((c.ms.map (·.name)).take i))]⟩) (.v ⟨0,⟨rfl,by omega⟩,rfl⟩ (hs:=t40) (hr:=t1)) ?_;rintro m sl h' ⟨i,⟨hm,hi⟩,hst⟩;obtain ⟨rfl,rfl⟩:=St.mk.inj hst;clear hst;have htk:((c.ms.map (·.name)).take i).length=i:=by simp;omega
  refine c1z ?_;refine u2z ?_ ?_
  ·intro e1 qe1;refine c3z ?_;refine .c7 [0,2,4,6,7,8] ?_;refine c115z ?_;refine .c7 [0,2,4,6,7,8] ?_;refine .rz ?_;exact ⟨_,by omega,.v ⟨(i+1),⟨rfl,by omega⟩,rfl⟩ (he:=by (rw[EP (by omega),lK];simp only[List.append_assoc,List.cons_append,List.nil_append];rfl)) (hl:=t31) (hk:=t127) (hs:=t40) (hr:=t1)⟩
  intro e1 qe1;refine .exit ?_;obtain rfl:i=c.ms.length:=by omega
  change c9 ..;refine .c7 [0,2,4,6,7] ?_;refine c16z ?_;refine .aN (fun m st=>∃(j:Nat) (g:Nat),(m=f.params.length-j∧j≤f.params.length)∧st=⟨mkS 107 [(0,AV.ptr 5 0 0),(2,AV.vec vars.length (bA vars)),(4,AV.ptr e.n 0 0),(6,AV.ptr (e.n+1) 0 0),(7,AV.own (e.n+2) g 0 (l6 c (f.params.take j)).length),(9,AV.int .i64 ((c.ms.length:Nat):Int)),(10,AV.int .i64 ((j:Nat):Int))],hB c e I left++[⟨0,false,136,3,[.str f.name,.vec f.params.length (aC f.params),.vec f.body.len (s4 f.body)],0⟩,⟨0,false,187,2,[.str ByteArray.empty,.j4],0⟩,s8 9 1 g (bA (l6 c (f.params.take j)))]⟩) (.v ⟨0,c.ms.length,⟨rfl,by omega⟩,rfl⟩ (hs:=t62) (hr:=t1)) ?_ (he:=by (rw[JS,show (c.ms.map (·.name)).take c.ms.length=c.ms.map (·.name) from List.take_of_length_le (by simp)]));rintro m sl h' ⟨j,g,⟨hm,hj⟩,hst⟩;obtain ⟨rfl,rfl⟩:=St.mk.inj hst;clear hst;have hxl:=(nO hc (f.params.take j)).2;have hxt:(f.params.take j).length≤2:=by simp;omega
  refine c1z ?_;refine u2z ?_ ?_
  ·intro e2 qe2;refine c131z ?_;refine u2z ?_ ?_
   ·intro e3 qe3;refine .c7 [0,2,4,6,7,9,10] ?_;refine c9.lX z8 (mkP 16 [0,0,2,0,14,30,62,0,128,0,896,1920,3968,8190,16383,32767] [13,14]) [0] (by kernel_rfl) (by kernel_rfl) ?_;refine gJ.p (pd:=[]) 16 ?_;refine gJ.nil t13 ?_;change c9 ..;refine .c7 [0,2,4,6,7,9,10] ?_;refine .rz ?_;have hxs:=congrArg List.length (rn_t (c:=c) (j:=j) (ps:=f.params) (by omega) (by assumption));simp only[List.length_append,List.length_singleton]at hxs;exact ⟨_,by omega,.v ⟨(j+1),(g+1),⟨rfl,by omega⟩,rfl⟩ (he:=by (rw[rn_t (by omega) (by assumption),lK,lK];simp only[List.append_assoc,List.cons_append,List.nil_append];rfl)) (hl:=t31) (hk:=t127) (hs:=t62) (hr:=t1)⟩
   intro e3 qe3;refine c5z ?_;refine .c7 [0,2,4,6,7,9,10] ?_;refine .rz ?_;have hxs:=congrArg List.length (rn_f (c:=c) (j:=j) (ps:=f.params) (by omega) (by assumption));exact ⟨_,by omega,.v ⟨(j+1),g,⟨rfl,by omega⟩,rfl⟩ (he:=by (rw[rn_f (by omega) (by assumption)];exact (List.append_nil _).symm)) (hl:=t31) (hk:=t127) (hs:=t62) (hr:=t1)⟩
  intro e2 qe2;refine .exit ?_;obtain rfl:j=f.params.length:=by omega
  rw[List.take_length]at hxl ⊢;change c9 ..;have hrl:=nO hc f.params;have hk:=n9 hI (n:=((l6 c f.params).length:Int)) (by omega);rw[eE (encN_ne hrl.1)];refine c133z ?_;refine .ch rfl rfl (iG _ _ _ hI hL (by omega) (by omega)) ?_;refine .n ?_;refine .c7 [0,2,6,7,9,11] ?_;refine c23z ?_;refine c30z ?_;refine .spl 80 rfl rfl (fun e4=>?_) (fun e4=>?_)
  ·try simp only[e4]
   have qe4:=fact e4;refine .k 8 [(3,80)] ?_;refine .m [(3,80)] ?_;refine u2z ?_ ?_
   ·intro e5 qe5;refine .c7 [0,2,6,11,12] ?_;have hsz:=hc.mx (c5 c.L I (l6 c f.params).length).1.toNat (by omega);refine c98z ?_;refine .e 3 ?_;refine .ch rfl rfl (SU hc hk.2.2 hL vars hN _ (by omega)) ?_;refine c25z ?_;refine .c7 [6,12] ?_;refine c28z ?_;exact ⟨hB _ _ _ _,_,_,rfl,t79,iZ,t9,t96⟩
   intro e5 qe5;refine .sk ?_;refine .c7 [6,12] ?_;refine c28z ?_;exact ⟨hB _ _ _ _,_,_,rfl,t79,iZ,t9,t96⟩
  try simp only[e4]
  have qe4:=fact e4;refine .k 8 [(3,80)] ?_;refine .m [(3,80)] ?_;refine c20z ?_;refine .c7 [6,12] ?_;refine c28z ?_;exact ⟨hB _ _ _ _,_,_,rfl,t79,iZ,t9,t96⟩
end
end Go.Proofs.YtonbocmibeikmaaGreat
end
section
namespace Go.Proofs.YtonbocmibeikmaaGreat
open Go.Ab Go.Un
structure Sco where
  p:Go.Un.Pg
  l:List Ent
  loc:Int
  st:Int
  code:List Ins
  sites:List Int
structure Frm where
  pre:c6
  rest:c6
def Frm.k (e:Frm):Nat:=e.pre.length
def Frm.n (e:Frm):Nat:=e.pre.length+(e.rest.length+3)
def aW (k:Nat)(s:Sco):Blk:=⟨0,false,198,10,[.vec s.p.globals.length (u0 s.p.globals),.vec s.p.c4.length (g6 s.p.c4),.vec s.p.funcs.length (o8 s.p.funcs),.vec s.l.length (j8 s.l),.int .i64 s.loc,.int .i64 s.st,.int .i64 0,.int .i64 0,.own (k+1) s.code.length 0 s.code.length,.own (k+2) s.sites.length 0 s.sites.length],0⟩
def hT (e:Frm)(b:Blk)(c:List Ins)(ss:List Int):c6:=e.pre++(b::s8 54 12 c.length (s5 c)::s8 3 1 ss.length (g8 ss)::e.rest)
section
variable {e:Frm}{b b':Blk}{c c':List Ins}{ss ss':List Int}{l:c6}{j:Nat}
theorem bF:(hT e b c ss).length=e.n:=by simp[hT,Frm.n]
theorem Frm.lt (e:Frm):e.k<e.n∧e.k+1<e.n∧e.k+2<e.n:=by unfold Frm.k Frm.n;omega
theorem hT_0:(hT e b c ss)[e.k]?=some b:=by rw[hT,Frm.k,List.getElem?_append_right (Nat.le_refl _),Nat.sub_self];rfl
theorem hT_1:(hT e b c ss)[e.k+1]?=some (s8 54 12 c.length (s5 c)):=by rw[hT,Frm.k,List.getElem?_append_right (by omega),Nat.add_sub_cancel_left];rfl
theorem hT_2:(hT e b c ss)[e.k+2]?=some (s8 3 1 ss.length (g8 ss)):=by rw[hT,Frm.k,List.getElem?_append_right (by omega),Nat.add_sub_cancel_left];rfl
theorem SV:(hT e b c ss++l)[e.k]?=some b:=by rw[List.getElem?_append_left (by rw[bF];exact e.lt.1),hT_0]
theorem SW:(hT e b c ss++l)[e.k+1]?=some (s8 54 12 c.length (s5 c)):=by rw[List.getElem?_append_left (by rw[bF];exact e.lt.2.1),hT_1]
theorem SX:(hT e b c ss++l)[e.k+2]?=some (s8 3 1 ss.length (g8 ss)):=by rw[List.getElem?_append_left (by rw[bF];exact e.lt.2.2),hT_2]
theorem fG:(hT e b c ss++l)[e.n+j]?=l[j]?:=by rw[List.getElem?_append_right (by rw[bF];omega),bF,Nat.add_sub_cancel_left]
theorem E7:(hT e b c ss++l)[e.n]?=l[0]?:=by rw[List.getElem?_append_right (by rw[bF];omega),bF,Nat.sub_self]
theorem jD:(hT e b c ss++l).set (e.n+j) b'=hT e b c ss++l.set j b':=by rw[List.set_append_right _ _ (by rw[bF];omega),bF,Nat.add_sub_cancel_left]
theorem U8:(hT e b c ss++l).set e.n b'=hT e b c ss++l.set 0 b':=by rw[List.set_append_right _ _ (by rw[bF];omega),bF,Nat.sub_self]
theorem SY:(hT e b c ss).set e.k b'=hT e b' c ss:=by rw[hT,Frm.k,List.set_append_right _ _ (Nat.le_refl _),Nat.sub_self];rfl
theorem BE:(hT e b c ss++l).set e.k b'=hT e b' c ss++l:=by rw[List.set_append_left _ _ (by rw[bF];exact e.lt.1),SY]
theorem hT_p1:(hT e b c ss).set (e.k+1) (s8 54 12 c'.length (s5 c'))=hT e b c' ss:=by rw[hT,Frm.k,List.set_append_right _ _ (by omega),Nat.add_sub_cancel_left];rfl
theorem hT_p2:(hT e b c ss).set (e.k+2) (s8 3 1 ss'.length (g8 ss'))=hT e b c ss':=by rw[hT,Frm.k,List.set_append_right _ _ (by omega),Nat.add_sub_cancel_left];rfl
theorem XS:(hT e b c ss++l).set (e.k+1) (s8 54 12 c'.length (s5 c'))=hT e b c' ss++l:=by rw[List.set_append_left _ _ (by rw[bF];exact e.lt.2.1),hT_p1]
theorem hT_p2a:(hT e b c ss++l).set (e.k+2) (s8 3 1 ss'.length (g8 ss'))=hT e b c ss'++l:=by rw[List.set_append_left _ _ (by rw[bF];exact e.lt.2.2),hT_p2]
theorem XT:hT e b c ss++l=hT ⟨e.pre,e.rest++l⟩ b c ss:=by simp[hT]
end
theorem XU (l:List Ins):z7 (s5 l):=z7.flat fun i=>by rw[fT,cM];exact .cons .int (.cons .int (.cons .bool (.cons .int (.cons .int (.cons .str (.cons .vec (.cons .bool (.cons .int (.cons .vec (.cons .vec (.cons .vec .nil)))))))))))
theorem yJ (l:List Int):z7 (g8 l):=z7.map fun _=>.int
theorem E8 {e:Frm}{b b':Blk}{c c':List Ins}{ss ss':List Int}(hb:∀x∈b'.cells,Refs e.n x):aI (hT e b c ss) (hT e b' c' ss'):=by unfold hT;refine aI.app (aI.refl _) rfl ⟨.inr ?_,.inr (by rw[o9];exact (XU _).refs _),.inr (by rw[o9];exact (yJ _).refs _),oU.refl _ _⟩;rw[show e.pre.length+(b'::s8 54 12 c'.length (s5 c')::s8 3 1 ss'.length (g8 ss')::e.rest).length=e.n from by simp[Frm.n]];exact hb
variable {s:Sco}
theorem hT_keep {e:Frm}{k:Nat}{s':Sco}:k=e.k→aI (hT e (aW k s) s.code s.sites) (hT e (aW k s') s'.code s'.sites):=by
  rintro rfl;refine E8 (iW.get ⟨.vec _ _,.vec _ _,.vec _ _,.vec _ _,.int _ _,.int _ _,.int _ _,.int _ _,.own _ _ _ _ ?_,.own _ _ _ _ ?_,trivial⟩)
  · exact e.lt.2.1
  · exact e.lt.2.2
theorem iH {f:FuncId}{args:List AV}{x:AV}{s':Sco}{l:c6}{e:Frm}(h:CH f args (hT ⟨e.pre,e.rest++l⟩ (aW e.k s) s.code s.sites) x (hT ⟨e.pre,e.rest++l⟩ (aW e.k s') s'.code s'.sites)):CH f args (hT e (aW e.k s) s.code s.sites++l) x (hT e (aW e.k s') s'.code s'.sites++l):=by rw[XT,XT];exact h
theorem ES {α:Type}(f:α→List AV)(K j:Nat)(hK:∀a,(f a).length=K)(hj:j<K)(d:α){l:List α}{i:Nat}(h:i<l.length):List.take 1 (List.drop (i*K+j) (l.flatMap f))=List.take 1 (List.drop j (f (l.getD i d))):=by rw[←dP f K hK d h,List.drop_take,List.take_take,List.drop_drop,Nat.min_eq_left (by omega)]
theorem lL {l:List Ent}{i:Nat}(h:i<l.length):List.take 1 (List.drop (i*3) (j8 l))=[.str (l.getD i kX).name]:=ES jY 3 0 (fun _=>rfl) (by omega) kX h
variable {x:BA}
theorem find_at {l:List Ent}:∀{i:Nat},i<l.length→(∀d,d<i→((l.getD d kX).name.toList==x.toList)=false)→((l.getD i kX).name.toList==x.toList)=true→cO l x=some (l.getD i kX):=by
  have tl:∀{a b:BA},(a.toList==b.toList)=decide (a=b):=by
    intro a b;rw[ByteArray.toList_eq,ByteArray.toList_eq,Bool.eq_iff_iff];simp only[beq_iff_eq,decide_eq_true_eq];constructor
    · intro h
      exact ByteArray.ext (Array.toList_inj.1 h)
    · rintro rfl;rfl
  induction l with
  | nil=>intro i h;simp at h
  | cons e l ih=>
    intro i hi h1 h2;rw[cO,List.find?_cons];cases i with
    | zero=>
      rw[tl]at h2;simp only[List.getD_cons_zero]at h2 ⊢;rw[h2]
    | succ i=>
      have h0:=h1 0 (by omega);rw[tl]at h0;simp only[List.getD_cons_zero]at h0;rw[h0];simp only[List.getD_cons_succ]at h2 ⊢;exact ih (by simpa using hi) (fun d hd=>by have:=h1 (d+1) (by omega);simpa using this) h2
theorem find_no {l:List Ent}(h:∀d,d<l.length→((l.getD d kX).name.toList==x.toList)=false):cO l x=none:=by rw[cO,List.find?_eq_none];intro e he;obtain ⟨i,hi,rfl⟩:=cU (d:=kX) he;have:=h i hi;intro hc;simp only[decide_eq_true_eq]at hc;rw[hc]at this;simp at this
theorem find_nx {l:List Ent}{i:Nat}(h:∀d,d<i→((l.getD d kX).name.toList==x.toList)=false)(e:((l.getD i kX).name.toList==x.toList)=false):∀d,d<i+1→((l.getD d kX).name.toList==x.toList)=false:=fun d hd=>by
  by_cases hdi:d=i
  · rw[hdi];exact e
  · exact h d (by omega)
variable {v:Ent}
theorem BF {l:List Ent}(h:cO l x=some v):AV.tup [.agg [.str v.name,.int .i64 v.kind,.int .i64 v.n],.bool true]=.tup [.agg (jY (gI l x)),.bool (cO l x).isSome]:=by rw[fK h,h];rfl
theorem BG {l:List Ent}(h:cO l x=none):AV.tup [.agg [.str ByteArray.empty,.int .i64 0,.int .i64 0],.bool false]=.tup [.agg (jY (gI l x)),.bool (cO l x).isSome]:=by rw[gI,h];rfl
variable {i:Ins}
theorem mM:fT i=[.int .i64 i.op,.int .i64 i.target,.bool i.global,.int .i64 i.e.op,.int .i64 i.e.num,.str i.e.name,.vec i.e.args.length (o2 i.e.args),.bool i.pl.param,.int .i64 i.pl.index,.vec i.pl.at'.length (o2 i.pl.at'),.vec i.ints.length (o2 i.ints),.vec i.aY.length (eS i.aY)]:=by rw[fT,cM];rfl
theorem U9 {l:List Ins}:s5 (l++[i])=s5 l++fT i:=by simp[s5]
theorem rA {l:List Int}{i:Int}:g8 (l++[i])=g8 l++[.int .i64 i]:=by simp[g8]
theorem Ck (l:List Ex):z7 (o2 l):=z7.flat fun e=>by rw[cM];exact .cons .int (.cons .int (.cons .str (.cons .vec .nil)))
theorem JV (l:List Pl):z7 (eS l):=z7.flat fun p=>.cons .bool (.cons .int (.cons .vec .nil))
theorem wY:List.take 12 (fT i)=fT i:=List.take_of_length_le (by rw[bN];omega)
variable {b0:Blk}
theorem SZ {e:Frm}{b:Blk}{c:List Ins}{ss:List Int}{l:c6}{n:Nat}(hn:c.length=n)(hl:n<100000):j9 cfg 54 (hT e b c ss++(b0::⟨1,false,54,12,fT i,0⟩::l)) (.own (e.k+1) n 0 n) (.own (e.n+1) 1 0 1)=some (.own (e.k+1) (n+1) 0 (n+1),hT e b (c++[i]) ss++(b0::⟨1,false,54,12,fT i,0⟩::l)):=by
  subst hn;have h1:(c++[i]).length=c.length+1:=by simp
  rw[aJ (C:=cfg) (K:=12) (m:=1) (new:=fT i) SW rfl (by omega) (by rw[p7,Nat.mul_comm]) (by rw[bN]) (by omega) (by simp[rd,fG,bN,wY]) rfl (by decide) (by omega),←U9,←h1,XS]
theorem O1 {e:Frm}{b:Blk}{c:List Ins}{ss:List Int}{l:c6}{n:Nat}(hn:c.length=n)(hl:n<100000):j9 cfg 54 (hT e b c ss++(b0::⟨1,false,54,12,[.int .i64 i.op,.int .i64 i.target,.bool i.global,.int .i64 i.e.op,.int .i64 i.e.num,.str i.e.name,.vec i.e.args.length (o2 i.e.args),.bool i.pl.param,.int .i64 i.pl.index,.vec i.pl.at'.length (o2 i.pl.at'),.vec i.ints.length (o2 i.ints),.vec i.aY.length (eS i.aY)],0⟩::l)) (.own (e.k+1) n 0 n) (.own (e.n+1) 1 0 1)=some (.own (e.k+1) (n+1) 0 (n+1),hT e b (c++[i]) ss++(b0::⟨1,false,54,12,[.int .i64 i.op,.int .i64 i.target,.bool i.global,.int .i64 i.e.op,.int .i64 i.e.num,.str i.e.name,.vec i.e.args.length (o2 i.e.args),.bool i.pl.param,.int .i64 i.pl.index,.vec i.pl.at'.length (o2 i.pl.at'),.vec i.ints.length (o2 i.ints),.vec i.aY.length (eS i.aY)],0⟩::l)):=by rw[←mM];exact SZ hn hl
theorem BH {e:Frm}{b b1:Blk}{c:List Ins}{ss:List Int}{l:c6}{t:Int}{n:Nat}(hn:ss.length=n)(hl:n<100000):j9 cfg 3 (hT e b c ss++(b0::b1::⟨1,false,3,1,[.int .i64 t],0⟩::l)) (.own (e.k+2) n 0 n) (.own (e.n+2) 1 0 1)=some (.own (e.k+2) (n+1) 0 (n+1),hT e b c (ss++[t])++(b0::b1::⟨1,false,3,1,[.int .i64 t],0⟩::l)):=by
  subst hn;have h1:(ss++[t]).length=ss.length+1:=by simp
  rw[aJ (C:=cfg) (K:=1) (m:=1) (new:=[.int .i64 t]) SX rfl (by omega) (by rw[l8,Nat.mul_one]) rfl (by omega) (by simp[rd,fG]) rfl (by decide) (by omega),←rA,←h1,hT_p2a]
attribute [local go_sem] j9 rd v7 o7 cB dQ p7 bN iA eO n6 bX bK l8 cD Int.natCast_nonneg Int.natCast_inj List.length_map wrap64 iF kP kQ AQ M7 T7 AR D0 max2 gM dY cG Nat.reduceMul oG lL aW jY qZ mL wY bF hT_0 hT_1 hT_2 SV SW SX fG E7 jD U8 SY BE
variable {h:c6}
theorem XV (l:List Ent)(x:BA)(hl:l.length<1000000):CB 89 [.vec l.length (j8 l),.str x] h (.tup [.agg (jY (gI l x)),.bool (cO l x).isSome]):=by
  refine .bz Tryz.f89 25 ?_;refine c16z ?_;refine .aR (fun m st=>∃(i:Nat),(m=l.length-i∧((∀d,d<i→((l.getD d kX).name.toList==x.toList)=false)∧i≤l.length))∧st=⟨mkS 25 [(0,AV.vec l.length (j8 l)),(1,AV.str x),(4,AV.ptr h.length 0 0),(6,AV.int .i64 ((i:Nat):Int))],h++[⟨0,false,145,3,[.str ByteArray.empty,.int .i64 0,.int .i64 0],0⟩]⟩) _ (.v ⟨0,⟨rfl,⟨t78,by omega⟩⟩,rfl⟩) ?_;rintro m sl h' ⟨i,⟨hm,⟨hI,hi⟩⟩,hst⟩;obtain ⟨rfl,rfl⟩:=St.mk.inj hst;refine c1z ?_;refine u2z ?_ ?_
  ·intro e1 qe1;refine c131z ?_;refine u2z ?_ ?_
   ·intro e2 qe2;refine .c7 [0,4,6] ?_;refine .z ?_;exact .ret (.ex (hq:=t190))
   intro e2 qe2;refine c5z ?_;refine .c7 [0,1,4,6] ?_;refine .rz ?_;exact ⟨_,by omega,.v ⟨(i+1),⟨rfl,⟨find_nx hI (by assumption),by omega⟩⟩,rfl⟩⟩
  intro e1 qe1;refine .exit ?_;obtain rfl:i=l.length:=by omega
  change c9 ..;refine .z ?_;exact .ret (.ex (hq:=t190))
theorem V0 {l:List Ent}(hf:cO l x=some v)(hl:l.length<1000000):CB 89 [.vec l.length (j8 l),.str x] h (.tup [.agg [.str v.name,.int .i64 v.kind,.int .i64 v.n],.bool true]):=by have:=XV (h:=h) l x hl;rw[←BF hf]at this;exact this
theorem JW {l:List Ent}(hf:cO l x=none)(hl:l.length<1000000):CB 89 [.vec l.length (j8 l),.str x] h (.tup [.agg [.str ByteArray.empty,.int .i64 0,.int .i64 0],.bool false]):=by have:=XV (h:=h) l x hl;rw[←BG hf]at this;exact this
theorem c_var {e:Frm}(hl:s.l.length<1000000)(t:Int)(hf:cO s.l x=some v)(hk:v.kind=1∨v.kind=4):CB 167 [.ptr e.k 0 0,.str x,.int .i64 t] (hT e (aW e.k s) s.code s.sites) (.agg [.str v.name,.int .i64 v.kind,.int .i64 v.n]):=by
  refine .bz Tryz.f167 37 ?_;refine .z ?_;refine c29z ?_;refine .ca rfl rfl (V0 hf hl) ?_;refine .n ?_;refine .sb ?_;refine .c7 [0,2,6,7,8] ?_;refine c6z ?_;refine c30z ?_;refine .spl 28 rfl rfl (fun e1=>?_) (fun e1=>?_)
  ·try simp only[e1]
   have qe1:=fact e1;refine .m [(3,28)] ?_;refine uFbz ?_;intro e2 qe2;refine c5z ?_;refine c256z ?_;exact .ret (.ex (hf:=t2) (hq:=by rfl))
  try simp only[e1]
  have qe1:=fact e1;refine .m [(3,28)] ?_;refine c48z ?_;refine c256z ?_;exact .ret (.ex (hf:=t2) (hq:=by rfl))
theorem c_ex1 {e:Frm}(hl:s.l.length<1000000)(t:Int)(n:Int):CB 166 [.ptr e.k 0 0,.agg (w8 (.leaf 1 n ByteArray.empty)),.int .i64 t] (hT e (aW e.k s) s.code s.sites) (.agg (w8 (iB s.l (.leaf 1 n ByteArray.empty)))):=by refine c268z ?_;refine c20z ?_;refine c23z ?_;refine .c7 [0,2,4,6,8] ?_;refine c163z ?_;refine .c7 [6,8] ?_;refine .z ?_;exact .ret (.ex (hf:=t2) (hq:=by rfl))
theorem c_ex2 {e:Frm}(hl:s.l.length<1000000)(t:Int)(n:Int)(hf:cO s.l x=some v)(hk:v.kind=1∨v.kind=4):CB 166 [.ptr e.k 0 0,.agg (w8 (.leaf 2 n x)),.int .i64 t] (hT e (aW e.k s) s.code s.sites) (.agg (w8 (iB s.l (.leaf 2 n x)))):=by
  refine c268z ?_;refine .T ?_;refine c30z ?_;refine .ca rfl rfl (iH (c_var hl t hf hk)) ?_;refine c27z ?_;refine c256z ?_;refine u2z ?_ ?_
  ·intro e1 qe1;refine .z ?_;exact .ret (.ex (hf:=t2) (hq:=t227))
  intro e1 qe1;refine .sk ?_;refine .z ?_;exact .ret (.ex (hf:=t2) (hq:=t227))
theorem c_exU {e:Frm}(hl:s.l.length<1000000)(t:Int)(o:Int)(a:Ex)(ho:o≠2)(iha:∀e:Frm,CB 166 [.ptr e.k 0 0,.agg (w8 a),.int .i64 t] (hT e (aW e.k s) s.code s.sites) (.agg (w8 (iB s.l a)))):CB 166 [.ptr e.k 0 0,.agg (w8 (.un o a)),.int .i64 t] (hT e (aW e.k s) s.code s.sites) (.agg (w8 (iB s.l (.un o a)))):=by refine c268z ?_;refine uFbz ?_;intro e1 qe1;refine .sk ?_;refine c23z ?_;refine .c7 [0,2,4,6,8] ?_;refine c15z ?_;refine c243z ?_;refine c40z ?_;refine c187z ?_;refine c188z ?_;refine c72z ?_;refine .cn [true] [512,0] [_] rfl rfl (by simp only[lH,and_true,List.cons_append,List.nil_append];exact iH (iha _)) ?_;refine c92z ?_;refine c118z ?_;refine c58z ?_;refine c279z ?_;refine .rz ?_;refine c43z ?_;refine .c7 [6,8,49] ?_;refine .z ?_;exact .ret (.ex (hf:=t2) (hq:=by rfl))
theorem c_exB {e:Frm}(hl:s.l.length<1000000)(t:Int)(o:Int)(a b:Ex)(ho:o≠2)(iha:∀e:Frm,CB 166 [.ptr e.k 0 0,.agg (w8 a),.int .i64 t] (hT e (aW e.k s) s.code s.sites) (.agg (w8 (iB s.l a))))(ihb:∀e:Frm,CB 166 [.ptr e.k 0 0,.agg (w8 b),.int .i64 t] (hT e (aW e.k s) s.code s.sites) (.agg (w8 (iB s.l b)))):CB 166 [.ptr e.k 0 0,.agg (w8 (.bin o a b)),.int .i64 t] (hT e (aW e.k s) s.code s.sites) (.agg (w8 (iB s.l (.bin o a b)))):=by refine c268z ?_;refine uFbz ?_;intro e1 qe1;refine .sk ?_;refine c23z ?_;refine .c7 [0,2,4,6,8] ?_;refine c15z ?_;refine c164z ?_;refine c40z ?_;refine c187z ?_;refine c188z ?_;refine c72z ?_;refine .cn [true] [512,0] [_] rfl rfl (by simp only[lH,and_true,List.cons_append,List.nil_append];exact iH (iha _)) ?_;refine c92z ?_;refine c118z ?_;refine c58z ?_;refine c279z ?_;refine .rz ?_;refine c87z ?_;refine .c7 [0,2,4,6,8,9] ?_;refine c40z ?_;refine c187z ?_;refine c188z ?_;refine c72z ?_;refine .cn [true] [512,0] [_] rfl rfl (by simp only[lH,and_true,List.cons_append,List.nil_append];exact iH (ihb _)) ?_;refine c92z ?_;refine c118z ?_;refine c58z ?_;refine c279z ?_;refine .rz ?_;refine c43z ?_;refine .c7 [6,8,49] ?_;refine .z ?_;exact .ret (.ex (hf:=t2) (hq:=by rfl))
theorem Pc {s:Sco}(hl:s.l.length<1000000)(t:Int){vars:List BA}(hv:∀x∈vars,∃v,cO s.l x=some v∧(v.kind=1∨v.kind=4)):∀{d:Nat} {a:Ex},GE vars d a→∀e:Frm,CB 166 [.ptr e.k 0 0,.agg (w8 a),.int .i64 t] (hT e (aW e.k s) s.code s.sites) (.agg (w8 (iB s.l a)))
  | d,.leaf o n x,hg,e=>by
    rcases kZ.1 hg with ⟨rfl,_,_,rfl⟩ | ⟨rfl,_,h1⟩
    · exact c_ex1 hl t n
    · obtain ⟨v,h2,h3⟩:=hv x h1
      exact c_ex2 hl t n h2 h3
  | 0,.un o a,hg,e=>hg.elim
  | 0,.bin o a b,hg,e=>hg.elim
  | d+1,.un o a,hg,e=>c_exU hl t o a (by have:=hg.1;omega) (Pc hl t hv hg.2)
  | d+1,.bin o a b,hg,e=>c_exB hl t o a b (by have:=hg.1;omega) (Pc hl t hv hg.2.1) (Pc hl t hv hg.2.2)
theorem sz_0 {m:Int}(h:m=0):decide (m > 0)=false:=by simp;omega
theorem sz_1 {m:Int}(h:0<m):decide (m > 0)=true:=by simp;omega
theorem oI {l:List Fu}{i:Nat}(h:i<l.length):List.take 1 (List.drop (i*3+1) (o8 l))=[AV.vec (l.getD i j7).params.length (aC (l.getD i j7).params)]:=ES fE 3 1 (fun _=>rfl) (by omega) j7 h
variable {y:BA}
theorem c_ref5 {e:Frm}(hl:s.l.length<1000000)(t:Int){n:Int}(hf:cO s.l x=some ⟨y,5,n⟩):CB 169 [.ptr e.k 0 0,.agg [.str x,.vec 0 []],.int .i64 t] (hT e (aW e.k s) s.code s.sites) (.agg [.bool true,.int .i64 n,.vec 0 []]):=by refine .bz Tryz.f169 92 ?_;refine .z ?_;refine c26z ?_;refine c136z ?_;refine c265z ?_;refine c185z ?_;refine .sb ?_;refine c6z ?_;refine .c7 [0,2,4,6,7,9] ?_;refine .s ?_;refine .k 8 [(3,63)] ?_;refine .n ?_;refine .F ?_;refine c94z ?_;refine .k 8 [(3,31)] ?_;refine .k 8 [(3,31)] ?_;refine .n [] ?_;refine .c7 [0,2,4,6,9,10] ?_;refine c6z ?_;refine c5z ?_;refine c7z ?_;refine c68z ?_;refine c257z ?_;exact .ret (.ex (hf:=t2) (hq:=by rfl))
section
attribute [local go_sem] sz_0
theorem c_ref2 {e:Frm}(hl:s.l.length<1000000)(t:Int){n:Int}(hf:cO s.l x=some ⟨y,2,n⟩)(hn:0≤n∧n<s.p.c4.length)(hz:(s.p.c4.getD n.toNat aA).size=0):CB 169 [.ptr e.k 0 0,.agg [.str x,.vec 0 []],.int .i64 t] (hT e (aW e.k s) s.code s.sites) (.agg [.bool false,.int .i64 n,.vec 0 []]):=by refine .bz Tryz.f169 92 ?_;refine .z ?_;refine c26z ?_;refine c136z ?_;refine c265z ?_;refine c185z ?_;refine .sb ?_;refine c6z ?_;refine .c7 [0,2,4,6,7,9] ?_;refine .s ?_;refine .k 8 [(3,63)] ?_;refine .n ?_;refine .F ?_;refine c94z ?_;refine .k 8 [(3,31)] ?_;refine .k 8 [(3,31)] ?_;refine .n [] ?_;refine .c7 [0,2,4,6,9,10] ?_;refine c6z ?_;refine c5z ?_;refine c7z ?_;refine c68z ?_;refine c257z ?_;exact .ret (.ex (hf:=t2) (hq:=by rfl))
end
section
attribute [local go_sem] sz_1
variable {vars:List BA}
theorem c_ref1 {e:Frm}(hl:s.l.length<1000000)(t:Int){n:Int}(hf:cO s.l x=some ⟨y,2,n⟩)(hn:0≤n∧n<s.p.c4.length)(hz:0<(s.p.c4.getD n.toNat aA).size)(hv:∀x∈vars,∃v,cO s.l x=some v∧(v.kind=1∨v.kind=4)){d:Nat}{a:Ex}(ha:GE vars d a):CB 169 [.ptr e.k 0 0,.agg [.str x,.vec 1 (w8 a)],.int .i64 t] (hT e (aW e.k s) s.code s.sites) (.agg [.bool false,.int .i64 n,.vec 1 (w8 (iB s.l a))]):=by refine .bz Tryz.f169 92 ?_;refine .z ?_;refine c26z ?_;refine c136z ?_;refine c265z ?_;refine c185z ?_;refine .sb ?_;refine c6z ?_;refine .c7 [0,2,4,6,7,9] ?_;refine .s ?_;refine .k 8 [(3,63)] ?_;refine .n ?_;refine .F ?_;refine c94z ?_;refine .k 8 [(3,31)] ?_;refine .k 8 [(3,31)] ?_;refine .n [] ?_;refine .c7 [0,2,4,6,9,10] ?_;refine c6z ?_;refine c5z ?_;refine c7z ?_;refine c243z ?_;refine .c7 [0,2,4,6,9,11] ?_;refine c40z ?_;refine c187z ?_;refine c188z ?_;refine c72z ?_;refine .cn [true] [512,0] [_] rfl rfl (by simp only[lH,and_true,List.cons_append,List.nil_append];exact iH (Pc hl t hv ha _)) ?_;refine c92z ?_;refine c118z ?_;refine c58z ?_;change c9 ..;refine .c7 [0,2,4,6,9,11] ?_;refine .rz ?_;refine c43z ?_;refine c257z ?_;exact .ret (.ex (hf:=t2) (hq:=by rfl))
end
variable {vars:List BA}
theorem c_refL {e:Frm}(hl:s.l.length<1000000)(t:Int){E:Env}{c:Ctx}(sc:SC E c vars s.l)(hE:E.c4=s.p.c4)(hc:c.nm=s.p.c4.length){r:Rf}(g:GR E vars r):CB 169 [.ptr e.k 0 0,.agg [.str r.name,.vec r.idx.length (o2 r.idx)],.int .i64 t] (hT e (aW e.k s) s.code s.sites) (.agg (M0 (sC s.l r))):=by
  obtain ⟨x,idx⟩:=r;rcases g with ⟨m,hm,hn,⟨hz,a,hi,ha⟩ | ⟨hz,hi⟩⟩ | ⟨p,hp,hmu,hn,hi⟩
  · simp only at hn hi
    subst hn hi;obtain ⟨v,h1,h2,h3,h4,h5⟩:=sc.mx m hm;obtain ⟨y,k,n⟩:=v;simp only at h2 h3 h4 h5;subst h2;rw[hE]at h5;have:=c_ref1 (e:=e) hl t h1 ⟨h3,by omega⟩ (by rw[h5];exact hz) sc.var ha;simp only[sC,fK h1,M0,List.map_cons,List.map_nil,List.length_cons,List.length_nil,o2,List.flatMap_cons,List.flatMap_nil,List.append_nil];exact this
  · simp only at hn hi
    subst hn hi;obtain ⟨v,h1,h2,h3,h4,h5⟩:=sc.mx m hm;obtain ⟨y,k,n⟩:=v;simp only at h2 h3 h4 h5;subst h2;rw[hE]at h5;have:=c_ref2 (e:=e) hl t h1 ⟨h3,by omega⟩ (by rw[h5];exact hz);simp only[sC,fK h1];exact this
  · simp only at hn hi
    subst hn hi;obtain ⟨v,h1,h2,h3,h4⟩:=sc.pm p hp hmu;obtain ⟨y,k,n⟩:=v;simp only at h2 h3 h4;subst h2;have:=c_ref5 (e:=e) hl t h1;simp only[sC,fK h1];exact this
end Go.Proofs.YtonbocmibeikmaaGreat
end
