/- My own texts, put together by a program of mine. -/
import Derived.Test.YtonbocmibeikmaaGreatIQ2
set_option linter.unusedSimpArgs false
set_option linter.unusedVariables false
set_option maxRecDepth 100000
set_option maxHeartbeats 4000000
section
namespace Go.Proofs.YtonbocmibeikmaaGreat
open Go.Ab Go.Un
structure aY (β:Nat)(L:List Int)(n:Nat)(S:Int→c7):Prop where
  get:∀I,(S I)[β]?=some ⟨0,false,118,2,[.vec L.length (g7 L),.int .i64 I],0⟩
  set:∀I k,(S I).set β ⟨0,false,118,2,[.vec L.length (g7 L),.int .i64 k],0⟩=S k
  len:∀I,(S I).length=n
section
variable {β n:Nat}{L:List Int}{S:Int→c7}
theorem aY.lt (F:aY β L n S):β<n:=by have h:=F.get 0;have:=(List.getElem?_eq_some_iff.1 h).1;rw[F.len]at this;exact this
theorem aY.Nj (F:aY β L n S)(I:Int)(l:c7):(S I++l)[β]?=some ⟨0,false,118,2,[.vec L.length (g7 L),.int .i64 I],0⟩:=by rw[List.getElem?_append_left (by rw[F.len];exact F.lt)];exact F.get I
theorem aY.Nl (F:aY β L n S)(I k:Int)(l:c7):(S I++l).set β ⟨0,false,118,2,[.vec L.length (g7 L),.int .i64 k],0⟩=S k++l:=by rw[List.set_append_left _ _ (by rw[F.len];exact F.lt),F.set]
theorem aY.Nm (F:aY β L n S)(I:Int)(l:c7)(k:Nat):(S I++l)[n+k]?=l[k]?:=by rw[List.getElem?_append_right (by rw[F.len];omega),F.len,Nat.add_sub_cancel_left]
theorem aY.No (F:aY β L n S)(I:Int)(l:c7):(S I++l)[n]?=l[0]?:=by rw[List.getElem?_append_right (by rw[F.len];omega),F.len,Nat.sub_self]
theorem aY.dT (F:aY β L n S)(I:Int)(l:c7)(k:Nat)(b:Blk):(S I++l).set (n+k) b=S I++l.set k b:=by rw[List.set_append_right _ _ (by rw[F.len];omega),F.len,Nat.add_sub_cancel_left]
theorem aY.put0 (F:aY β L n S)(I:Int)(l:c7)(b:Blk):(S I++l).set n b=S I++l.set 0 b:=by rw[List.set_append_right _ _ (by rw[F.len];omega),F.len,Nat.sub_self]
theorem aY.app (F:aY β L n S)(l:c7):aY β L (n+l.length) fun I=>S I++l:=
  ⟨fun I=>F.Nj I l,fun I k=>F.Nl I k l,fun I=>by simp only[List.length_append,F.len]⟩
theorem aY.lF (F:aY β L n S)(I J:Int):aE (S I) (S J):=by
  intro γ b hb;by_cases h:γ=β
  · subst h
    rw[F.get]at hb;cases hb;refine .inr fun x hx=>?_;simp only[List.mem_cons,List.not_mem_nil,or_false]at hx;rcases hx with rfl | rfl
    · exact .vec _ _
    · exact .int _ _
  · rw[←F.set I J,List.getElem?_set_ne (Ne.symm h)]at hb
    exact .inl hb
end
theorem xX {l:List Int}{i:Nat}(h:i<l.length):List.take 1 (List.drop i (g7 l))=[AV.int .i64 (l.getD i 0)]:=by unfold g7;rw[←List.map_drop,←List.map_take,List.drop_eq_getElem_cons h,List.take_succ_cons,List.take_zero];simp[List.getD,h]
def aD (l:List BA):List AV:=l.map AV.str
theorem aI (l:List BA):(aD l).length=l.length:=List.length_map _
theorem sO {l:List BA}{i:Nat}(h:i<l.length):List.take 1 (List.drop i (aD l))=[AV.str (l.getD i ByteArray.empty)]:=by unfold aD;rw[←List.map_drop,←List.map_take,List.drop_eq_getElem_cons h,List.take_succ_cons,List.take_zero];simp[List.getD,h]
theorem fF:((maxLen:Nat):Int)=9223372036854775807:=rfl
theorem L4 {α:Type}{l:List α}:(List.replicate 1 l).flatten=l:=by simp
theorem S8 {α:Type}{l:List α}:(List.replicate 2 l).flatten=l++l:=by simp[List.replicate_succ]
theorem AP {α:Type}{l:List α}:(List.replicate 0 l).flatten=[]:=rfl
theorem AQ:(0≤maxLen)=True:=by simp
theorem A7:(1≤maxLen)=True:=by simp;decide
theorem max2:(2≤maxLen)=True:=by simp;decide
attribute [local go_sem] l7 aI Int.natCast_nonneg Int.natCast_inj List.length_map
variable {h:c7}
theorem AR (x n:Int)(hn:0<n)(hm:n≤4611686018427387904):CB 27 [.int .i64 x,.int .i64 n] h (.int .i64 (within x n)):=by refine CallA.body (Q:=fun y'=>y'=.int .i64 (within x n)) u6 fn27 rfl ?_;simp only[ntm27,List.length_cons,List.length_nil,Nat.reduceAdd,Nat.reduceSub,List.replicate,List.cons_append,List.nil_append];refine c9z ?_;refine o1.pre 1 t73 ?_;refine c8z ?_;refine c9z ?_;refine o1.pre 8 t73 ?_;refine c66z ?_;refine Ends.mk (by simp only[res27,xE,kK,mG];first | rfl | (simp +decide (maxSteps:=2000000) (disch:=omega) only [go_sem,Nat.reduceBEq,Nat.reduceAdd,Nat.reduceSub,Nat.reduceLeDiff,Nat.reduceMul,reduceIte,reduceCtorEq,Int.reduceNeg,Int.reduceToNat,Nat.reduceLT,Int.reduceLE,Int.reduceLT,Int.reduceAdd,Int.reduceSub,Int.reduceMul,wrap64 (lN hn hm).1 (lN hn hm).2,show n≠0 from by omega,show (n=0)=False from by simp;omega];rfl)) ?_;exact ⟨[],_,(List.append_nil _).symm,t41,by rfl⟩
section
attribute [local go_sem] uM eC
theorem c_cut (L:List Int)(n:Nat)(hL:L.length<9223372036854775807):CB 73 [.vec L.length (g7 L),.int .i64 (n:Int)] h (.vec (L.take n).length (g7 (L.take n))):=by
  refine .bz Tryz.f73 13 ?_;refine c89z ?_;refine u2z ?_ ?_
  ·intro e1 qe1;refine c27z ?_;exact ⟨[],_,(List.append_nil _).symm,t41,t148⟩
  intro e1 qe1;refine .sk ?_;refine c27z ?_;exact ⟨[],_,(List.append_nil _).symm,t41,t148⟩
end
def AS:cZ:=⟨[[],[0],[0,1],[0,1,2],[],[4],[4,5],[4,5,6],[4,5,6,7],[0,1,2,3,4,5,6,7,8]],[false,false,false,false,false,false,false,false,false,false]⟩
theorem IL (i:Nat):AS.isE i=[false,false,false,false,false,false,false,false,false,false].getD i false:=rfl
def AT:cZ:=⟨[[],[0],[0,1],[0,1,2],[],[4],[4,5],[4,5,6],[4,5,6,7],[0,1,2,3,4,5,6,7,8],[0,1,2,3,4,5,6,7,8,9],[],[0,1,2,3,4,5,6,7,8,9,10,11],[0,1,2,3,4,5,6,7,8,9,10,11,12]],[false,false,false,false,false,false,false,false,false,false,false,false,false,false]⟩
theorem L5 (i:Nat):AT.isE i=[false,false,false,false,false,false,false,false,false,false,false,false,false,false].getD i false:=rfl
variable {N:Nat}
theorem xY {β:Nat}{L:List Int}{S:Int→c7}(F:aY β L N S)(I n:Int)(hI:OkI L I)(hL:L.length<4611686018427387904)(hn:0<n)(hm:n≤4611686018427387904):CH 75 [.ptr β 0 0,.int .i64 n] (S I) (.int .i64 (c5 L I n).1) (S (c5 L I n).2):=by
  refine CallA.HF u6 fn75 rfl ?_;simp only[ntm75,List.length_cons,List.length_nil,Nat.reduceAdd,Nat.reduceSub,List.replicate,List.cons_append,List.nil_append];have hI0:=hI.1;have hI1:=hI.2;refine c9z ?_;refine o1.pre 1 t51 ?_;refine c139z ?_;refine c9.seq ?_;refine c9.PG u6 AS (by kernel_rfl) (by kernel_rfl) ?_;refine jH.pre 10 (by simp (maxSteps:=2000000) (disch:=omega) only [go_sem,Nat.reduceBEq,Nat.reduceAdd,Nat.reduceSub,Nat.reduceLeDiff,Nat.reduceMul,reduceIte,reduceCtorEq,Int.reduceNeg,Int.reduceToNat,Nat.reduceLT,Int.reduceLE,Int.reduceLT,Int.reduceAdd,Int.reduceSub,Int.reduceMul,F.get,F.set,F.len,wrap64,xX,Int.add_sub_cancel,if_pos,if_neg,IL];rfl) ?_;show _;change c9 _ _ _ _ _;refine c9.split 14 rfl (fun e1=>?_) (fun e1=>?_)
  · try simp only[e1]
    have qe1:=e1;try replace qe1:=s9z qe1
    refine c9.zH rfl ?_;refine c9z ?_;refine o1.pre 1 t51 ?_;refine c66z ?_;refine Ends.mk (by simp only[Ah,xE,kK,mG];first | rfl | (simp (maxSteps:=2000000) (disch:=omega) only [go_sem,Nat.reduceBEq,Nat.reduceAdd,Nat.reduceSub,Nat.reduceLeDiff,Nat.reduceMul,reduceIte,reduceCtorEq,Int.reduceNeg,Int.reduceToNat,Nat.reduceLT,Int.reduceLE,Int.reduceLT,Int.reduceAdd,Int.reduceSub,Int.reduceMul,F.get,F.set,F.len,wrap64,xX,Int.add_sub_cancel,if_pos,if_neg];rfl)) ?_;exact ⟨_,[],_,(List.append_nil _).symm,t40,F.lF _ _,by first | rfl | skip,t150⟩
  · try simp only[e1]
    have qe1:=e1;try replace qe1:=s9z qe1
    refine c195z ?_;refine o1.pre 8 t51 ?_;refine c139z ?_;refine c9.PG u6 AT (by kernel_rfl) (by kernel_rfl) ?_;refine jH.pre 12 t83 ?_;refine jH.call rfl rfl rfl hb27 (AR _ _ (by omega) (by omega)) ?_;refine jH.pre 1 t83 ?_;show _;change c9 _ _ _ _ _;refine c9.ret ?_;refine Ends.mk (by simp only[Ah,xE,kK,mG];first | rfl | (simp (maxSteps:=2000000) (disch:=omega) only [go_sem,Nat.reduceBEq,Nat.reduceAdd,Nat.reduceSub,Nat.reduceLeDiff,Nat.reduceMul,reduceIte,reduceCtorEq,Int.reduceNeg,Int.reduceToNat,Nat.reduceLT,Int.reduceLE,Int.reduceLT,Int.reduceAdd,Int.reduceSub,Int.reduceMul,F.get,F.set,F.len,wrap64,xX,Int.add_sub_cancel,if_pos,if_neg,L5];rfl)) ?_;exact ⟨_,[],_,(List.append_nil _).symm,t40,F.lF _ _,by first | rfl | skip,t150⟩
theorem mX {β:Nat}{L:List Int}{S:Int→c7}(F:aY β L N S)(l:c7)(I n:Int)(hI:OkI L I)(hL:L.length<4611686018427387904)(hn:0<n)(hm:n≤4611686018427387904):CH 75 [.ptr β 0 0,.int .i64 n] (S I++l) (.int .i64 (c5 L I n).1) (S (c5 L I n).2++l):=xY (F.app l) I n hI hL hn hm
theorem num_pos {L:List Int}{I:Int}(h:(c5 L I 8).1=1):AN L I=c5 L (c5 L I 8).2 4611686018427387904:=if_pos h
theorem num_neg {L:List Int}{I:Int}(h:¬(c5 L I 8).1=1):AN L I=c5 L (c5 L I 8).2 4:=if_neg h
theorem QW {β:Nat}{L:List Int}{S:Int→c7}(F:aY β L N S)(I:Int)(hI:OkI L I)(hL:L.length<4611686018427387904):CH 178 [.ptr β 0 0] (S I) (.int .i64 (AN L I).1) (S (AN L I).2):=by
  refine CallA.HF u6 fn178 rfl ?_;simp only[ntm178,List.length_cons,List.length_nil,Nat.reduceAdd,Nat.reduceSub,List.replicate,List.cons_append,List.nil_append];have h8:=n4 hI (n:=8) (by omega);refine c9z ?_;refine o1.pre 1 t20 ?_;refine c139z ?_;refine c9z ?_;refine o1.pre 1 t20 ?_;refine o1.s7 rfl rfl rfl rN (xY F I 8 hI hL (by omega) (by omega)) ?_;refine o1.pre 1 t20 ?_;refine c8z ?_;refine c9.split 5 rfl (fun e1=>?_) (fun e1=>?_)
  · try simp only[e1]
    have qe1:=e1;try replace qe1:=s9z qe1
    refine c9.zH rfl ?_;refine c9z ?_;refine o1.pre 1 t20 ?_;refine o1.s7 rfl rfl rfl rN (xY F _ _ h8.2.2 hL (by omega) (by omega)) ?_;refine o1.pre 1 t20 ?_;refine c66z ?_;refine Ends.mk t86 ?_;exact ⟨_,[],_,(List.append_nil _).symm,t40,F.lF _ _,by first | rfl | skip,t165⟩
  · try simp only[e1]
    have qe1:=e1;try replace qe1:=s9z qe1
    refine c195z ?_;refine o1.pre 1 t20 ?_;refine o1.s7 rfl rfl rfl rN (xY F _ _ h8.2.2 hL (by omega) (by omega)) ?_;refine o1.pre 1 t20 ?_;refine c66z ?_;refine Ends.mk t86 ?_;exact ⟨_,[],_,(List.append_nil _).symm,t40,F.lF _ _,by first | rfl | skip,t165⟩
theorem qG {β:Nat}{L:List Int}{S:Int→c7}(F:aY β L N S)(l:c7)(I:Int)(hI:OkI L I)(hL:L.length<4611686018427387904):CH 178 [.ptr β 0 0] (S I++l) (.int .i64 (AN L I).1) (S (AN L I).2++l):=QW (F.app l) I hI hL
variable {a:Ex}
theorem QX {l:List AV}:List.take 4 (u3 a++l)=u3 a:=List.take_left' (o6 a)
theorem QY {l:List AV}:List.drop 8 (u3 a++l)=List.drop 4 l:=by rw[List.drop_append,o6,List.drop_of_length_le (by rw[o6];omega)];rfl
theorem xZ {α γ:Type}{f:α→Option γ}{l l2:List α}{r r2:List γ}(h:n8 f l=some r)(h2:n8 f l2=some r2):n8 f (l++l2)=some (r++r2):=by
  induction l generalizing r with
  | nil=>cases h;exact h2
  | cons x l ih=>
    simp only[n8,List.cons_append]at h ⊢;cases hx:f x with
    | none=>simp only[hx]at h;cases h
    | some y=>
      simp only[hx]at h;cases hl:n8 f l with
      | none=>simp only[hl]at h;cases h
      | some ys=>
        simp only[hl,Option.some.injEq]at h;subst h;simp only[ih hl,List.cons_append]
theorem EJ {n d:Nat}(a:Ex):n8 (gV n h (d+1)) (u3 a)=some (u3 a):=by rw[bK];rfl
theorem IM {n d:Nat}(a b:Ex):n8 (gV n h (d+1)) (u3 a++u3 b)=some (u3 a++u3 b):=xZ (EJ a) (EJ b)
theorem gC:List.take 4 (u3 a)=u3 a:=List.take_of_length_le (by rw[o6];omega)
theorem IN {b:Ex}:List.take 8 (u3 a++u3 b)=u3 a++u3 b:=List.take_of_length_le (by simp[o6])
theorem S9 {b:Ex}:(u3 a++u3 b).length=8:=by simp[o6]
theorem c_expr0 {β:Nat}{L:List Int}{S:Int→c7}(F:aY β L N S)(I:Int)(hI:OkI L I)(hL:L.length<4611686018427387904)(names:List BA)(hN:names.length<1000):CH 158 [.ptr β 0 0,.vec names.length (aD names),.int .i64 0] (S I) (.agg (u3 (dM L names 0 I).1)) (S (dM L names 0 I).2):=by
  refine CallA.HF u6 fn158 rfl ?_;simp only[VZ,List.length_cons,List.length_nil,Nat.reduceAdd,Nat.reduceSub,List.replicate,List.cons_append,List.nil_append];have h10:=n4 hI (n:=10) (by omega);have h2:=n4 h10.2.2 (n:=2) (by omega);refine c9z ?_;refine o1.pre 1 t4 ?_;refine c8z ?_;refine c9z ?_;refine o1.pre 1 t4 ?_;refine o1.s7 rfl rfl rfl rN (mX F _ I 10 hI hL (by omega) (by omega)) ?_;refine o1.pre 1 t4 ?_;refine c139z ?_;refine c9.block ?_;refine c9z ?_;refine o1.pre 3 t4 ?_;refine o1.split 13 rfl (fun e1=>?_) (fun e1=>?_)
  · try simp only[e1]
    have qe1:=e1;try replace qe1:=s9z qe1
    refine o1.pre 4 t4 ?_;refine c8z ?_;refine c236z ?_;refine c9z ?_;refine o1.pre 4 t4 ?_;refine o1.split 20 rfl (fun e2=>?_) (fun e2=>?_)
    · try simp only[e2]
      have qe2:=e2;try replace qe2:=s9z qe2
      refine o1.pre 1 t4 ?_;refine o1.s7 rfl rfl rfl rN (mX F _ _ 2 h10.2.2 hL (by omega) (by omega)) ?_;refine o1.pre 2 t4 ?_;refine c8z ?_;refine c9.split 24 rfl (fun e3=>?_) (fun e3=>?_)
      · try simp only[e3]
        have qe3:=e3;try replace qe3:=s9z qe3
        refine c236z ?_;have hn:=n4 h2.2.2 (n:=(names.length:Int)) (by omega);refine c9.region u6 ?_;refine o1.pre 4 t4 ?_;refine o1.s7 rfl rfl rfl rN (mX F _ _ _ h2.2.2 hL (by omega) (by omega)) ?_;refine o1.pre 4 t4 ?_;refine c66z ?_;refine Ends.mk t37 ?_;exact ⟨S _,_,_,rfl,t40,F.lF _ _,t9,t61⟩
      · try simp only[e3]
        have qe3:=e3;try replace qe3:=s9z qe3
        refine c195z ?_;refine o1.pre 1 t4 ?_;refine o1.s7 rfl rfl rfl QG (qG F _ _ t163 hL) ?_;refine o1.pre 2 t4 ?_;refine c66z ?_;refine Ends.mk t37 ?_;exact ⟨S _,_,_,rfl,t40,F.lF _ _,t9,t61⟩
    · try simp only[e2]
      have qe2:=e2;try replace qe2:=s9z qe2
      refine o1.pre 4 t4 ?_;refine c8z ?_;refine c195z ?_;refine o1.pre 1 t4 ?_;refine o1.s7 rfl rfl rfl QG (qG F _ _ t163 hL) ?_;refine o1.pre 2 t4 ?_;refine c66z ?_;refine Ends.mk t37 ?_;exact ⟨S _,_,_,rfl,t40,F.lF _ _,t9,t61⟩
  · exfalso;first | cases e1 | (simp at e1)
theorem c_exprS {β:Nat}{L:List Int}{S:Int→c7}(F:aY β L N S)(I:Int)(hI:OkI L I)(hL:L.length<4611686018427387904)(names:List BA)(hN:names.length<1000)(d:Nat)(hd:d<1000)(ih:∀{N:Nat} {S:Int→c7} (F:aY β L N S) (I:Int),OkI L I→CH 158 [.ptr β 0 0,.vec names.length (aD names),.int .i64 (d:Int)] (S I) (.agg (u3 (dM L names d I).1)) (S (dM L names d I).2)):CH 158 [.ptr β 0 0,.vec names.length (aD names),.int .i64 ((d+1:Nat):Int)] (S I) (.agg (u3 (dM L names (d+1) I).1)) (S (dM L names (d+1) I).2):=by
  refine CallA.HF u6 fn158 rfl ?_;simp only[VZ,List.length_cons,List.length_nil,Nat.reduceAdd,Nat.reduceSub,List.replicate,List.cons_append,List.nil_append];have h10:=n4 hI (n:=10) (by omega);have h2:=n4 h10.2.2 (n:=2) (by omega);have h13:=n4 h10.2.2 (n:=13) (by omega);have ht:0≤(c5 L I 10).1.tmod 2∧(c5 L I 10).1.tmod 2<2:=⟨Int.tmod_nonneg _ h10.1,Int.tmod_lt_of_pos _ (by omega)⟩;refine c9z ?_;refine o1.pre 1 t0 ?_;refine c8z ?_;refine c9z ?_;refine o1.pre 1 t0 ?_;refine o1.s7 rfl rfl rfl rN (mX F _ I 10 hI hL (by omega) (by omega)) ?_;refine o1.pre 1 t0 ?_;refine c139z ?_;refine c9.block ?_;refine c9z ?_;refine o1.pre 3 t0 ?_;refine o1.split 13 rfl (fun e1=>?_) (fun e1=>?_)
  · exfalso;first | (simp only[beq_iff_eq]at e1;omega) | (simp at e1)
  · try simp only[e1]
    have qe1:=e1;try replace qe1:=s9z qe1
    refine o1.pre 4 t0 ?_;refine c8z ?_;refine c9.split 10 rfl (fun e2=>?_) (fun e2=>?_)
    · try simp only[e2]
      have qe2:=e2;try replace qe2:=s9z qe2
      refine c236z ?_;refine c9z ?_;refine o1.pre 4 t0 ?_;refine o1.split 20 rfl (fun e3=>?_) (fun e3=>?_)
      · try simp only[e3]
        have qe3:=e3;try replace qe3:=s9z qe3
        refine o1.pre 1 t0 ?_;refine o1.s7 rfl rfl rfl rN (mX F _ _ 2 h10.2.2 hL (by omega) (by omega)) ?_;refine o1.pre 2 t0 ?_;refine c8z ?_;refine c9.split 24 rfl (fun e4=>?_) (fun e4=>?_)
        · try simp only[e4]
          have qe4:=e4;try replace qe4:=s9z qe4
          refine c236z ?_;have hn:=n4 h2.2.2 (n:=(names.length:Int)) (by omega);refine c9.region u6 ?_;refine o1.pre 4 t0 ?_;refine o1.s7 rfl rfl rfl rN (mX F _ _ _ h2.2.2 hL (by omega) (by omega)) ?_;refine o1.pre 4 t0 ?_;refine c231z ?_;exact ⟨S _,_,_,rfl,t40,F.lF _ _,t9,t19⟩
        · try simp only[e4]
          have qe4:=e4;try replace qe4:=s9z qe4
          refine c195z ?_;refine o1.pre 1 t0 ?_;refine o1.s7 rfl rfl rfl QG (qG F _ _ t163 hL) ?_;refine o1.pre 2 t0 ?_;refine c231z ?_;exact ⟨S _,_,_,rfl,t40,F.lF _ _,t9,t19⟩
      · try simp only[e3]
        have qe3:=e3;try replace qe3:=s9z qe3
        refine o1.pre 4 t0 ?_;refine c8z ?_;refine c195z ?_;refine o1.pre 1 t0 ?_;refine o1.s7 rfl rfl rfl QG (qG F _ _ t163 hL) ?_;refine o1.pre 2 t0 ?_;refine c231z ?_;exact ⟨S _,_,_,rfl,t40,F.lF _ _,t9,t19⟩
    · try simp only[e2]
      have qe2:=e2;try replace qe2:=s9z qe2
      refine c9.DO rfl ?_;refine c9z ?_;refine o1.pre 3 t0 ?_;refine c8z ?_;refine c9.split 36 rfl (fun e5=>?_) (fun e5=>?_)
      · try simp only[e5]
        have qe5:=e5;try replace qe5:=s9z qe5
        refine c9.zH rfl ?_;refine c9z ?_;refine o1.pre 7 t0 ?_;refine o1.s7 rfl rfl rfl QF (ih (F.app _) _ h10.2.2) ?_;refine o1.pre 3 t0 ?_;refine c231z ?_;exact ⟨S _,_,_,rfl,t40,F.lF _ _,t9,t19⟩
      · try simp only[e5]
        have qe5:=e5;try replace qe5:=s9z qe5
        refine c195z ?_;refine o1.pre 1 t0 ?_;refine o1.s7 rfl rfl rfl rN (mX F _ _ 13 h10.2.2 hL (by omega) (by omega)) ?_;refine o1.pre 5 t0 ?_;refine o1.s7 rfl rfl rfl QF (ih (F.app _) _ h13.2.2) ?_;refine o1.pre 4 t0 ?_;refine o1.s7 rfl rfl rfl QF (ih (F.app _) _ (oW h13.2.2).2) ?_;refine o1.pre 3 t0 ?_;refine c231z ?_;exact ⟨S _,_,_,rfl,t40,F.lF _ _,t9,t19⟩
theorem WN {β:Nat}{L:List Int}(hL:L.length<4611686018427387904)(names:List BA)(hN:names.length<1000):∀(d:Nat),d<1000→∀{N:Nat} {S:Int→c7} (F:aY β L N S) (I:Int),OkI L I→CH 158 [.ptr β 0 0,.vec names.length (aD names),.int .i64 (d:Int)] (S I) (.agg (u3 (dM L names d I).1)) (S (dM L names d I).2)
  | 0,_,_,_,F,I,hI=>c_expr0 F I hI hL names hN
  | d+1,hd,_,_,F,I,hI=>c_exprS F I hI hL names hN d (by omega) fun F I hI=>WN hL names hN d (by omega) F I hI
end Go.Proofs.YtonbocmibeikmaaGreat
end
section
namespace Go.Un
open Go.Ab
variable {c:UInt8}
theorem QZ (h:isL c=true):isW c=true:=by simp[isW,h]
theorem isW_D (h:isD c=true):isW c=true:=by simp[isW,h]
theorem T3 (h:xB c=true):isW c=false:=by simp only[xB,Bool.or_eq_true,beq_iff_eq]at h;simp only[isW,isL,isD,Bool.or_eq_false_iff,Bool.and_eq_false_iff,decide_eq_false_iff_not];omega
theorem WO (h:isL c=true):isD c=false:=by simp only[isL,Bool.or_eq_true,Bool.and_eq_true,decide_eq_true_eq]at h;simp only[isD,Bool.and_eq_false_iff,decide_eq_false_iff_not];omega
theorem vS (h:c∈QI):xB c=false∧isL c=false∧isD c=false:=by simp only[QI,List.mem_cons,List.not_mem_nil,or_false]at h;rcases h with rfl | rfl | rfl | rfl | rfl | rfl | rfl | rfl | rfl | rfl | rfl | rfl | rfl | rfl | rfl | rfl | rfl<;>decide
theorem vT {d:UInt8}(h:(c,d)∈EC):xB c=false∧isL c=false∧isD c=false:=by simp only[EC,List.mem_cons,List.not_mem_nil,or_false,Prod.mk.injEq]at h;rcases h with ⟨rfl,_⟩ | ⟨rfl,_⟩ | ⟨rfl,_⟩ | ⟨rfl,_⟩ | ⟨rfl,_⟩ | ⟨rfl,_⟩<;>decide
variable {s:Bs}{n:Nat}
theorem LX.sp_inv (h:LX (c::s) n)(hc:xB c=true):LX s n:=by
 have hw:=T3 hc;generalize e:c::s=t at h;cases h with
 | nil=>cases e
 | space _ h=>cases e;exact h
 | word hc' _ _ _ _=>cases e;rw[QZ hc']at hw;cases hw
 | num hc' _ _ _ _=>cases e;rw[isW_D hc']at hw;cases hw
 | one hc' _ _=>cases e;rw[(vS hc').1]at hc;cases hc
 | two hc' _=>cases e;rw[(vT hc').1]at hc;cases hc
theorem LX.RA (h:LX (c::s) n)(hc:isL c=true):∃w r m,s=w++r∧(∀d∈w,isW d=true)∧w.length<16∧NW r∧n=m+1∧LX r m:=by
 generalize e:c::s=t at h;cases h with
 | nil=>cases e
 | space hc' h=>cases e;have:=T3 hc';rw[QZ hc]at this;cases this
 | word hc' h1 h2 h3 h4=>cases e;exact ⟨_,_,_,rfl,h1,h2,h3,rfl,h4⟩
 | num hc' _ _ _ _=>cases e;rw[WO hc]at hc';cases hc'
 | one hc' _ _=>cases e;rw[(vS hc').2.1]at hc;cases hc
 | two hc' _=>cases e;rw[(vT hc').2.1]at hc;cases hc
theorem LX.num_inv (h:LX (c::s) n)(hc:isD c=true):∃w r m,s=w++r∧(∀d∈w,isD d=true)∧xC (c::w)<9223372036854775808∧NW r∧n=m+1∧LX r m:=by
 generalize e:c::s=t at h;cases h with
 | nil=>cases e
 | space hc' h=>cases e;have:=T3 hc';rw[isW_D hc]at this;cases this
 | word hc' h1 h2 h3 h4=>cases e;rw[WO hc']at hc;cases hc
 | num hc' h1 h2 h3 h4=>cases e;exact ⟨_,_,_,rfl,h1,h2,h3,rfl,h4⟩
 | one hc' _ _=>cases e;rw[(vS hc').2.2]at hc;cases hc
 | two hc' _=>cases e;rw[(vT hc').2.2]at hc;cases hc
theorem LX.L6 (h:LX (c::s) n)(h1:xB c=false)(h2:isL c=false)(h3:isD c=false):(∃d r m,s=d::r∧(c,d)∈EC∧n=m+1∧LX r m)∨(∃m,c∈QI∧(∀d,s.head?=some d→(c,d)∉EC∧(c,d)≠(47,47))∧n=m+1∧LX s m):=by
 generalize e:c::s=t at h;cases h with
 | nil=>cases e
 | space hc' h=>cases e;rw[h1]at hc';cases hc'
 | word hc' _ _ _ _=>cases e;rw[h2]at hc';cases hc'
 | num hc' _ _ _ _=>cases e;rw[h3]at hc';cases hc'
 | one hc' h5 h6=>cases e;exact .inr ⟨_,hc',h5,rfl,h6⟩
 | two hc' h6=>cases e;exact .inl ⟨_,_,_,rfl,hc',rfl,h6⟩
def bat (L:Bs)(i:Nat):UInt8:=L.getD i 0
variable {L:Bs}{i:Nat}
theorem bW (h:i<L.length):L.drop i=bat L i::L.drop (i+1):=by rw[List.drop_eq_getElem_cons h];simp[bat,List.getD,h]
variable {k:Nat}
theorem RC {u v:Bs}(h:L.drop i=u++v)(hk:k<u.length):bat L (i+k)=u.getD k 0:=by
 have:(L.drop i).getD k 0=bat L (i+k):=by simp[bat,List.getD]
 rw[←this,h];simp[List.getD,List.getElem?_append_left hk]
theorem A8 {u v:Bs}(h:L.drop i=u++v):L.drop (i+u.length)=v:=by rw[←List.drop_drop,h,List.drop_left]
theorem LX.EK (h:LX (L.drop i) n)(hi:i+1<L.length)(h1:(bat L i).toNat=47)(h2:(bat L (i+1)).toNat=47):False:=by
 have e1:bat L i=47:=UInt8.toNat_inj.1 h1;have e2:bat L (i+1)=47:=UInt8.toNat_inj.1 h2;rw[bW (by omega),e1]at h;rcases h.L6 (by decide) (by decide) (by decide) with ⟨d,r,m,e,hm,_⟩ | ⟨m,_,h5,_⟩
 ·rw[bW hi,e2]at e;cases e;exact absurd hm (by decide)
 ·exact (h5 47 (by rw[bW hi,e2];rfl)).2 rfl
theorem LX.IP (h:LX (L.drop i) n)(hi:i<L.length)(hc:xB (bat L i)=true):LX (L.drop (i+1)) n:=by rw[bW hi]at h;exact h.sp_inv hc
structure Span (L:Bs)(p:UInt8→Bool)(i e:Nat):Prop where
 lt:i<e
 le:e≤L.length
 all:∀j,i≤j→j<e→p (bat L j)=true
 stop:e<L.length→p (bat L e)=false
theorem Span.of {p:UInt8→Bool}{w r:Bs}(hd:L.drop i=c::w++r)(hc:p c=true)(hw:∀d∈w,p d=true)(hr:∀d,r.head?=some d→p d=false):Span L p i (i+(w.length+1)):=by
 have hl:(L.drop i).length=w.length+1+r.length:=by rw[hd];simp;omega
 rw[List.length_drop]at hl;have hrr:L.drop (i+(w.length+1))=r:=by have:=A8 (u:=c::w) (v:=r) (by rw[hd]);simpa using this
 refine ⟨by omega,by omega,fun j h1 h2=>?_,fun h=>?_⟩
 ·obtain ⟨k,rfl⟩:∃k,j=i+k:=⟨j-i,by omega⟩;rw[RC (u:=c::w) (v:=r) hd t64];cases k with
  | zero=>exact hc
  | succ k=>
   have hk:k<w.length:=by omega
   have:(c::w).getD (k+1) 0=w[k]:=by simp[List.getD,hk]
   rw[this];exact hw _ (List.getElem_mem hk)
 ·refine hr _ ?_;rw[←hrr,bW h];rfl
theorem LX.IQ (h:LX (L.drop i) n)(hi:i<L.length)(hc:isL (bat L i)=true):∃e m,Span L isW i e∧e≤i+16∧n=m+1∧LX (L.drop e) m:=by
 rw[bW hi]at h;obtain ⟨w,r,m,e,h1,h2,h3,rfl,h4⟩:=h.RA hc;have hd:L.drop i=bat L i::w++r:=by rw[bW hi,e];rfl
 refine ⟨_,m,Span.of hd (QZ hc) h1 h3,by omega,rfl,?_⟩;have:=A8 (u:=bat L i::w) (v:=r) (by rw[hd]);rw[List.length_cons]at this;rw[this];exact h4
theorem LX.RD (h:LX (L.drop i) n)(hi:i<L.length)(hc:isD (bat L i)=true):∃e m,Span L isD i e∧xC ((L.drop i).take (e-i))<9223372036854775808∧n=m+1∧LX (L.drop e) m:=by
 rw[bW hi]at h;obtain ⟨w,r,m,e,h1,h2,h3,rfl,h4⟩:=h.num_inv hc;have hd:L.drop i=bat L i::w++r:=by rw[bW hi,e];rfl
 refine ⟨_,m,Span.of hd hc h1 fun d hd=>?_,?_,rfl,?_⟩
 ·have:=h3 d hd;simp only[isW,Bool.or_eq_false_iff]at this;exact this.2
 ·rw[show i+(w.length+1)-i=(bat L i::w).length from by simp,hd,List.take_left];exact h2
 ·have:=A8 (u:=bat L i::w) (v:=r) (by rw[hd]);rw[List.length_cons]at this;rw[this];exact h4
def sgn (L:Bs)(i:Nat):Nat:=if i+1<L.length∧(bat L i,bat L (i+1))∈EC then 2 else if bat L i∈QI then 1 else 0
theorem LX.IS (h:LX (L.drop i) n)(hi:i<L.length)(h1:xB (bat L i)=false)(h2:isL (bat L i)=false)(h3:isD (bat L i)=false):0<sgn L i∧i+sgn L i≤L.length∧∃m,n=m+1∧LX (L.drop (i+sgn L i)) m:=by
 rw[bW hi]at h;rcases h.L6 h1 h2 h3 with ⟨d,r,m,e,hm,rfl,h4⟩ | ⟨m,hm,h5,rfl,h4⟩
 ·have hl:(L.drop (i+1)).length=r.length+1:=by rw[e];rfl
  rw[List.length_drop]at hl;have hd:bat L (i+1)=d:=by rw[bW (by omega)]at e;injection e
  have hr:L.drop (i+2)=r:=by rw[bW (by omega)]at e;injection e
  rw[sgn,if_pos ⟨by omega,by rw[hd];exact hm⟩];exact ⟨by omega,by omega,m,rfl,by rw[hr];exact h4⟩
 ·rw[sgn,if_neg (fun hx=>(h5 (bat L (i+1)) (by rw[bW hx.1];rfl)).1 hx.2),if_pos hm];exact ⟨by omega,by omega,m,rfl,h4⟩
variable {l:Bs}
theorem L7 (h:k<l.length):xC (l.take (k+1))=10*xC (l.take k)+((bat l k).toNat-48):=by rw[List.take_succ_eq_append_getElem h,K5];simp[bat,List.getD,h]
theorem IT:∀{k m:Nat},k≤m→xC (l.take k)≤xC (l.take m):=by
 intro k m hm;induction hm with
 | refl=>exact Nat.le_refl _
 | @step m _ ih=>
  by_cases h:m<l.length
  ·rw[L7 h];omega
  ·rw[List.take_of_length_le (i:=m+1) (by omega)];rw[List.take_of_length_le (i:=m) (by omega)]at ih;exact ih
def tZ (l:Bs):List AV:=l.map fun c=>.int .u8 (c.toNat:Int)
theorem nM (l:Bs):(tZ l).length=l.length:=List.length_map _
theorem read_b (h:i<l.length):List.take 1 (List.drop i (tZ l))=[AV.int .u8 ((bat l i).toNat:Int)]:=by unfold tZ;rw[←List.map_drop,←List.map_take,List.drop_eq_getElem_cons h,List.take_succ_cons,List.take_zero];simp[bat,List.getD,h]
theorem WQ:List.take k (List.drop i (tZ l))=tZ ((l.drop i).take k):=by unfold tZ;rw[List.map_take,List.map_drop]
theorem T4:∀l:Bs,jJ (tZ l)=some l
 | []=>rfl
 | c::l=>by show (jJ (tZ l)).map _=_;rw[T4 l];simp
end Go.Un
end
section
namespace Go.Proofs.YtonbocmibeikmaaGreat
open Go.Ab Go.Un
theorem EL {n:Int}(h1:0≤n)(h2:n<256):IntKind.wrap .u8 n=n:=by rw[IntKind.wrap_u8];omega
theorem L9 {f:FuncId}{args:List AV}{s:AV}(ha:args.all (w5 0 9)=true)(r:CallA Tryz.prog cfg f args [] fun y _=>Aa y=s)(h:c7):CallA Tryz.prog cfg f args h fun y h'=>y=s∧h'=h:=by intro B φ w cargs i hs hr;have hst:∀k,k<w.heap.size→X3 [] φ w k:=fun k hk=>⟨hk,fun β b hb=>by simp at hb⟩;have i0:Pic cfg.eA w.heap.size [] φ w:=⟨fun β b hb=>by simp at hb,fun β β' b b' hb=>by simp at hb,fun β b hb=>by simp at hb,fun β b hb=>by simp at hb,Nat.le_refl _,fun g=>(i.eA g).mono fun k j hk=>⟨rfl,(hst k hk.1).X4 j⟩⟩;refine (r w.heap.size φ w cargs i0 hs (fun j v x h1 h2=>HB (hr j v x h1 h2) (dA 9 x (List.all_eq_true.1 ha x (List.mem_of_getElem? h2))))).mono fun e w' hp=>?_;obtain ⟨v,y,h',φ',rfl,h1,h2,h3,hq⟩:=hp;have hk:∀k,k<w.heap.size→w'.heap[k]?=w.heap[k]?:=fun k hk=>(h2.lF k (hst k hk)).1;have ev:Ev h φ w h φ w':=⟨h2.os,h2.tape,h2.output,h2.size,fun k hs=>⟨hk k hs.1,Nat.lt_of_lt_of_le hs.1 h2.size,hs.2⟩,fun k j hs=>⟨World.cell?_of_block (hk k hs.1),Nat.lt_of_lt_of_le hs.1 h2.size,hs.2⟩,Nat.le_refl _,fun β b b' e1 e2=>by rw[e1]at e2;cases e2;exact ⟨Nat.le_refl _,fun _=>⟨rfl,rfl,rfl⟩⟩⟩;refine ⟨v,_,h,φ,rfl,⟨fun β b hb hv=>?_,i.inj,i.base,i.bX,Nat.le_trans i.room h2.size,fun g=>ev.Q3 (i.eA g)⟩,ev,zP h3,hq,rfl⟩;obtain ⟨cur,q1,q2,q3,q4⟩:=i.blk β b hb hv;exact ⟨cur,(hk _ (Array.getElem?_eq_some_iff.1 q1).1).trans q1,q2,q3,fun j v x a d=>⟨(q4 j v x a d).1,ev.rel (q4 j v x a d).2⟩⟩
def hasB (l:List BA)(s:BA):Bool:=l.any fun x=>x.toList==s.toList
variable {l:List BA}{s:BA}{i:Nat}
theorem has_t (hi:i<l.length)(h:((l.getD i ByteArray.empty).toList==s.toList)=true):hasB l s=true:=List.any_eq_true.2 ⟨_,g8 hi,h⟩
theorem has_f (hi:l.length≤i)(h:∀d,d<i→((l.getD d ByteArray.empty).toList==s.toList)=false):hasB l s=false:=by refine List.any_eq_false.2 fun x hx=>?_;obtain ⟨d,h1,rfl⟩:=bV (d:=ByteArray.empty) hx;rw[h d (by omega)];decide
theorem RE (h:∀d,d<i→((l.getD d ByteArray.empty).toList==s.toList)=false)(e:((l.getD i ByteArray.empty).toList==s.toList)=false):∀d,d<i+1→((l.getD d ByteArray.empty).toList==s.toList)=false:=fun d hd=>by
  by_cases hdi:d=i
  · rw[hdi];exact e
  · exact h d (by omega)
def WR:List BA:=[⟨#[118,97,114]⟩,⟨#[109,117,116,101,120]⟩,⟨#[114,109,117,116,101,120]⟩,⟨#[102,117,110,99]⟩,⟨#[108,111,99,107]⟩,⟨#[117,110,108,111,99,107]⟩,⟨#[103,111]⟩,⟨#[105,102]⟩,⟨#[101,108,115,101]⟩,⟨#[119,104,105,108,101]⟩,⟨#[114,101,116,117,114,110]⟩]
def twoN:List BA:=[⟨#[60,61]⟩,⟨#[62,61]⟩,⟨#[61,61]⟩,⟨#[33,61]⟩,⟨#[38,38]⟩,⟨#[124,124]⟩]
def Nu:List BA:=[⟨#[40]⟩,⟨#[41]⟩,⟨#[123]⟩,⟨#[125]⟩,⟨#[91]⟩,⟨#[93]⟩,⟨#[44]⟩,⟨#[59]⟩,⟨#[61]⟩,⟨#[43]⟩,⟨#[45]⟩,⟨#[42]⟩,⟨#[47]⟩,⟨#[37]⟩,⟨#[60]⟩,⟨#[62]⟩,⟨#[33]⟩]
def uA (s:BA):Bool:=hasB WR s
variable {a:UInt8}
theorem eq2 {x y b:UInt8}:((⟨#[x,y]⟩:BA).toList==(⟨[a,b].toArray⟩:BA).toList)=(decide (a=x)&&decide (b=y)):=by rw[ByteArray.toList_eq,ByteArray.toList_eq];show ([x,y]==[a,b])=_;rw[Bool.eq_iff_iff];simp only[beq_iff_eq,List.cons.injEq,and_true,Bool.and_eq_true,decide_eq_true_eq];exact and_congr eq_comm eq_comm
theorem eq1 {x:UInt8}:((⟨#[x]⟩:BA).toList==(⟨[a].toArray⟩:BA).toList)=decide (a=x):=by rw[ByteArray.toList_eq,ByteArray.toList_eq];show ([x]==[a])=_;rw[Bool.eq_iff_iff];simp only[beq_iff_eq,List.cons.injEq,and_true,decide_eq_true_eq];exact eq_comm
theorem lO {b:UInt8}:hasB twoN ⟨[a,b].toArray⟩=decide ((a,b)∈EC):=by simp only[hasB,twoN,EC,List.any_cons,List.any_nil,eq2,Bool.or_false,List.mem_cons,List.not_mem_nil,or_false,Prod.mk.injEq,Bool.decide_or,Bool.decide_and]
theorem lP:hasB Nu ⟨[a].toArray⟩=decide (a∈QI):=by simp only[hasB,Nu,QI,List.any_cons,List.any_nil,eq1,Bool.or_false,List.mem_cons,List.not_mem_nil,or_false,Bool.decide_or]
variable {L:Bs}
theorem Y1 (h:i+1<L.length):(L.drop i).take 2=[bat L i,bat L (i+1)]:=by rw[bW (by omega),bW h];rfl
theorem take_one (h:i<L.length):(L.drop i).take 1=[bat L i]:=by rw[bW h];rfl
theorem str_at (h:i<s.size):s[i]?=some (bat (L8 s) i):=by
  rw[lK]at h;have:s[i]?=s.data.toList[i]?:=by rw[Array.getElem?_toList];rfl
  rw[this];have h2:i<s.data.toList.length:=h;rw[List.getElem?_eq_getElem h2];simp only[bat,L8,List.getD,List.getElem?_eq_getElem h2,Option.getD_some]
theorem name_at (h:isName (L8 s))(hi:i<s.size):isW (bat (L8 s) i)=true∧(i=0→isL (bat (L8 s) i)=true):=by
  obtain ⟨c,w,e,h1,h2,h3⟩:=h;rw[lK,e]at hi;rw[e];cases i with
  | zero=>exact ⟨QZ h1,fun _=>h1⟩
  | succ i=>
    have hi':i<w.length:=by simpa using hi
    refine ⟨?_,fun h=>by omega⟩;have:bat (c::w) (i+1)=w[i]:=by simp[bat,List.getD,hi']
    rw[this];exact h2 _ (List.getElem_mem hi')
theorem eS (h:isName (L8 s)):1≤s.size∧s.size≤16:=by refine ⟨?_,z1 h⟩;obtain ⟨c,w,e,_⟩:=h;rw[lK,e];simp
def skF (L:Bs):Nat→Nat→Nat
  | 0,i=>i
  | f+1,i=>if i<L.length∧xB (bat L i)=true then skF L f (i+1) else i
def sk (L:Bs)(i:Nat):Nat:=skF L (L.length-i) i
theorem vU (h:i<L.length)(hs:xB (bat L i)=true):sk L i=sk L (i+1):=by unfold sk;obtain ⟨f,hf⟩:∃f,L.length-i=f+1:=⟨L.length-i-1,by omega⟩;rw[hf,skF,if_pos ⟨h,hs⟩,show L.length-(i+1)=f from by omega]
theorem IU (h:¬(i<L.length∧xB (bat L i)=true)):sk L i=i:=by
  unfold sk;cases hf:L.length-i with
  | zero=>rfl
  | succ f=>rw[skF,if_neg h]
theorem WS (h:L.length≤i):sk L i=i:=IU fun h'=>by omega
theorem IV (h:xB (bat L i)=false):sk L i=i:=IU fun h'=>by rw[h]at h';cases h'.2
theorem A9 {L:Bs}:∀{f i n:Nat},L.length-i=f→LX (L.drop i) n→i≤L.length→i≤sk L i∧sk L i≤L.length∧LX (L.drop (sk L i)) n∧(sk L i<L.length→xB (bat L (sk L i))=false)
  | 0,i,n,hf,h,hi=>by rw[WS (by omega)];exact ⟨Nat.le_refl _,hi,h,fun h=>by omega⟩
  | f+1,i,n,hf,h,hi=>by
    by_cases hs:xB (bat L i)=true
    · rw[vU (by omega) hs]
      obtain ⟨a,b,c,d⟩:=A9 (f:=f) (i:=i+1) (by omega) (h.IP (by omega) hs) (by omega);exact ⟨by omega,b,c,d⟩
    · rw[IV (by simpa using hs)]
      exact ⟨Nat.le_refl _,hi,h,fun _=>by simpa using hs⟩
variable {c:UInt8}
theorem M0 (h:(c.toNat:Int)=32∨(c.toNat:Int)=9∨(c.toNat:Int)=10∨(c.toNat:Int)=13):xB c=true:=by simp only[xB,Bool.or_eq_true,beq_iff_eq];omega
theorem nosp_of (h1:¬(c.toNat:Int)=32)(h2:¬(c.toNat:Int)=9)(h3:¬(c.toNat:Int)=10)(h4:¬(c.toNat:Int)=13):xB c=false:=by simp only[xB,Bool.or_eq_false_iff,beq_eq_false_iff_ne,ne_eq];omega
variable {e:Nat}
theorem T5 {p:UInt8→Bool}{j:Nat}(h:Span L p i e)(h2:j≤e)(hj:j<L.length)(hp:p (bat L j)=true):j<e:=by
  by_cases he:j=e
  · subst he
    rw[h.stop hj]at hp;cases hp
  · omega
theorem uB {p:UInt8→Bool}{j:Nat}(h:Span L p i e)(h1:i≤j)(h2:j≤e)(hp:j<L.length→p (bat L j)=false):j=e:=by
  by_cases he:j<e
  · have:=h.le
    rw[h.all j h1 he]at hp;cases hp (by omega)
  · omega
theorem valD_nn {l:Bs}(h:i<l.length)(hd:∀d∈l,isD d=true):48≤(bat l i).toNat∧(bat l i).toNat≤57:=by have:=hd (bat l i) (g8 h);simpa only[isD,Bool.and_eq_true,decide_eq_true_eq] using this
theorem tn2:((i:Int)+2).toNat=i+2:=by omega
theorem tn1:((i:Int)+1).toNat=i+1:=by omega
theorem WT:tZ [c]=[.int .u8 ((c.toNat:Nat):Int)]:=rfl
theorem takeL {k:Nat}(h:i+k≤L.length):(List.take k (List.drop i L)).length=k:=by rw[List.length_take,List.length_drop];omega
variable {H:c7}{n:Nat}
theorem WV {k:Nat}{cs:List AV}:rd H k (.vec n cs)=some cs:=rfl
theorem spanD (h:Span L isD i e):∀d∈(L.drop i).take (e-i),isD d=true:=by
  intro d hd;obtain ⟨j,hj,rfl⟩:=List.mem_iff_getElem.1 hd;have hj2:j<e-i:=by rw[List.length_take]at hj;omega
  have hle:=h.le;have:=h.all (i+j) (by omega) (by omega);have e2:((L.drop i).take (e-i))[j]=bat L (i+j):=by rw[List.getElem_take,List.getElem_drop];simp[bat,List.getD,show i+j<L.length by omega]
  rw[e2];exact this
attribute [local go_sem] nM aI Int.natCast_nonneg Int.natCast_inj List.length_map wrap64 EL read_b sO tn1 tn2 str_at
variable {h:c7}
theorem B1 (c:UInt8):CB 138 [.int .u8 ((c.toNat:Nat):Int)] h (.bool (isL c)):=by
  refine .bz Tryz.f138 21 ?_;refine .z ?_;refine c15z ?_;refine .spl 5 rfl rfl (fun e1=>?_) (fun e1=>?_)
  ·try simp only[e1]
   have qe1:=fact e1;refine .k 4 [(2,5)] ?_;refine .spl 9 rfl rfl (fun e2=>?_) (fun e2=>?_)
   ·try simp only[e2]
    have qe2:=fact e2;refine .k 8 [(6,9),(9,12)] ?_;refine c224z ?_;exact ⟨[],_,(List.append_nil _).symm,t41,t43⟩
   try simp only[e2]
   have qe2:=fact e2;refine .k 3 [(6,9)] ?_;refine .spl 12 rfl rfl (fun e3=>?_) (fun e3=>?_)
   ·try simp only[e3]
    have qe3:=fact e3;refine .k 5 [(6,9),(9,12)] ?_;refine .spl 17 rfl rfl (fun e4=>?_) (fun e4=>?_)
    ·try simp only[e4]
     have qe4:=fact e4;refine c224z ?_;exact ⟨[],_,(List.append_nil _).symm,t41,t43⟩
    try simp only[e4]
    have qe4:=fact e4;refine c224z ?_;exact ⟨[],_,(List.append_nil _).symm,t41,t43⟩
   try simp only[e3]
   have qe3:=fact e3;refine .k 8 [(6,9),(9,12),(14,17)] ?_;refine c114z ?_;exact ⟨[],_,(List.append_nil _).symm,t41,t43⟩
  try simp only[e1]
  have qe1:=fact e1;refine .k 7 [(2,5),(6,9)] ?_;refine .spl 12 rfl rfl (fun e5=>?_) (fun e5=>?_)
  ·try simp only[e5]
   have qe5:=fact e5;refine .k 5 [(6,9),(9,12)] ?_;refine .spl 17 rfl rfl (fun e6=>?_) (fun e6=>?_)
   ·try simp only[e6]
    have qe6:=fact e6;refine c224z ?_;exact ⟨[],_,(List.append_nil _).symm,t41,t43⟩
   try simp only[e6]
   have qe6:=fact e6;refine c224z ?_;exact ⟨[],_,(List.append_nil _).symm,t41,t43⟩
  try simp only[e5]
  have qe5:=fact e5;refine .k 8 [(6,9),(9,12),(14,17)] ?_;refine c114z ?_;exact ⟨[],_,(List.append_nil _).symm,t41,t43⟩
theorem B2 (c:UInt8):CB 139 [.int .u8 ((c.toNat:Nat):Int)] h (.bool (isD c)):=by
  refine .bz Tryz.f139 9 ?_;refine .z ?_;refine c15z ?_;refine .spl 5 rfl rfl (fun e1=>?_) (fun e1=>?_)
  ·try simp only[e1]
   have qe1:=fact e1;refine .m [(2,5)] ?_;refine c5z ?_;exact ⟨[],_,(List.append_nil _).symm,t41,t134⟩
  try simp only[e1]
  have qe1:=fact e1;refine .m [(2,5)] ?_;refine c5z ?_;exact ⟨[],_,(List.append_nil _).symm,t41,t134⟩
section
attribute [local go_sem] mN
theorem c_has (l:List BA)(s:BA)(hl:l.length<1000):CB 170 [.vec l.length (aD l),.str s] h (.bool (hasB l s)):=by
  refine .bz Tryz.f170 18 ?_;refine c18z ?_;refine .w7 (fun m st=>∃(i:Nat),(m=l.length-i∧(∀d,d<i→((l.getD d ByteArray.empty).toList==s.toList)=false)∧i≤l.length)∧st=⟨mkS 18 [(0,AV.vec l.length (aD l)),(1,AV.str s),(5,AV.int .i64 ((i:Nat):Int))],h⟩) _ (.v ⟨0,⟨rfl,t88,by omega⟩,rfl⟩) ?_;rintro m sl h' ⟨i,⟨hm,hI,hi⟩,hst⟩;obtain ⟨rfl,rfl⟩:=St.mk.inj hst;refine c1z ?_;refine u2z ?_ ?_
  ·intro e1 qe1;refine c73z ?_;refine u2z ?_ ?_
   ·intro e2 qe2;refine c157z ?_;exact ⟨[],_,(List.append_nil _).symm,t41,t143⟩
   intro e2 qe2;refine c247z ?_;exact ⟨_,by omega,.v ⟨(i+1),⟨rfl,RE hI (by assumption),by omega⟩,rfl⟩⟩
  intro e1 qe1;refine c65z ?_;exact ⟨[],_,(List.append_nil _).symm,t41,t143⟩
end
theorem frz_n {d:Nat}:n8 (gV n H (d+1)) (aD l)=some (aD l):=(aO.map (fun _=>.str):aO (aD l)).frz _ _ _
variable {g:Nat}
theorem AU {β:Nat}(l:List BA)(s:BA)(hb:H[β]?=some ⟨g,false,9,1,aD l,0⟩)(hl:l.length<1000):CallA Tryz.prog cfg 170 [.own β g 0 l.length,.str s] H (fun y h'=>y=.bool (hasB l s)∧h'=H):=by
  have e:VW 0 H (.own β g 0 l.length)=some (.vec l.length (aD l)):=by show gV 0 H 6 (.own β g 0 l.length)=_;rw[fC,hb];simp only[Nat.zero_le,and_self,if_true,Bool.false_eq_true,if_false,Nat.zero_add,Nat.mul_one,aI,Nat.le_refl,List.drop_zero];rw[List.take_of_length_le t171,frz_n]
  have ha:PW 0 H [.vec l.length (aD l),.str s] [.own β g 0 l.length,.str s]:=And.intro (.inr e) (And.intro (.inr rfl) trivial);exact CallA.borrow ha ((c_has l s hl).mono fun _ _ h=>h.1)
theorem c_res0 (s:BA):CB 140 [.str s] [] (.bool (uA s)):=by refine .bz Tryz.f140 6 ?_;refine c189z ?_;refine .ca rfl rfl (AU WR s rfl (by decide)) ?_;refine .n ?_;exact .ret (.ex (hq:=by rfl))
theorem Bi (s:BA):CallA Tryz.prog cfg 140 [.str s] h (fun y h'=>y=.bool (uA s)∧h'=h):=L9 rfl ((c_res0 s).mono fun _ _ h=>by rw[h.1];rfl) h
theorem c_resF (hr:uA s=false):CallA Tryz.prog cfg 140 [.str s] h (fun y h'=>y=.bool false∧h'=h):=by rw[←hr];exact Bi s
theorem mY (s:BA)(hs:isName (L8 s))(hr:uA s=false):CB 130 [.str s] h (.bool true):=by
  refine .bz Tryz.f130 39 ?_;have hsz:=eS hs;refine c18z ?_;refine .w7 (fun m st=>∃(i:Nat),(m=s.size-i∧i≤s.size)∧st=⟨mkS 39 [(0,AV.str s),(3,AV.int .i64 ((i:Nat):Int))],h⟩) _ (.v ⟨0,⟨rfl,by omega⟩,rfl⟩) ?_;rintro m sl h' ⟨i,⟨hm,hi⟩,hst⟩;obtain ⟨rfl,rfl⟩:=St.mk.inj hst;refine c1z ?_;refine u2z ?_ ?_
  ·intro e1 qe1;refine c3z ?_;have hna:=name_at hs (i:=i) (by omega);refine c15z ?_;refine .ca rfl rfl (B1 _) ?_;refine .e 2 ?_;refine .spl 15 rfl rfl (fun e2=>?_) (fun e2=>?_)
   ·try simp only[e2]
    have qe2:=fact e2;refine .k 3 [(5,15)] ?_;refine .spl 18 rfl rfl (fun e3=>?_) (fun e3=>?_)
    ·try simp only[e3]
     have qe3:=fact e3;refine .m [(5,15),(8,18)] ?_;refine c131z ?_;refine c5z ?_;exact ⟨[],_,(List.append_nil _).symm,t41,t101⟩
    try simp only[e3]
    have qe3:=fact e3;refine .k 3 [(8,18)] ?_;refine .ca rfl rfl (B2 _) ?_;refine .m [(5,15),(8,18)] ?_;refine u2z ?_ ?_
    ·intro e4 qe4;refine c157z ?_;exact ⟨[],_,(List.append_nil _).symm,t41,t101⟩
    intro e4 qe4;refine c4z ?_;refine .c6 [0,3] ?_;refine .rz ?_;exact ⟨_,by omega,.v ⟨(i+1),⟨rfl,by omega⟩,rfl⟩⟩
   try simp only[e2]
   have qe2:=fact e2;refine .k 8 [(5,15),(8,18)] ?_;refine .m [(5,15)] ?_;refine c40z ?_;refine .c6 [0,3] ?_;refine .rz ?_;exact ⟨_,by omega,.v ⟨(i+1),⟨rfl,by omega⟩,rfl⟩⟩
  intro e1 qe1;refine c6z ?_;refine c29z ?_;refine .spl 29 rfl rfl (fun e5=>?_) (fun e5=>by exfalso;simp only[decide_eq_false_iff_not]at e5;omega);try simp only[e5]
  have qe5:=fact e5;refine .k 5 [(3,29)] ?_;refine .spl 34 rfl rfl (fun e6=>?_) (fun e6=>by exfalso;simp only[decide_eq_false_iff_not]at e6;omega);try simp only[e6]
  have qe6:=fact e6;refine .k 1 [(8,34)] ?_;refine .ca rfl rfl (c_resF hr) ?_;refine .m [(8,34)] ?_;refine c5z ?_;exact ⟨[],_,(List.append_nil _).symm,t41,t101⟩
theorem WW (L:Bs)(i n:Nat)(hx:LX (L.drop i) n)(hi:i≤L.length)(hl:L.length<1000000):CB 137 [.vec L.length (tZ L),.int .i64 (i:Int)] h (.int .i64 ((sk L i:Nat):Int)):=by
  refine .bz Tryz.f137 74 ?_;refine .z ?_;refine .sb ?_;refine .w7 (fun m st=>∃(j:Nat),(m=L.length-j∧(LX (L.drop j) n∧j≤L.length∧sk L j=sk L i))∧st=⟨mkS 74 [(0,AV.vec L.length (tZ L)),(1,AV.int .i64 ((j:Nat):Int))],h⟩) _ (.v ⟨i,⟨rfl,⟨hx,hi,rfl⟩⟩,rfl⟩) ?_;rintro m sl h' ⟨j,⟨hm,⟨hX,hj,hk⟩⟩,hst⟩;obtain ⟨rfl,rfl⟩:=St.mk.inj hst;refine c1z ?_;refine u2z ?_ ?_
  ·intro e1 qe1;refine c184z ?_;refine .block ?_;refine c115z ?_;refine .spl 16 rfl rfl (fun e2=>?_) (fun e2=>?_)
   ·try simp only[e2]
    have qe2:=fact e2;refine .k 8 [(5,16),(12,23)] ?_;refine .k 8 [(12,23),(19,30)] ?_;refine .m [(19,30)] ?_;refine .T ?_;refine .c6 [0,1] ?_;refine .rz ?_;exact ⟨_,by omega,.v ⟨(j+1),⟨rfl,⟨hX.IP (by omega) (M0 (by omega)),by omega,(vU (by omega) (M0 (by omega))).symm.trans hk⟩⟩,rfl⟩⟩
   try simp only[e2]
   have qe2:=fact e2;refine .k 7 [(5,16)] ?_;refine .spl 23 rfl rfl (fun e3=>?_) (fun e3=>?_)
   ·try simp only[e3]
    have qe3:=fact e3;refine .k 8 [(12,23),(19,30)] ?_;refine .m [(19,30)] ?_;refine .T ?_;refine .c6 [0,1] ?_;refine .rz ?_;exact ⟨_,by omega,.v ⟨(j+1),⟨rfl,⟨hX.IP (by omega) (M0 (by omega)),by omega,(vU (by omega) (M0 (by omega))).symm.trans hk⟩⟩,rfl⟩⟩
   try simp only[e3]
   have qe3:=fact e3;refine .k 7 [(12,23)] ?_;refine .spl 30 rfl rfl (fun e4=>?_) (fun e4=>?_)
   ·try simp only[e4]
    have qe4:=fact e4;refine .m [(19,30)] ?_;refine .T ?_;refine .c6 [0,1] ?_;refine .rz ?_;exact ⟨_,by omega,.v ⟨(j+1),⟨rfl,⟨hX.IP (by omega) (M0 (by omega)),by omega,(vU (by omega) (M0 (by omega))).symm.trans hk⟩⟩,rfl⟩⟩
   try simp only[e4]
   have qe4:=fact e4;refine .m [(19,30)] ?_;refine u2z ?_ ?_
   ·intro e5 qe5;refine .c6 [0,1] ?_;refine .rz ?_;exact ⟨_,by omega,.v ⟨(j+1),⟨rfl,⟨hX.IP (by omega) (M0 (by omega)),by omega,(vU (by omega) (M0 (by omega))).symm.trans hk⟩⟩,rfl⟩⟩
   intro e5 qe5;refine .c6 [0,1] ?_;refine c115z ?_;refine .spl 45 rfl rfl (fun e6=>?_) (fun e6=>?_)
   ·try simp only[e6]
    have qe6:=fact e6;refine .k 7 [(5,45)] ?_;refine .spl 52 rfl rfl (fun e7=>?_) (fun e7=>?_)
    ·try simp only[e7]
     have qe7:=fact e7;refine .m [(12,52)] ?_;refine .spl 39 rfl rfl (fun e8=>by exfalso;simp only[beq_iff_eq]at *;exact hX.EK (by omega) (by omega) (by omega)) (fun e8=>?_);try simp only[e8]
     have qe8:=fact e8;refine .F ?_;refine .c6 [1] ?_;refine c27z ?_;exact ⟨[],_,(List.append_nil _).symm,t41,t87⟩
    try simp only[e7]
    have qe7:=fact e7;refine .m [(12,52)] ?_;refine .F ?_;refine .c6 [1] ?_;refine c27z ?_;exact ⟨[],_,(List.append_nil _).symm,t41,t87⟩
   try simp only[e6]
   have qe6:=fact e6;refine .k 8 [(5,45),(12,52)] ?_;refine .m [(12,52)] ?_;refine .F ?_;refine .c6 [1] ?_;refine c27z ?_;exact ⟨[],_,(List.append_nil _).symm,t41,t87⟩
  intro e1 qe1;refine .exit ?_;have hje:j=L.length:=by omega
  change c9 ..;refine c27z ?_;exact ⟨[],_,(List.append_nil _).symm,t41,t87⟩
theorem fill6L:(twoN).length=6:=rfl
theorem fill6M:(6≤maxLen)=True:=by simp;decide
theorem fill17L:(Nu).length=17:=rfl
theorem fill17M:(17≤maxLen)=True:=by simp;decide
section
attribute [local go_sem] uM eC Option.bind_eq_bind WQ WT WV takeL T4 Nat.add_sub_cancel_left Y1 take_one lO lP fill6L fill6M fill17L fill17M
theorem c_sign0 (L:Bs)(i:Nat)(hi:i<L.length)(hl:L.length<1000000):CB 142 [.vec L.length (tZ L),.int .i64 (i:Int)] [] (.int .i64 ((sgn L i:Nat):Int)):=by
  refine .bz Tryz.f142 28 ?_;refine c22z ?_;refine c115z ?_;refine .spl 10 rfl rfl (fun e1=>?_) (fun e1=>?_)
  ·try simp only[e1]
   have qe1:=fact e1;try simp only[lP,lO,decide_eq_true_eq,decide_eq_false_iff_not]at qe1
   refine .k 7 [(5,10)] ?_;refine .ca rfl rfl (AU twoN _ rfl (by decide)) ?_;refine .n ?_;refine .spl 19 rfl rfl (fun e2=>?_) (fun e2=>?_)
   ·try simp only[e2]
    have qe2:=fact e2;try simp only[lP,lO,decide_eq_true_eq,decide_eq_false_iff_not]at qe2
    refine c131z ?_;exact .ret (.ex (hq:=t28))
   try simp only[e2]
   have qe2:=fact e2;try simp only[lP,lO,decide_eq_true_eq,decide_eq_false_iff_not]at qe2
   refine c69z ?_;refine .c6 [0,1] ?_;refine .s ?_;refine .e 7 ?_;refine .ca rfl rfl (AU Nu _ (by first | rfl | simp) (by decide)) ?_;refine .nil ?_;refine .spl 27 rfl rfl (fun e3=>?_) (fun e3=>?_)
   ·try simp only[e3]
    have qe3:=fact e3;try simp only[lP,lO,decide_eq_true_eq,decide_eq_false_iff_not]at qe3
    refine c131z ?_;exact .ret (.ex (hq:=t28))
   try simp only[e3]
   have qe3:=fact e3;try simp only[lP,lO,decide_eq_true_eq,decide_eq_false_iff_not]at qe3
   refine c19z ?_;refine c10z ?_;exact .ret (.ex (hq:=t28))
  try simp only[e1]
  have qe1:=fact e1;try simp only[lP,lO,decide_eq_true_eq,decide_eq_false_iff_not]at qe1
  refine .k 8 [(5,10)] ?_;refine .n ?_;refine c69z ?_;refine .c6 [0,1] ?_;refine .s ?_;refine .e 7 ?_;refine .ca rfl rfl (AU Nu _ (by first | rfl | simp) (by decide)) ?_;refine .nil ?_;refine .spl 27 rfl rfl (fun e4=>?_) (fun e4=>?_)
  ·try simp only[e4]
   have qe4:=fact e4;try simp only[lP,lO,decide_eq_true_eq,decide_eq_false_iff_not]at qe4
   refine c131z ?_;exact .ret (.ex (hq:=t28))
  try simp only[e4]
  have qe4:=fact e4;try simp only[lP,lO,decide_eq_true_eq,decide_eq_false_iff_not]at qe4
  refine c19z ?_;refine c10z ?_;exact .ret (.ex (hq:=t28))
end
theorem c_sign (L:Bs)(i:Nat)(hi:i<L.length)(hl:L.length<1000000):CallA Tryz.prog cfg 142 [.vec L.length (tZ L),.int .i64 (i:Int)] h (fun y h'=>y=.int .i64 ((sgn L i:Nat):Int)∧h'=h):=L9 rfl ((c_sign0 L i hi hl).mono fun _ _ h=>by rw[h.1];rfl) h
theorem c_numv (l:Bs)(hd:∀d∈l,isD d=true)(hv:xC l<9223372036854775808)(hl:l.length<1000000):CB 141 [.vec l.length (tZ l)] h (.int .i64 ((xC l:Nat):Int)):=by
  refine CallA.body (Q:=fun y'=>y'=.int .i64 ((xC l:Nat):Int)) u6 fn141 rfl ?_;simp only[ntm141,List.length_cons,List.length_nil,Nat.reduceAdd,Nat.reduceSub,List.replicate,List.cons_append,List.nil_append];refine c9z ?_;refine o1.pre 1 t12 ?_;refine c8z ?_;refine c9z ?_;refine o1.pre 1 t12 ?_;refine c139z ?_;refine c9z ?_;refine o1.pre 1 t12 ?_;refine c8z ?_;refine c9.block ?_;refine c9.w7 (fun m st=>∃(i:Nat),(m=l.length-i∧i≤l.length)∧st=⟨[.vec l.length (tZ l),.any,.any,.int .i64 ((xC (l.take i):Nat):Int),.int .i64 ((i:Nat):Int),.any,.any,.any,.any,.any,.any,.any,.any,.any,.any,.any,.any,.any,.any,.any,.any,.any,.any,.any,.any,.any,.any,.any],h⟩) _ ⟨[.vec l.length (tZ l),.any,.any,.int .i64 ((xC (l.take 0):Nat):Int),.int .i64 ((0:Nat):Int),.any,.any,.any,.any,.any,.any,.any,.any,.any,.any,.any,.any,.any,.any,.any,.any,.any,.any,.any,.any,.any,.any,.any],⟨(.inl t93),(.inr rfl),(.inr rfl),(.inl t93),(.inl t93),(.inr rfl),(.inr rfl),(.inr rfl),(.inr rfl),(.inr rfl),(.inr rfl),(.inr rfl),(.inr rfl),(.inr rfl),(.inr rfl),(.inr rfl),(.inr rfl),(.inr rfl),(.inr rfl),(.inr rfl),(.inr rfl),(.inr rfl),(.inr rfl),(.inr rfl),(.inr rfl),(.inr rfl),(.inr rfl),(.inr rfl),trivial⟩,0,⟨rfl,by omega⟩,rfl⟩ ?_;rintro m sl h' ⟨i,⟨hm,hi⟩,hst⟩;obtain ⟨rfl,rfl⟩:=St.mk.inj hst;refine c9.seq ?_;refine c9z ?_;refine o1.pre 4 t12 ?_;refine c8z ?_;refine c9.split 9 rfl (fun e1=>?_) (fun e1=>?_)
  · try simp only[e1]
    have qe1:=e1;try replace qe1:=s9z qe1
    refine c9.zH rfl ?_;refine c72z ?_;refine c9.seq ?_;refine c9.block ?_;refine c9.seq ?_;have hdd:=valD_nn (i:=i) (by omega) hd;have hvt:=L7 (l:=l) (k:=i) (by omega);have hvm:=IT (l:=l) (k:=i+1) (m:=l.length) (by omega);rw[List.take_length]at hvm;have htd:(9223372036854775807-(((bat l i).toNat:Int)-48)).tdiv 10=(9223372036854775807-(((bat l i).toNat:Int)-48)) / 10:=Int.tdiv_eq_ediv_of_nonneg (by omega);have htd2:((9223372036854775807-(((bat l i).toNat:Int)-48)).tdiv 10:Int)<9223372036854775808∧0≤(9223372036854775807-(((bat l i).toNat:Int)-48)).tdiv 10:=by rw[htd];omega
    refine c9.region u6 ?_;refine o1.pre 7 t12 ?_;refine c139z ?_;refine c9z ?_;refine o1.pre 5 t12 ?_;refine c8z ?_;refine c9.split 22 rfl (fun e2=>?_) (fun e2=>?_)
    · exfalso;rw[htd]at e2;simp only[decide_eq_true_eq,gt_iff_lt]at e2;omega
    · try simp only[e2]
      have qe2:=e2;try replace qe2:=s9z qe2
      refine c105z ?_;refine c9.region u6 ?_;refine o1.pre 5 t12 ?_;refine c8z ?_;refine c9.region u6 ?_;refine o1.pre 3 t12 ?_;refine o1.nil ?_;exact ⟨l.length-(i+1),by omega,[.vec l.length (tZ l),.any,.any,.int .i64 ((xC (l.take (i+1)):Nat):Int),.int .i64 (((i+1):Nat):Int),.any,.any,.any,.any,.any,.any,.any,.any,.any,.any,.any,.any,.any,.any,.any,.any,.any,.any,.any,.any,.any,.any,.any],⟨(.inl t93),(.inr rfl),(.inr rfl),(.inl t93),(.inl t93),(.inr rfl),(.inr rfl),(.inr rfl),(.inr rfl),(.inr rfl),(.inr rfl),(.inr rfl),(.inr rfl),(.inr rfl),(.inr rfl),(.inr rfl),(.inr rfl),(.inr rfl),(.inr rfl),(.inr rfl),(.inr rfl),(.inr rfl),(.inr rfl),(.inr rfl),(.inr rfl),(.inr rfl),(.inr rfl),(.inr rfl),trivial⟩,(i+1),⟨rfl,by omega⟩,rfl⟩
  · try simp only[e1]
    have qe1:=e1;try replace qe1:=s9z qe1
    refine c9.DO rfl ?_;refine c9.exit ?_;obtain rfl:i=l.length:=by omega
    rw[List.take_length] at*;change c9 _ _ _ _ _;refine c9z ?_;refine o1.pre 2 t12 ?_;refine c66z ?_;refine Ends.mk (by simp only[VY,xE,kK,mG];first | rfl | (simp (maxSteps:=2000000) (disch:=omega) only [go_sem,Nat.reduceBEq,Nat.reduceAdd,Nat.reduceSub,Nat.reduceLeDiff,Nat.reduceMul,reduceIte,reduceCtorEq,Int.reduceNeg,Int.reduceToNat,Nat.reduceLT,Int.reduceLE,Int.reduceLT,Int.reduceAdd,Int.reduceSub,Int.reduceMul,sF,if_false,show ((10:Int)=0)=False from by simp,if_pos,if_neg];rfl)) ?_;exact ⟨[],_,(List.append_nil _).symm,t41,by rfl⟩
theorem app_tok {a:Blk}{l:c7}{zs:List AV}{x y z u:AV}(hz:zs.length=n*4)(hn:n<10000):j7 cfg 168 (o8 168 4 g zs::a::⟨0,false,168,4,[x,y,z,u],0⟩::l) (.own 0 g 0 n) (.own 2 0 0 1)=some (.own 0 (g+1) 0 (n+1),o8 168 4 (g+1) (zs++[x,y,z,u])::a::⟨0,false,168,4,[x,y,z,u],0⟩::l):=by rw[v7 (C:=cfg) (K:=4) (m:=1) (new:=[x,y,z,u]) (zs:=zs) rfl rfl (by omega) hz rfl (by omega) t111 rfl (by decide) (by omega)];rfl
theorem RF {l:c7}{zs:List AV}{x y z u:AV}(hz:zs.length=n*4)(hn:n<10000):j7 cfg 168 (o8 168 4 g zs::⟨0,false,168,4,[x,y,z,u],0⟩::l) (.own 0 g 0 n) (.own 1 0 0 1)=some (.own 0 (g+1) 0 (n+1),o8 168 4 (g+1) (zs++[x,y,z,u])::⟨0,false,168,4,[x,y,z,u],0⟩::l):=by rw[v7 (C:=cfg) (K:=4) (m:=1) (new:=[x,y,z,u]) (zs:=zs) rfl rfl (by omega) hz rfl (by omega) t111 rfl (by decide) (by omega)];rfl
theorem qH {k n p:Int}:aO [.int .i64 k,.str s,.int .i64 n,.int .i64 p]:=aO.cons .int (aO.cons .str (aO.cons .int (aO.cons .int .nil)))
theorem lQ {a b:List AV}(h:aO a)(h':aO b):aO (a++b):=fun x hx=>(List.mem_append.1 hx).elim (h x) (h' x)
theorem WX (hs:Span L isD i e)(hv:xC ((L.drop i).take (e-i))<9223372036854775808)(hl:L.length<1000000):CallA Tryz.prog cfg 141 [.vec (e-i) (tZ ((L.drop i).take (e-i)))] h (fun y h'=>y=.int .i64 ((xC ((L.drop i).take (e-i)):Nat):Int)∧h'=h):=by
  have hle:=hs.le;have e1:e-i=((L.drop i).take (e-i)).length:=by rw[List.length_take,List.length_drop];omega
  have:=c_numv (h:=h) _ (spanD hs) hv (by omega);rwa[←e1]at this
section
attribute [local go_sem] uM eC Option.bind_eq_bind WQ WT WV takeL T4 Nat.add_sub_cancel_left app_tok RF take_one L4 A7 wrap64 xD
theorem c_lex0 (L:Bs)(N:Nat)(hx:LX (L.drop 0) N)(hN:N≤4000)(hl:L.length≤262144):CallA Tryz.prog cfg 95 [.vec L.length (tZ L)] [] (fun y' h'=>Aa y'=.tup [.any,.int .i64 L.length,.int .i64 0]∧h'=[]):=by
  refine .bz Tryz.f95 124 ?_;have hs0:=A9 rfl hx (by omega);refine c89z ?_;refine .spl 11 rfl rfl (fun e1=>by exfalso;simp only[decide_eq_true_eq,gt_iff_lt]at e1;omega) (fun e1=>?_);try simp only[e1]
  have qe1:=fact e1;refine c19z ?_;refine c169z ?_;refine .ca rfl rfl (WW L 0 N hx (by omega) (by omega)) ?_;refine c141z ?_;refine c9.qC 5 rfl ?_;refine .aB (fun m st=>∃(q:Nat) (k:Nat) (n:Nat) (zs:List AV),(m=L.length-q∧(k+n≤4000∧LX (L.drop q) n∧q≤L.length∧(q<L.length→xB (bat L q)=false)∧zs.length=k*4∧aO zs))∧st=⟨mkS 124 [(0,AV.vec L.length (tZ L)),(5,AV.own 0 k 0 k),(6,AV.int .i64 ((q:Nat):Int))],[o8 168 4 k zs]⟩) (.v ⟨(sk L 0),0,N,[],⟨rfl,⟨by omega,hs0.2.2.1,hs0.2.1,hs0.2.2.2,rfl,aO.nil⟩⟩,rfl⟩) ?_;rintro m sl h' ⟨q,k,n,zs,⟨hm,⟨hkn,hX,hq,hsp,hz,hpl⟩⟩,hst⟩;obtain ⟨rfl,rfl⟩:=St.mk.inj hst;clear hst;refine .sb ?_;refine c1z ?_;refine u2z ?_ ?_
  ·intro e2 qe2;refine c45z ?_;refine c114z ?_;exact ⟨_,_,rfl,by (show iV 0 _ 6 (.tup [.own 0 (k+1) 0 (k+1),.int .i64 ((q:Nat):Int),.int .i64 0])=_;simp only[jO,bT,pX,n8,Nat.not_lt_zero,if_false];rw[kQ (e:=168) (K:=4) (g:=k+1) (zs:=zs++_) rfl (by decide) t90 (by omega) (aO.frz (lQ hpl qH) _ _ _)];rfl),by rw[show q=L.length from by omega];rfl⟩
  intro e2 qe2;refine .sk ?_;refine c261z ?_;refine .sb ?_;have hsp':=hsp (by omega);refine c29z ?_;refine .ca rfl rfl (B1 _) ?_;refine .n ?_;refine u2z ?_ ?_
  ·intro e3 qe3;refine .sb ?_;obtain ⟨ee,mm,hspn,hle16,hnm,hX2⟩:=hX.IQ (by omega) (by assumption);have hlt:=hspn.lt;refine .aB (fun m st=>∃(j:Nat),(m=ee-j∧(q≤j∧j≤ee))∧st=⟨mkS 124 [(0,AV.vec L.length (tZ L)),(5,AV.own 0 k 0 k),(6,AV.int .i64 ((q:Nat):Int)),(7,AV.ptr 1 0 0),(8,AV.int .i64 ((j:Nat):Int))],[o8 168 4 k zs,⟨0,false,168,4,[.int .i64 0,.str ByteArray.empty,.int .i64 0,.int .i64 ((q:Nat):Int)],0⟩]⟩) (.v ⟨q,⟨rfl,⟨Nat.le_refl _,Nat.le_of_lt hspn.lt⟩⟩,rfl⟩) ?_;rintro m sl h' ⟨j,⟨hm,⟨hj1,hj2⟩⟩,hst⟩;obtain ⟨rfl,rfl⟩:=St.mk.inj hst;clear hst;have hle:=hspn.le;refine .seq ?_;refine c25z ?_;refine .spl 50 rfl rfl (fun e4=>?_) (fun e4=>?_)
   ·try simp only[e4]
    have qe4:=fact e4;refine .k 4 [(4,50)] ?_;refine .ca rfl rfl (B1 _) ?_;refine .k 1 [(4,50)] ?_;refine .spl 56 rfl rfl (fun e5=>?_) (fun e5=>?_)
    ·try simp only[e5]
     have qe5:=fact e5;refine .m [(4,50),(10,56)] ?_;refine .T ?_;refine c184z ?_;refine .c6 [0,5,6,7,8] ?_;refine .rz ?_;have hje:=T5 hspn hj2 (by omega) t200;exact ⟨_,by omega,.v ⟨(j+1),⟨rfl,⟨by omega,by omega⟩⟩,rfl⟩ (he:=t182)⟩
    try simp only[e5]
    have qe5:=fact e5;refine .k 4 [(10,56)] ?_;refine .ca rfl rfl (B2 _) ?_;refine .m [(4,50)] ?_;refine u2z ?_ ?_
    ·intro e6 qe6;refine c184z ?_;refine .c6 [0,5,6,7,8] ?_;refine .rz ?_;have hje:=T5 hspn hj2 (by omega) t200;exact ⟨_,by omega,.v ⟨(j+1),⟨rfl,⟨by omega,by omega⟩⟩,rfl⟩ (he:=t182)⟩
    intro e6 qe6;refine .exit ?_;have hje:ee=j:=(uB hspn hj1 hj2 (fun hlt=>by first | omega | assumption | simp_all [isW])).symm;subst hje;change c9 ..;refine c86z ?_;refine c25z ?_;refine .ca rfl rfl (Bi _) ?_;refine .nil ?_;refine u2z ?_ ?_
    ·intro e7 qe7;refine c2z ?_;refine .seq ?_;refine c86z ?_;refine .spl 111 rfl rfl (fun e8=>by exfalso;simp only[beq_iff_eq]at e8;omega) (fun e8=>?_);try simp only[e8]
     have qe8:=fact e8;refine c228z ?_;have hs1:=A9 rfl hX2 (by omega);exact ⟨_,by omega,.v ⟨(sk L ee),(k+1),mm,(zs++[.int .i64 _,.str _,.int .i64 _,.int .i64 ((q:Nat):Int)]),⟨rfl,⟨by omega,hs1.2.2.1,hs1.2.1,hs1.2.2.2,t90,lQ hpl qH⟩⟩,rfl⟩ (he:=by rfl) (hk:=t58)⟩
    intro e7 qe7;refine .z ?_;refine .spl 77 rfl rfl (fun e9=>by exfalso;simp only[decide_eq_true_eq,gt_iff_lt]at e9;omega) (fun e9=>?_);try simp only[e9]
    have qe9:=fact e9;refine c218z ?_;refine c86z ?_;refine .spl 111 rfl rfl (fun e10=>by exfalso;simp only[beq_iff_eq]at e10;omega) (fun e10=>?_);try simp only[e10]
    have qe10:=fact e10;refine c228z ?_;have hs1:=A9 rfl hX2 (by omega);exact ⟨_,by omega,.v ⟨(sk L ee),(k+1),mm,(zs++[.int .i64 _,.str _,.int .i64 _,.int .i64 ((q:Nat):Int)]),⟨rfl,⟨by omega,hs1.2.2.1,hs1.2.1,hs1.2.2.2,t90,lQ hpl qH⟩⟩,rfl⟩ (he:=by rfl) (hk:=t58)⟩
   try simp only[e4]
   have qe4:=fact e4;refine .k 8 [(4,50),(10,56)] ?_;refine .m [(4,50),(10,56)] ?_;refine .F ?_;refine .exit ?_;have hje:ee=j:=(uB hspn hj1 hj2 (fun hlt=>by first | omega | assumption | simp_all [isW])).symm;subst hje;change c9 ..;refine c86z ?_;refine c25z ?_;refine .ca rfl rfl (Bi _) ?_;refine .nil ?_;refine u2z ?_ ?_
   ·intro e11 qe11;refine c2z ?_;refine .seq ?_;refine c86z ?_;refine .spl 111 rfl rfl (fun e12=>by exfalso;simp only[beq_iff_eq]at e12;omega) (fun e12=>?_);try simp only[e12]
    have qe12:=fact e12;refine c228z ?_;have hs1:=A9 rfl hX2 (by omega);exact ⟨_,by omega,.v ⟨(sk L ee),(k+1),mm,(zs++[.int .i64 _,.str _,.int .i64 _,.int .i64 ((q:Nat):Int)]),⟨rfl,⟨by omega,hs1.2.2.1,hs1.2.1,hs1.2.2.2,t90,lQ hpl qH⟩⟩,rfl⟩ (he:=by rfl) (hk:=t58)⟩
   intro e11 qe11;refine .z ?_;refine .spl 77 rfl rfl (fun e13=>by exfalso;simp only[decide_eq_true_eq,gt_iff_lt]at e13;omega) (fun e13=>?_);try simp only[e13]
   have qe13:=fact e13;refine c218z ?_;refine c86z ?_;refine .spl 111 rfl rfl (fun e14=>by exfalso;simp only[beq_iff_eq]at e14;omega) (fun e14=>?_);try simp only[e14]
   have qe14:=fact e14;refine c228z ?_;have hs1:=A9 rfl hX2 (by omega);exact ⟨_,by omega,.v ⟨(sk L ee),(k+1),mm,(zs++[.int .i64 _,.str _,.int .i64 _,.int .i64 ((q:Nat):Int)]),⟨rfl,⟨by omega,hs1.2.2.1,hs1.2.1,hs1.2.2.2,t90,lQ hpl qH⟩⟩,rfl⟩ (he:=by rfl) (hk:=t58)⟩
  intro e3 qe3;refine .c6 [0,5,6,7,8] ?_;refine c29z ?_;refine .ca rfl rfl (B2 _) ?_;refine .n ?_;refine u2z ?_ ?_
  ·intro e15 qe15;refine .sb ?_;obtain ⟨ee,mm,hspn,hvv,hnm,hX2⟩:=hX.RD (by omega) (by assumption);have hlt:=hspn.lt;refine .aB (fun m st=>∃(j:Nat),(m=ee-j∧(q≤j∧j≤ee))∧st=⟨mkS 124 [(0,AV.vec L.length (tZ L)),(5,AV.own 0 k 0 k),(6,AV.int .i64 ((q:Nat):Int)),(7,AV.ptr 1 0 0),(8,AV.int .i64 ((j:Nat):Int))],[o8 168 4 k zs,⟨0,false,168,4,[.int .i64 0,.str ByteArray.empty,.int .i64 0,.int .i64 ((q:Nat):Int)],0⟩]⟩) (.v ⟨q,⟨rfl,⟨Nat.le_refl _,Nat.le_of_lt hspn.lt⟩⟩,rfl⟩) ?_;rintro m sl h' ⟨j,⟨hm,⟨hj1,hj2⟩⟩,hst⟩;obtain ⟨rfl,rfl⟩:=St.mk.inj hst;clear hst;have hle:=hspn.le;refine .seq ?_;refine c25z ?_;refine .spl 89 rfl rfl (fun e16=>?_) (fun e16=>?_)
   ·try simp only[e16]
    have qe16:=fact e16;refine .k 4 [(4,89)] ?_;refine .ca rfl rfl (B2 _) ?_;refine .n ?_;refine u2z ?_ ?_
    ·intro e17 qe17;refine c184z ?_;refine .c6 [0,5,6,7,8] ?_;refine .rz ?_;have hje:=T5 hspn hj2 (by omega) t200;exact ⟨_,by omega,.v ⟨(j+1),⟨rfl,⟨by omega,by omega⟩⟩,rfl⟩ (he:=t182)⟩
    intro e17 qe17;refine .exit ?_;have hje:ee=j:=(uB hspn hj1 hj2 (fun hlt=>by first | omega | assumption | simp_all [isW])).symm;subst hje;change c9 ..;refine .c6 [0,5,6,7,8] ?_;refine c29z ?_;refine .ca rfl rfl (WX hspn hvv (by omega)) ?_;refine c262z ?_;refine .spl 107 rfl rfl (fun e18=>by exfalso;simp only[decide_eq_true_eq]at e18;omega) (fun e18=>?_);try simp only[e18]
    have qe18:=fact e18;refine c218z ?_;refine c86z ?_;refine .spl 111 rfl rfl (fun e19=>by exfalso;simp only[beq_iff_eq]at e19;omega) (fun e19=>?_);try simp only[e19]
    have qe19:=fact e19;refine c228z ?_;have hs1:=A9 rfl hX2 (by omega);exact ⟨_,by omega,.v ⟨(sk L ee),(k+1),mm,(zs++[.int .i64 _,.str _,.int .i64 _,.int .i64 ((q:Nat):Int)]),⟨rfl,⟨by omega,hs1.2.2.1,hs1.2.1,hs1.2.2.2,t90,lQ hpl qH⟩⟩,rfl⟩ (he:=by rfl) (hk:=t58)⟩
   try simp only[e16]
   have qe16:=fact e16;refine .m [(4,89)] ?_;refine .F ?_;refine .exit ?_;have hje:ee=j:=(uB hspn hj1 hj2 (fun hlt=>by first | omega | assumption | simp_all [isW])).symm;subst hje;change c9 ..;refine .c6 [0,5,6,7,8] ?_;refine c29z ?_;refine .ca rfl rfl (WX hspn hvv (by omega)) ?_;refine c262z ?_;refine .spl 107 rfl rfl (fun e20=>by exfalso;simp only[decide_eq_true_eq]at e20;omega) (fun e20=>?_);try simp only[e20]
   have qe20:=fact e20;refine c218z ?_;refine c86z ?_;refine .spl 111 rfl rfl (fun e21=>by exfalso;simp only[beq_iff_eq]at e21;omega) (fun e21=>?_);try simp only[e21]
   have qe21:=fact e21;refine c228z ?_;have hs1:=A9 rfl hX2 (by omega);exact ⟨_,by omega,.v ⟨(sk L ee),(k+1),mm,(zs++[.int .i64 _,.str _,.int .i64 _,.int .i64 ((q:Nat):Int)]),⟨rfl,⟨by omega,hs1.2.2.1,hs1.2.1,hs1.2.2.2,t90,lQ hpl qH⟩⟩,rfl⟩ (he:=by rfl) (hk:=t58)⟩
  intro e15 qe15;obtain ⟨hsg1,hsg2,mm,hnm,hX2⟩:=hX.IS (by omega) hsp' (by first | assumption | simp_all) (by first | assumption | simp_all);refine c15z ?_;refine .ca rfl rfl (c_sign L q (by omega) (by omega)) ?_;refine .n ?_;refine c86z ?_;refine .z ?_;refine .spl 38 rfl rfl (fun e22=>by exfalso;simp only[beq_iff_eq]at e22;omega) (fun e22=>?_);try simp only[e22]
  have qe22:=fact e22;refine c40z ?_;refine c1z ?_;refine .spl 111 rfl rfl (fun e23=>by exfalso;simp only[beq_iff_eq]at e23;omega) (fun e23=>?_);try simp only[e23]
  have qe23:=fact e23;refine c228z ?_;have hs1:=A9 rfl hX2 (by omega);exact ⟨_,by omega,.v ⟨(sk L (q+sgn L q)),(k+1),mm,(zs++[.int .i64 _,.str _,.int .i64 _,.int .i64 ((q:Nat):Int)]),⟨rfl,⟨by omega,hs1.2.2.1,hs1.2.1,hs1.2.2.2,t90,lQ hpl qH⟩⟩,rfl⟩ (he:=by rfl) (hk:=t58)⟩
end
end Go.Proofs.YtonbocmibeikmaaGreat
end
section
namespace Go.Proofs.YtonbocmibeikmaaGreat
open Go.Ab Go.Un
theorem wrapU {n:Int}(h1:0≤n)(h2:n<18446744073709551616):IntKind.wrap .u64 n=n:=by rw[IntKind.wrap_u64];omega
theorem M1:∀(f n:Nat),n<10^f→0<f→xH (f+1) n=xH f n
  | 0,n,h,hf=>by omega
  | f+1,n,h,_=>by
    have e:xH (f+1+1) n=if n<10 then [dig n] else xH (f+1) (n / 10)++[dig n]:=rfl
    have e2:xH (f+1) n=if n<10 then [dig n] else xH f (n / 10)++[dig n]:=rfl
    rw[e,e2];split
    · rfl
    · rename_i hn
      have h1:n / 10<10^f:=by rw[Nat.pow_succ]at h;omega
      cases f with
      | zero=>simp at h1;omega
      | succ f=>rw[M1 (f+1) (n / 10) h1 (by omega)]
theorem M3 {n:Nat}(h:n<10000000000000000000)(h0:0<n / 10):xT n=xT (n / 10)++[dig n]:=by
  have e2:xT n=if n<10 then [dig n] else xH 19 (n / 10)++[dig n]:=rfl
  rw[e2,if_neg (by omega)];unfold xT;rw[M1 19 (n / 10) (by omega) (by omega)]
theorem yA {n:Nat}(h:n<10):xT n=[dig n]:=by
  have e2:xT n=if n<10 then [dig n] else xH 19 (n / 10)++[dig n]:=rfl
  rw[e2,if_pos h]
def Hb (n:Nat)(s:Bs):Bs:=if n=0 then s else xT n++s
theorem EM {n:Nat}(h:n<10000000000000000000):Hb (n / 10) [dig n]=xT n:=by
  unfold Hb;split
  · rw[yA (by omega)]
  · rw[M3 h (by omega)]
variable {s:Bs}
theorem IW {n:Nat}(h:n<10000000000000000000)(h0:0<n):Hb (n / 10) (dig n::s)=Hb n s:=by
  unfold Hb;rw[if_neg (by omega:¬n=0)];split
  · rw[yA (by omega)];rfl
  · rw[M3 h (by omega)];simp
theorem IX {n:Nat}:UInt8.ofNat (((48:Int)+(((n%10:Nat)):Int)).toNat)=dig n:=by unfold dig;congr 1
theorem WY {n:Nat}:((n:Int)).tmod 10=((n%10:Nat):Int):=rfl
theorem WZ {n:Nat}:((n:Int)).tdiv 10=((n / 10:Nat):Int):=rfl
theorem XA {a:UInt8}:(⟨#[a]⟩:BA)++(⟨s.toArray⟩:BA)=⟨(a::s).toArray⟩:=by apply ByteArray.ext;simp[ByteArray.data_append]
theorem IY:(⟨s.toArray⟩:BA).size=s.length:=by rw[lK];rfl
attribute [local go_sem] nM aI o6 bD l7 Int.natCast_nonneg Int.natCast_inj List.length_map wrap64 EL wrapU gC AP L4 S8 AQ A7 max2 mN
theorem RG {n m:Nat}(h:n*10^s.length≤m):n / 10*10^(dig n::s).length≤m:=by rw[List.length_cons,Nat.pow_succ,Nat.mul_comm (10^s.length),←Nat.mul_assoc];exact Nat.le_trans (Nat.mul_le_mul_right _ (Nat.div_mul_le_self n 10)) h
theorem RH {n m:Nat}(h0:0<n)(h:n*10^s.length≤m)(hm:m<10000000000000000000):(dig n::s).length≤20:=by
  rw[List.length_cons];by_cases hs:s.length+1≤20
  · exact hs
  · have h1:10^20≤10^s.length:=Nat.pow_le_pow_right (by omega) (by omega)
    have h2:1*10^s.length≤n*10^s.length:=Nat.mul_le_mul_right _ h0;omega
theorem c_dig0 (m0:Nat)(hm0:m0<10000000000000000000):CB 181 [.int .u64 (m0:Int)] [] (.str ⟨(xT m0).toArray⟩):=by
  refine CallA.body (Q:=fun y'=>y'=.str ⟨(xT m0).toArray⟩) u6 fn181 rfl ?_;simp only[ntm181,List.length_cons,List.length_nil,Nat.reduceAdd,Nat.reduceSub,List.replicate,List.cons_append,List.nil_append];refine c9z ?_;refine o1.pre 1 t13 ?_;refine c8z ?_;refine c9z ?_;refine o1.pre 7 t13 ?_;refine c139z ?_;refine c9z ?_;refine o1.pre 3 t13 ?_;refine c8z ?_;refine c9.block ?_;refine c9.w6 ([⟨0,false,5,1,[.int .u8 (48+((m0%10:Nat):Int))],0⟩]) (by first | rfl | (simp only[List.append_assoc,List.cons_append,List.nil_append];rfl)) ?_;refine c9.loopW (fun m st=>∃(n:Nat) (s:Bs),(m=n∧(n<10000000000000000000∧Hb n s=xT m0∧s.length≤20∧n*10^s.length≤m0))∧st=⟨[.int .u64 ((n:Nat):Int),.any,.any,.str ⟨s.toArray⟩,.any,.any,.any,.any,.any,.any,.any,.any,.any,.any,.any,.any,.any,.any,.any,.any,.any,.any,.any,.any,.any],[⟨0,false,5,1,[.int .u8 (48+((m0%10:Nat):Int))],0⟩]⟩) ((m0 / 10)) ⟨[.int .u64 (((m0 / 10):Nat):Int),.any,.any,.str ⟨[dig m0].toArray⟩,.any,.any,.any,.any,.any,.any,.any,.any,.any,.any,.any,.any,.any,.any,.any,.any,.any,.any,.any,.any,.any],[⟨0,false,5,1,[.int .u8 (48+((m0%10:Nat):Int))],0⟩],[],(List.append_nil _).symm,Nat.le_refl _,aE.refl _,⟨(.inl t181),(.inr rfl),(.inr rfl),(.inl t181),(.inr rfl),(.inr rfl),(.inr rfl),(.inr rfl),(.inr rfl),(.inr rfl),(.inr rfl),(.inr rfl),(.inr rfl),(.inr rfl),(.inr rfl),(.inr rfl),(.inr rfl),(.inr rfl),(.inr rfl),(.inr rfl),(.inr rfl),(.inr rfl),(.inr rfl),(.inr rfl),(.inr rfl),trivial⟩,gZ.get ⟨t3,t3,t3,t3,t3,t3,t3,t3,t3,t3,t3,t3,t3,t3,t3,t3,t3,t3,t3,t3,t3,t3,t3,t3,t3,trivial⟩,(m0 / 10),[dig m0],⟨rfl,⟨by omega,EM hm0,by simp,t64⟩⟩,rfl⟩ ?_;rintro m sl h' ⟨n,s,⟨hm,⟨hn,hP,hs,hM⟩⟩,hst⟩;obtain ⟨rfl,rfl⟩:=St.mk.inj hst;clear hst;refine c9.seq ?_;refine c9z ?_;refine o1.pre 2 t13 ?_;refine c8z ?_;refine c9.split 13 rfl (fun e1=>?_) (fun e1=>?_)
  · try simp only[e1]
    have qe1:=e1;try replace qe1:=s9z qe1
    refine c9.zH rfl ?_;refine c72z ?_;refine c9.seq ?_;refine c9.block ?_;refine c9.region u6 ?_;refine o1.pre 9 t13 ?_;refine c8z ?_;refine c9.region u6 ?_;refine o1.pre 3 t13 ?_;refine o1.nil ?_;have hP2:=(IW (s:=s) hn (by omega)).trans hP;exact ⟨(n / 10),by omega,[.int .u64 (((n / 10):Nat):Int),.any,.any,.str ⟨(dig n::s).toArray⟩,.any,.any,.any,.any,.any,.any,.any,.any,.any,.any,.any,.any,.any,.any,.any,.any,.any,.any,.any,.any,.any],[⟨0,false,5,1,[.int .u8 (48+((m0%10:Nat):Int))],0⟩],_,by rfl,by simp,by exact aE.refl _,⟨(.inl t181),(.inr rfl),(.inr rfl),(.inl t181),(.inr rfl),(.inr rfl),(.inr rfl),(.inr rfl),(.inr rfl),(.inr rfl),(.inr rfl),(.inr rfl),(.inr rfl),(.inr rfl),(.inr rfl),(.inr rfl),(.inr rfl),(.inr rfl),(.inr rfl),(.inr rfl),(.inr rfl),(.inr rfl),(.inr rfl),(.inr rfl),(.inr rfl),trivial⟩,gZ.get ⟨t3,t3,t3,t3,t3,t3,t3,t3,t3,t3,t3,t3,t3,t3,t3,t3,t3,t3,t3,t3,t3,t3,t3,t3,t3,trivial⟩,(n / 10),(dig n::s),⟨rfl,⟨by omega,hP2,RH (by omega) hM hm0,RG hM⟩⟩,rfl⟩
  · try simp only[e1]
    have qe1:=e1;try replace qe1:=s9z qe1
    refine c9.DO rfl ?_;refine c9.exit ?_;change c9 _ _ _ _ _;refine c9z ?_;refine o1.pre 2 t13 ?_;refine c66z ?_;refine Ends.mk (by simp only[WD,xE,kK,mG];first | rfl | (simp (maxSteps:=2000000) (disch:=omega) only [go_sem,Nat.reduceBEq,Nat.reduceAdd,Nat.reduceSub,Nat.reduceLeDiff,Nat.reduceMul,reduceIte,reduceCtorEq,Int.reduceNeg,Int.reduceToNat,Nat.reduceLT,Int.reduceLE,Int.reduceLT,Int.reduceAdd,Int.reduceSub,Int.reduceMul,WY,WZ,IX,jJ,rd,XA,IY,show ((10:Int)=0)=False from by simp,show (⟨#[dig m0]⟩:BA)=⟨[dig m0].toArray⟩ from rfl,sF,if_pos,if_neg];rfl)) ?_;exact ⟨_,_,(by first | rfl | exact (List.append_nil _).symm | (simp only[List.append_assoc,List.cons_append,List.nil_append];rfl)),by first | rfl | (simp only[iV,gV,n8,r7,aF];rfl),by (rw[←hP,show n=0 from by omega];rfl)⟩
variable {h:c7}
theorem RJ (n:Nat)(hn:n<10000000000000000000):CallA Tryz.prog cfg 181 [.int .u64 (n:Int)] h (fun y h'=>y=.str ⟨(xT n).toArray⟩∧h'=h):=L9 rfl ((c_dig0 n hn).mono fun _ _ h=>by rw[h.1];rfl) h
theorem M4 (n:Int)(h0:0≤n)(hn:n<10000000000000000000):CallA Tryz.prog cfg 181 [.int .u64 n] h (fun y h'=>y=.str ⟨(xT n.toNat).toArray⟩∧h'=h):=by have:=RJ (h:=h) n.toNat (by omega);rwa[Int.toNat_of_nonneg h0]at this
theorem c_num (n:Int)(h1:-9000000000000000000≤n)(h2:n<9000000000000000000):CB 163 [.int .i64 n] h (.str (ED n)):=by
  refine CallA.body (Q:=fun y'=>y'=.str (ED n)) u6 fn163 rfl ?_;simp only[ntm163,List.length_cons,List.length_nil,Nat.reduceAdd,Nat.reduceSub,List.replicate,List.cons_append,List.nil_append];have hs1:(xT (-(n+1)+1).toNat).length≤20:=tR 20 _;refine c9z ?_;refine o1.pre 1 t17 ?_;refine c139z ?_;refine c9z ?_;refine o1.pre 2 t17 ?_;refine c8z ?_;refine c9.split 4 rfl (fun e1=>?_) (fun e1=>?_)
  · try simp only[e1]
    have qe1:=e1;try replace qe1:=s9z qe1
    refine c9.zH rfl ?_;refine c9z ?_;refine o1.pre 5 t17 ?_;refine o1.ZR rfl rfl rfl hb181 (M4 _ (by omega) (by omega)) ?_;refine o1.pre 2 t17 ?_;refine c66z ?_;refine Ends.mk t70 ?_;exact ⟨[],_,(List.append_nil _).symm,t41,t139⟩
  · try simp only[e1]
    have qe1:=e1;try replace qe1:=s9z qe1
    refine c195z ?_;refine o1.pre 2 t17 ?_;refine o1.ZR rfl rfl rfl hb181 (M4 _ (by omega) (by omega)) ?_;refine o1.pre 1 t17 ?_;refine c66z ?_;refine Ends.mk t70 ?_;exact ⟨[],_,(List.append_nil _).symm,t41,t139⟩
theorem strE1:s7 cfg lI 20 188 [.int .i64 1] []=some (.int .i64 6,[]):=by kernel_rfl
theorem strE2:s7 cfg lI 20 188 [.int .i64 2] []=some (.int .i64 6,[]):=by kernel_rfl
theorem strE3:s7 cfg lI 20 188 [.int .i64 3] []=some (.int .i64 5,[]):=by kernel_rfl
theorem strE4:s7 cfg lI 20 188 [.int .i64 4] []=some (.int .i64 5,[]):=by kernel_rfl
theorem strE5:s7 cfg lI 20 188 [.int .i64 5] []=some (.int .i64 4,[]):=by kernel_rfl
theorem strE6:s7 cfg lI 20 188 [.int .i64 6] []=some (.int .i64 4,[]):=by kernel_rfl
theorem strE7:s7 cfg lI 20 188 [.int .i64 7] []=some (.int .i64 4,[]):=by kernel_rfl
theorem strE8:s7 cfg lI 20 188 [.int .i64 8] []=some (.int .i64 3,[]):=by kernel_rfl
theorem strE9:s7 cfg lI 20 188 [.int .i64 9] []=some (.int .i64 3,[]):=by kernel_rfl
theorem strE10:s7 cfg lI 20 188 [.int .i64 10] []=some (.int .i64 2,[]):=by kernel_rfl
theorem strE11:s7 cfg lI 20 188 [.int .i64 11] []=some (.int .i64 2,[]):=by kernel_rfl
theorem strE12:s7 cfg lI 20 188 [.int .i64 12] []=some (.int .i64 2,[]):=by kernel_rfl
theorem strE13:s7 cfg lI 20 188 [.int .i64 13] []=some (.int .i64 2,[]):=by kernel_rfl
theorem strE14:s7 cfg lI 20 188 [.int .i64 14] []=some (.int .i64 2,[]):=by kernel_rfl
theorem strE15:s7 cfg lI 20 188 [.int .i64 15] []=some (.int .i64 2,[]):=by kernel_rfl
theorem strE16:s7 cfg lI 20 188 [.int .i64 16] []=some (.int .i64 1,[]):=by kernel_rfl
theorem strE17:s7 cfg lI 20 188 [.int .i64 17] []=some (.int .i64 0,[]):=by kernel_rfl
theorem rS (o:Int)(h1:1≤o)(h2:o≤17):CallA Tryz.prog cfg 188 [.int .i64 o] h (fun y h'=>y=.int .i64 (gX o)∧h'=h):=by
  have key:∀(k v:Int),s7 cfg lI 20 188 [.int .i64 k] []=some (.int .i64 v,[])→gX k=v→CallA Tryz.prog cfg 188 [.int .i64 k] h (fun y h'=>y=.int .i64 (gX k)∧h'=h):=fun k v he hv=>by rw[hv];exact L9 rfl ((zO u6 DY 20 _ _ _ _ _ he).mono fun _ _ h=>by rw[h.1];rfl) h
  have hcases:o=1∨o=2∨o=3∨o=4∨o=5∨o=6∨o=7∨o=8∨o=9∨o=10∨o=11∨o=12∨o=13∨o=14∨o=15∨o=16∨o=17:=by omega
  rcases hcases with rfl | rfl | rfl | rfl | rfl | rfl | rfl | rfl | rfl | rfl | rfl | rfl | rfl | rfl | rfl | rfl | rfl
  · exact key _ _ strE1 rfl
  · exact key _ _ strE2 rfl
  · exact key _ _ strE3 rfl
  · exact key _ _ strE4 rfl
  · exact key _ _ strE5 rfl
  · exact key _ _ strE6 rfl
  · exact key _ _ strE7 rfl
  · exact key _ _ strE8 rfl
  · exact key _ _ strE9 rfl
  · exact key _ _ strE10 rfl
  · exact key _ _ strE11 rfl
  · exact key _ _ strE12 rfl
  · exact key _ _ strE13 rfl
  · exact key _ _ strE14 rfl
  · exact key _ _ strE15 rfl
  · exact key _ _ strE16 rfl
  · exact key _ _ strE17 rfl
theorem RK {l:List Ex}{i:Nat}(h:i<l.length):List.take 1 (List.drop (i*4) (n9 l))=[AV.int .i64 (l.getD i l6).op]:=by have:=congrArg (fun x=>x.take 1) (read_es h);simp only[List.take_take,bK]at this;simpa using this
variable {o:Int}
theorem qI (h1:1≤o)(h2:o≤17):0≤gX o∧gX o≤6∧(gX o=6↔o=1∨o=2)∧(gX o=5↔o=3∨o=4):=by
  have hcases:o=1∨o=2∨o=3∨o=4∨o=5∨o=6∨o=7∨o=8∨o=9∨o=10∨o=11∨o=12∨o=13∨o=14∨o=15∨o=16∨o=17:=by omega
  rcases hcases with rfl | rfl | rfl | rfl | rfl | rfl | rfl | rfl | rfl | rfl | rfl | rfl | rfl | rfl | rfl | rfl | rfl<;>decide
variable {vars:List BA}
theorem GE.op:∀{d:Nat} {e:Ex},GE vars d e→1≤e.op∧e.op≤17
  | d,.leaf o n s,h=>by have h':=kH.1 h;simp only[Ex.op];omega
  | 0,.un o a,h=>h.elim
  | 0,.bin o a b,h=>h.elim
  | d+1,.un o a,h=>by have:=h.1;simp only[Ex.op];omega
  | d+1,.bin o a b,h=>by have:=h.1;simp only[Ex.op];omega
section
attribute [local go_sem] RK
theorem T6 (e:Ex)(k:Nat)(hk:k<e.args.length)(h1:1≤e.op∧e.op≤17)(h2:1≤(e.args.getD k l6).op∧(e.args.getD k l6).op≤17)(hl:e.args.length≤2):CB 189 [.agg [.int .i64 e.op,.int .i64 e.num,.str e.name,.vec e.args.length (n9 e.args)],.int .i64 (k:Int)] h (.bool (mJ e k)):=by
  refine .bz Tryz.f189 29 ?_;refine .z ?_;refine .ss u6 (mkP 12 [0,1,0,7,15,31,63,0,128,511,1023,2047] []) ?_;refine .k 6 [] ?_;refine .ca rfl rfl (rS _ h2.1 h2.2) ?_;refine .k 2 [] ?_;refine .ca rfl rfl (rS _ h1.1 h1.2) ?_;refine .n [] ?_;refine .c6 [1,5,6] ?_;refine c29z ?_;refine .spl 20 rfl rfl (fun e1=>?_) (fun e1=>?_)
  ·try simp only[e1]
   have qe1:=fact e1;refine .k 8 [(3,20),(7,24)] ?_;refine .n ?_;exact .ret (.ex (hq:=t82))
  try simp only[e1]
  have qe1:=fact e1;refine .k 4 [(3,20)] ?_;refine .spl 24 rfl rfl (fun e2=>?_) (fun e2=>?_)
  ·try simp only[e2]
   have qe2:=fact e2;refine .m [(3,20),(7,24)] ?_;exact .ret (.ex (hq:=t82))
  try simp only[e2]
  have qe2:=fact e2;refine .m [(3,20),(7,24)] ?_;exact .ret (.ex (hq:=t82))
end
variable {a:Ex}
theorem AW (h1:1≤o∧o≤17)(h2:1≤a.op∧a.op≤17):CB 189 [.agg [.int .i64 o,.int .i64 0,.str ByteArray.empty,.vec 1 (u3 a)],.int .i64 0] h (.bool (mJ (.un o a) 0)):=by have:=T6 (h:=h) (.un o a) 0 t206 h1 h2 t206;simpa only[Ex.op,Ex.num,Ex.name,Ex.args,n9,List.flatMap_cons,List.flatMap_nil,List.append_nil,List.length_cons,List.length_nil,Nat.zero_add,Int.natCast_zero,Int.cast_ofNat_Int] using this
variable {b:Ex}
theorem M5 (h1:1≤o∧o≤17)(h2:1≤a.op∧a.op≤17):CB 189 [.agg [.int .i64 o,.int .i64 0,.str ByteArray.empty,.vec 2 (u3 a++u3 b)],.int .i64 0] h (.bool (mJ (.bin o a b) 0)):=by have:=T6 (h:=h) (.bin o a b) 0 t206 h1 h2 t206;simpa only[Ex.op,Ex.num,Ex.name,Ex.args,n9,List.flatMap_cons,List.flatMap_nil,List.append_nil,List.length_cons,List.length_nil,Nat.zero_add,Nat.reduceAdd,Int.natCast_zero,Int.cast_ofNat_Int] using this
theorem vV (h1:1≤o∧o≤17)(h2:1≤b.op∧b.op≤17):CB 189 [.agg [.int .i64 o,.int .i64 0,.str ByteArray.empty,.vec 2 (u3 a++u3 b)],.int .i64 1] h (.bool (mJ (.bin o a b) 1)):=by have:=T6 (h:=h) (.bin o a b) 1 t206 h1 h2 t206;simpa only[Ex.op,Ex.num,Ex.name,Ex.args,n9,List.flatMap_cons,List.flatMap_nil,List.append_nil,List.length_cons,List.length_nil,Nat.zero_add,Nat.reduceAdd,Int.natCast_one,Int.cast_ofNat_Int] using this
theorem fG:u3 (.un o a)=[.int .i64 o,.int .i64 0,.str ByteArray.empty,.vec 1 (u3 a)]:=rfl
theorem cS:u3 (.bin o a b)=[.int .i64 o,.int .i64 0,.str ByteArray.empty,.vec 2 (u3 a++u3 b)]:=rfl
theorem bG {n:Int}{s:BA}:u3 (.leaf o n s)=[.int .i64 o,.int .i64 n,.str s,.vec 0 []]:=rfl
theorem jR {l:List AV}:List.take 4 (u3 a++l)=u3 a:=by rw[←o6 a,List.take_left]
theorem jS {l:List AV}:List.drop 4 (u3 a++l)=l:=by rw[←o6 a,List.drop_left]
theorem mZ {s:BA}:(s.toList==ByteArray.empty.toList)=decide (s.size=0):=by
  rw[ByteArray.toList_eq,ByteArray.toList_eq,Bool.eq_iff_iff];simp only[beq_iff_eq,decide_eq_true_eq];constructor
  · intro h
    have:=congrArg List.length h;simpa using this
  · intro h
    exact List.length_eq_zero_iff.1 t119
theorem eq_mk {s:BA}:(⟨#[]⟩:BA)=ByteArray.empty:=rfl
theorem nA:ByteArray.empty.size=0:=rfl
section
attribute [local go_sem] fG cS bG jR jS gC mZ eq_mk nA
theorem RL {vars:List BA}(n:Int)(hn:0≤n):CB 179 [.agg (u3 (.leaf 1 n ByteArray.empty))] h (.bool true):=by
  refine .bz Tryz.f179 77 ?_;have hst:gX 1=6:=rfl;refine c190z ?_;refine c20z ?_;refine .nil ?_;refine c90z ?_;refine .spl 10 rfl rfl (fun e1=>?_) (fun e1=>by exfalso;first | omega | (replace e1:=s10z e1;omega) | (simp at e1;omega) | (simp at e1;done));try simp only[e1]
  have qe1:=fact e1;refine .T ?_;refine c254z ?_;refine .ss u6 (mkP 28 [0,1,3,7,15,31,63,127,255,511,1023,2047,4095,0,8192,24576,57855,123391,254463,516607,1040895,2089471,4186623,8380927,16769535,33546751,33554431,134217727] []) ?_;refine .k 4 [] ?_;refine .spl 15 rfl rfl (fun e2=>?_) (fun e2=>by exfalso;first | omega | (replace e2:=s10z e2;omega) | (simp at e2;omega) | (simp at e2;done));try simp only[e2]
  have qe2:=fact e2;refine .k 5 [(3,15)] ?_;refine .spl 20 rfl rfl (fun e3=>?_) (fun e3=>by exfalso;first | omega | (replace e3:=s10z e3;omega) | (simp at e3;omega) | (simp at e3;done));try simp only[e3]
  have qe3:=fact e3;refine .k 8 [(8,20)] ?_;refine .spl 28 rfl rfl (fun e4=>by exfalso;first | omega | (replace e4:=s10z e4;omega) | (simp at e4;omega) | (simp at e4;done)) (fun e4=>?_);try simp only[e4]
  have qe4:=fact e4;refine .k 8 [(16,28),(21,33)] ?_;refine .n [] ?_;refine .c6 [1,3,4,5] ?_;refine c15z ?_;refine .spl 40 rfl rfl (fun e5=>by exfalso;first | omega | (replace e5:=s10z e5;omega) | (simp at e5;omega) | (simp at e5;done)) (fun e5=>?_);try simp only[e5]
  have qe5:=fact e5;refine .m [(2,40)] ?_;refine c218z ?_;refine .c6 [1,3] ?_;refine c115z ?_;refine .spl 51 rfl rfl (fun e6=>by exfalso;first | omega | (replace e6:=s10z e6;omega) | (simp at e6;omega) | (simp at e6;done)) (fun e6=>?_);try simp only[e6]
  have qe6:=fact e6;refine .k 3 [(5,51)] ?_;refine .spl 54 rfl rfl (fun e7=>by exfalso;first | omega | (replace e7:=s10z e7;omega) | (simp at e7;omega) | (simp at e7;done)) (fun e7=>?_);try simp only[e7]
  have qe7:=fact e7;refine .k 8 [(8,54),(12,58)] ?_;refine .m [(5,51)] ?_;refine c69z ?_;refine .c6 [1,3] ?_;refine c142z ?_;refine .z ?_;exact .ret (.ex (hq:=by rfl))
end
section
attribute [local go_sem] fG cS bG jR jS gC mZ eq_mk nA
theorem RM {vars:List BA}(s:BA)(hn:isName (L8 s))(hr:uA s=false):CB 179 [.agg (u3 (.leaf 2 0 s))] h (.bool true):=by
  refine .bz Tryz.f179 77 ?_;have hst:gX 2=6:=rfl;have hsz:=(eS hn).1;refine c190z ?_;refine c20z ?_;refine .nil ?_;refine c90z ?_;refine .spl 10 rfl rfl (fun e1=>?_) (fun e1=>by exfalso;first | omega | (replace e1:=s10z e1;omega) | (simp at e1;omega) | (simp at e1;done));try simp only[e1]
  have qe1:=fact e1;refine .T ?_;refine c254z ?_;refine .ss u6 (mkP 28 [0,1,3,7,15,31,63,127,255,511,1023,2047,4095,0,8192,24576,57855,123391,254463,516607,1040895,2089471,4186623,8380927,16769535,33546751,33554431,134217727] []) ?_;refine .k 4 [] ?_;refine .spl 15 rfl rfl (fun e2=>by exfalso;first | omega | (replace e2:=s10z e2;omega) | (simp at e2;omega) | (simp at e2;done)) (fun e2=>?_);try simp only[e2]
  have qe2:=fact e2;refine .k 8 [(3,15),(8,20)] ?_;refine .k 5 [] ?_;refine .spl 28 rfl rfl (fun e3=>?_) (fun e3=>by exfalso;first | omega | (replace e3:=s10z e3;omega) | (simp at e3;omega) | (simp at e3;done));try simp only[e3]
  have qe3:=fact e3;refine .k 5 [(16,28)] ?_;refine .spl 33 rfl rfl (fun e4=>?_) (fun e4=>by exfalso;first | omega | (replace e4:=s10z e4;omega) | (simp at e4;omega) | (simp at e4;done));try simp only[e4]
  have qe4:=fact e4;refine .k 2 [(21,33)] ?_;refine .ca rfl rfl (mY _ hn hr) ?_;refine .n [] ?_;refine .c6 [1,3,4,5] ?_;refine .zm [(2,40)] ?_;refine .spl 43 rfl rfl (fun e5=>by exfalso;first | omega | (replace e5:=s10z e5;omega) | (simp at e5;omega) | (simp at e5;done)) (fun e5=>?_);try simp only[e5]
  have qe5:=fact e5;refine c218z ?_;refine .c6 [1,3] ?_;refine c115z ?_;refine .spl 51 rfl rfl (fun e6=>by exfalso;first | omega | (replace e6:=s10z e6;omega) | (simp at e6;omega) | (simp at e6;done)) (fun e6=>?_);try simp only[e6]
  have qe6:=fact e6;refine .k 3 [(5,51)] ?_;refine .spl 54 rfl rfl (fun e7=>by exfalso;first | omega | (replace e7:=s10z e7;omega) | (simp at e7;omega) | (simp at e7;done)) (fun e7=>?_);try simp only[e7]
  have qe7:=fact e7;refine .k 8 [(8,54),(12,58)] ?_;refine .m [(5,51)] ?_;refine c69z ?_;refine .c6 [1,3] ?_;refine c142z ?_;refine .z ?_;exact .ret (.ex (hq:=by rfl))
end
section
attribute [local go_sem] fG cS bG jR jS gC mZ eq_mk nA
theorem RN {vars:List BA}(o:Int)(a:Ex)(ho:o=3∨o=4)(iha:∀(h:c7),CB 179 [.agg (u3 a)] h (.bool true)):CB 179 [.agg (u3 (.un o a))] h (.bool true):=by
  refine .bz Tryz.f179 77 ?_;have hst:=(qI (o:=o) (by omega) (by omega)).2.2.2.2 ho;refine c190z ?_;refine c20z ?_;refine .nil ?_;refine c90z ?_;refine .spl 10 rfl rfl (fun e1=>by exfalso;first | omega | (replace e1:=s10z e1;omega) | (simp at e1;omega) | (simp at e1;done)) (fun e1=>?_);try simp only[e1]
  have qe1:=fact e1;refine c156z ?_;refine .spl 44 rfl rfl (fun e2=>?_) (fun e2=>by exfalso;first | omega | (replace e2:=s10z e2;omega) | (simp at e2;omega) | (simp at e2;done));try simp only[e2]
  have qe2:=fact e2;refine .T ?_;refine .c6 [1] ?_;refine c2z ?_;refine .seq ?_;refine c115z ?_;refine .spl 51 rfl rfl (fun e3=>by exfalso;first | omega | (replace e3:=s10z e3;omega) | (simp at e3;omega) | (simp at e3;done)) (fun e3=>?_);try simp only[e3]
  have qe3:=fact e3;refine .k 3 [(5,51)] ?_;refine .spl 54 rfl rfl (fun e4=>?_) (fun e4=>by exfalso;first | omega | (replace e4:=s10z e4;omega) | (simp at e4;omega) | (simp at e4;done));try simp only[e4]
  have qe4:=fact e4;refine .k 4 [(8,54)] ?_;refine .spl 58 rfl rfl (fun e5=>by exfalso;first | omega | (replace e5:=s10z e5;omega) | (simp at e5;omega) | (simp at e5;done)) (fun e5=>?_);try simp only[e5]
  have qe5:=fact e5;refine .m [(5,51),(8,54),(12,58)] ?_;refine .spl 64 rfl rfl (fun e6=>by exfalso;first | omega | (replace e6:=s10z e6;omega) | (simp at e6;omega) | (simp at e6;done)) (fun e6=>?_);try simp only[e6]
  have qe6:=fact e6;refine c69z ?_;refine .c6 [1,3] ?_;refine c14z ?_;refine c219z ?_;refine c93z ?_;refine .n ?_;refine .spl 76 rfl rfl (fun e7=>by exfalso;first | omega | (replace e7:=s10z e7;omega) | (simp at e7;omega) | (simp at e7;done)) (fun e7=>?_);try simp only[e7]
  have qe7:=fact e7;refine c40z ?_;refine .c6 [1,3,6] ?_;refine .rz ?_;refine c44z ?_;refine c10z ?_;exact .ret (.ex (hq:=by rfl))
end
section
attribute [local go_sem] fG cS bG jR jS gC mZ eq_mk nA
theorem RO {vars:List BA}(o:Int)(a b:Ex)(ho:5≤o∧o≤17)(iha:∀(h:c7),CB 179 [.agg (u3 a)] h (.bool true))(ihb:∀(h:c7),CB 179 [.agg (u3 b)] h (.bool true)):CB 179 [.agg (u3 (.bin o a b))] h (.bool true):=by
  refine .bz Tryz.f179 77 ?_;have hst:=qI (o:=o) (by omega) (by omega);refine c190z ?_;refine c20z ?_;refine .nil ?_;refine c90z ?_;refine .spl 10 rfl rfl (fun e1=>by exfalso;first | omega | (replace e1:=s10z e1;omega) | (simp at e1;omega) | (simp at e1;done)) (fun e1=>?_);try simp only[e1]
  have qe1:=fact e1;refine c156z ?_;refine .spl 44 rfl rfl (fun e2=>by exfalso;first | omega | (replace e2:=s10z e2;omega) | (simp at e2;omega) | (simp at e2;done)) (fun e2=>?_);try simp only[e2]
  have qe2:=fact e2;refine c218z ?_;refine .c6 [1,3] ?_;refine c115z ?_;refine .spl 51 rfl rfl (fun e3=>by exfalso;first | omega | (replace e3:=s10z e3;omega) | (simp at e3;omega) | (simp at e3;done)) (fun e3=>?_);try simp only[e3]
  have qe3:=fact e3;refine .k 3 [(5,51)] ?_;refine .spl 54 rfl rfl (fun e4=>?_) (fun e4=>by exfalso;first | omega | (replace e4:=s10z e4;omega) | (simp at e4;omega) | (simp at e4;done));try simp only[e4]
  have qe4:=fact e4;refine .k 4 [(8,54)] ?_;refine .spl 58 rfl rfl (fun e5=>by exfalso;first | omega | (replace e5:=s10z e5;omega) | (simp at e5;omega) | (simp at e5;done)) (fun e5=>?_);try simp only[e5]
  have qe5:=fact e5;refine .m [(5,51),(8,54),(12,58)] ?_;refine .spl 64 rfl rfl (fun e6=>by exfalso;first | omega | (replace e6:=s10z e6;omega) | (simp at e6;omega) | (simp at e6;done)) (fun e6=>?_);try simp only[e6]
  have qe6:=fact e6;refine c69z ?_;refine .c6 [1,3] ?_;refine c14z ?_;refine c240z ?_;refine .n ?_;refine .spl 76 rfl rfl (fun e7=>by exfalso;first | omega | (replace e7:=s10z e7;omega) | (simp at e7;omega) | (simp at e7;done)) (fun e7=>?_);try simp only[e7]
  have qe7:=fact e7;refine c40z ?_;refine .c6 [1,3,6] ?_;refine .rz ?_;refine c241z ?_;refine .n ?_;refine .spl 76 rfl rfl (fun e8=>by exfalso;first | omega | (replace e8:=s10z e8;omega) | (simp at e8;omega) | (simp at e8;done)) (fun e8=>?_);try simp only[e8]
  have qe8:=fact e8;refine c40z ?_;refine .c6 [1,3,6] ?_;refine .rz ?_;refine c44z ?_;refine c10z ?_;exact .ret (.ex (hq:=by rfl))
end
def z8 (vars:List BA):Prop:=∀x∈vars,isName (L8 x)∧uA x=false
theorem z8.n (h:z8 vars):Names vars:=fun x hx=>(h x hx).1
theorem B3 {vars:List BA}(hv:z8 vars):∀{d:Nat} {e:Ex},GE vars d e→∀(h:c7),CB 179 [.agg (u3 e)] h (.bool true)
  | d,.leaf o n s,hg,h=>by
    rcases kH.1 hg with ⟨rfl,h1,_,rfl⟩ | ⟨rfl,rfl,h1⟩
    · exact RL (vars:=vars) n h1
    · exact RM (vars:=vars) s (hv s h1).1 (hv s h1).2
  | 0,.un o a,hg,h=>hg.elim
  | 0,.bin o a b,hg,h=>hg.elim
  | d+1,.un o a,hg,h=>RN (vars:=vars) o a hg.1 (B3 hv hg.2)
  | d+1,.bin o a b,hg,h=>RO (vars:=vars) o a b hg.1 (B3 hv hg.2.1) (B3 hv hg.2.2)
def mx (a b:Int):Int:=if b > a then b else a
def hgt:Ex→Int
  | .leaf ..=>0
  | .un o a=>mx 0 (if mJ (.un o a) 0 then hgt a+1 else hgt a)+1
  | .bin o a b=>mx (mx 0 (if mJ (.bin o a b) 0 then hgt a+1 else hgt a)) (if mJ (.bin o a b) 1 then hgt b+1 else hgt b)
theorem vW:∀e:Ex,0≤hgt e∧hgt e≤2*(e.dep:Int)
  | .leaf ..=>⟨Int.le_refl _,by simp[hgt,Ex.dep]⟩
  | .un o a=>by have:=vW a;simp only[hgt,mx,Ex.dep];constructor<;>(repeat' split)<;>omega
  | .bin o a b=>by have:=vW a;have:=vW b;simp only[hgt,mx,Ex.dep];constructor<;>(repeat' split)<;>omega
section
attribute [local go_sem] fG cS bG jR jS gC mZ eq_mk nA
theorem IZ (o n:Int)(s:BA)(ho:o=1∨o=2):CB 180 [.agg (u3 (.leaf o n s))] h (.int .i64 (hgt (.leaf o n s))):=by
  refine .bz Tryz.f180 34 ?_;have hst:=(qI (o:=o) (by omega) (by omega)).2.2.1.2 ho;refine c55z ?_;refine c61z ?_;refine .seq ?_;refine c124z ?_;refine .n ?_;refine .spl 30 rfl rfl (fun e1=>by exfalso;first | omega | (replace e1:=s10z e1;omega) | (simp at e1;omega) | (simp at e1;done)) (fun e1=>?_);try simp only[e1]
  have qe1:=fact e1;refine c146z ?_;exact .ret (.ex (hq:=by rfl))
end
section
attribute [local go_sem] fG cS bG jR jS gC mZ eq_mk nA
theorem JA (o:Int)(a:Ex)(ho:o=3∨o=4)(hd:a.dep≤1000)(hga:1≤a.op∧a.op≤17)(iha:∀(h:c7),CB 180 [.agg (u3 a)] h (.int .i64 (hgt a))):CB 180 [.agg (u3 (.un o a))] h (.int .i64 (hgt (.un o a))):=by
  refine .bz Tryz.f180 34 ?_;have hst:=(qI (o:=o) (by omega) (by omega)).2.2.2.2 ho;have hha:=vW a;refine c55z ?_;refine c219z ?_;refine c93z ?_;refine c111z ?_;refine .ca rfl rfl (AW (by omega) hga) ?_;refine .nil ?_;refine u2z ?_ ?_
  ·intro e1 qe1;refine c2z ?_;refine c170z ?_;refine .seq ?_;refine c124z ?_;refine .n ?_;refine .spl 30 rfl rfl (fun e2=>?_) (fun e2=>by exfalso;first | omega | (replace e2:=s10z e2;omega) | (simp at e2;omega) | (simp at e2;done));try simp only[e2]
   have qe2:=fact e2;refine .T ?_;refine c2z ?_;refine .z ?_;exact .ret (.ex (hq:=t65))
  intro e1 qe1;refine .sk ?_;refine c60z ?_;change c9 _ _ _ _ _;refine c248z ?_;refine c11z ?_;refine c6z ?_;refine .seq ?_;refine c20z ?_;refine .n ?_;refine .spl 30 rfl rfl (fun e3=>?_) (fun e3=>by exfalso;first | omega | (replace e3:=s10z e3;omega) | (simp at e3;omega) | (simp at e3;done));try simp only[e3]
  have qe3:=fact e3;refine .T ?_;refine .c6 [3] ?_;refine c2z ?_;refine .z ?_;exact .ret (.ex (hq:=t65))
end
section
attribute [local go_sem] fG cS bG jR jS gC mZ eq_mk nA
theorem JB (o:Int)(a b:Ex)(ho:5≤o∧o≤17)(hd:a.dep≤1000)(hd2:b.dep≤1000)(hga:1≤a.op∧a.op≤17)(hgb:1≤b.op∧b.op≤17)(iha:∀(h:c7),CB 180 [.agg (u3 a)] h (.int .i64 (hgt a)))(ihb:∀(h:c7),CB 180 [.agg (u3 b)] h (.int .i64 (hgt b))):CB 180 [.agg (u3 (.bin o a b))] h (.int .i64 (hgt (.bin o a b))):=by
  refine .bz Tryz.f180 34 ?_;have hst:=qI (o:=o) (by omega) (by omega);have hha:=vW a;have hhb:=vW b;refine c55z ?_;refine c240z ?_;refine c111z ?_;refine .ca rfl rfl (M5 (by omega) hga) ?_;refine .nil ?_;refine u2z ?_ ?_
  ·intro e1 qe1;refine c2z ?_;refine c98z ?_;refine c241z ?_;refine c111z ?_;refine .ca rfl rfl (vV (by omega) hgb) ?_;refine .nil ?_;refine u2z ?_ ?_
   ·intro e2 qe2;refine c2z ?_;refine c170z ?_;refine .seq ?_;refine c124z ?_;refine .n ?_;refine .spl 30 rfl rfl (fun e3=>by exfalso;first | omega | (replace e3:=s10z e3;omega) | (simp at e3;omega) | (simp at e3;done)) (fun e3=>?_);try simp only[e3]
    have qe3:=fact e3;refine c146z ?_;exact .ret (.ex (hq:=t65))
   intro e2 qe2;refine .sk ?_;refine c60z ?_;change c9 _ _ _ _ _;refine c248z ?_;refine c11z ?_;refine c6z ?_;refine .seq ?_;refine c20z ?_;refine .n ?_;refine .spl 30 rfl rfl (fun e4=>by exfalso;first | omega | (replace e4:=s10z e4;omega) | (simp at e4;omega) | (simp at e4;done)) (fun e4=>?_);try simp only[e4]
   have qe4:=fact e4;refine c19z ?_;refine c187z ?_;exact .ret (.ex (hq:=t65))
  intro e1 qe1;refine .sk ?_;refine c60z ?_;change c9 _ _ _ _ _;refine c248z ?_;refine c106z ?_;refine c3z ?_;refine c119z ?_;refine c111z ?_;refine .ca rfl rfl (vV (by omega) hgb) ?_;refine .nil ?_;refine u2z ?_ ?_
  ·intro e5 qe5;refine c2z ?_;refine c170z ?_;refine .seq ?_;refine c124z ?_;refine .n ?_;refine .spl 30 rfl rfl (fun e6=>by exfalso;first | omega | (replace e6:=s10z e6;omega) | (simp at e6;omega) | (simp at e6;done)) (fun e6=>?_);try simp only[e6]
   have qe6:=fact e6;refine c146z ?_;exact .ret (.ex (hq:=t65))
  intro e5 qe5;refine .sk ?_;refine c60z ?_;change c9 _ _ _ _ _;refine c248z ?_;refine c11z ?_;refine c6z ?_;refine .seq ?_;refine c20z ?_;refine .n ?_;refine .spl 30 rfl rfl (fun e7=>by exfalso;first | omega | (replace e7:=s10z e7;omega) | (simp at e7;omega) | (simp at e7;done)) (fun e7=>?_);try simp only[e7]
  have qe7:=fact e7;refine c19z ?_;refine c187z ?_;exact .ret (.ex (hq:=t65))
end
theorem uC {vars:List BA}:∀{d:Nat} {e:Ex},d≤100→GE vars d e→∀(h:c7),CB 180 [.agg (u3 e)] h (.int .i64 (hgt e))
  | d,.leaf o n s,hd,hg,h=>by have h':=kH.1 hg;exact IZ o n s (by omega)
  | 0,.un o a,hd,hg,h=>hg.elim
  | 0,.bin o a b,hd,hg,h=>hg.elim
  | d+1,.un o a,hd,hg,h=>JA o a hg.1 (by have:=hg.2.dep;omega) (GE.op hg.2) (uC (by omega) hg.2)
  | d+1,.bin o a b,hd,hg,h=>JB o a b hg.1 (by have:=hg.2.1.dep;omega) (by have:=hg.2.2.dep;omega) (GE.op hg.2.1) (GE.op hg.2.2) (uC (by omega) hg.2.1) (uC (by omega) hg.2.2)
theorem AX (hv:z8 vars){d:Nat}(hd:d≤12)(e:Ex)(hg:GE vars d e):CB 159 [.agg (u3 e)] h (.bool true):=by refine .bz Tryz.f159 10 ?_;have hh:=vW e;have hdp:=hg.dep;refine c169z ?_;refine .ca rfl rfl (B3 hv hg _) ?_;refine .k 2 [(2,5)] ?_;refine .ca rfl rfl (uC (by omega) hg _) ?_;refine .m [(2,5)] ?_;exact .ret (.ex (hq:=by (exact congrArg AV.bool (decide_eq_true (by omega)))))
end Go.Proofs.YtonbocmibeikmaaGreat
end
section
namespace Go.Proofs.YtonbocmibeikmaaGreat
open Go.Ab Go.Un
theorem mx6:(6≤maxLen)=True:=by simp;decide
theorem mx3:(3≤maxLen)=True:=by simp;decide
def sgS (k:Int):List BA:=if k=0 then [(⟨#[124,124]⟩:BA)] else if k=1 then [(⟨#[38,38]⟩:BA)] else if k=2 then [(⟨#[61,61]⟩:BA),(⟨#[33,61]⟩:BA),(⟨#[60]⟩:BA),(⟨#[60,61]⟩:BA),(⟨#[62]⟩:BA),(⟨#[62,61]⟩:BA)] else if k=3 then [(⟨#[43]⟩:BA),(⟨#[45]⟩:BA)] else [(⟨#[42]⟩:BA),(⟨#[47]⟩:BA),(⟨#[37]⟩:BA)]
def sgO (k:Int):List Int:=if k=0 then [17] else if k=1 then [16] else if k=2 then [14,15,10,11,12,13] else if k=3 then [8,9] else [5,6,7]
theorem RP {k:Int}(h0:0≤k)(h4:k≤4):(sgS k).length=(sgO k).length∧(sgO k).length≤6:=by
  have hc:k=0∨k=1∨k=2∨k=3∨k=4:=by omega
  rcases hc with rfl | rfl | rfl | rfl | rfl<;>decide
variable {o:Int}
theorem RQ (h:5≤o∧o≤17):∀i,i<(sgO (gX o)).length→(sgO (gX o)).getD i 0=o→(sgS (gX o)).getD i ByteArray.empty=S4 o:=by
  have hcases:o=5∨o=6∨o=7∨o=8∨o=9∨o=10∨o=11∨o=12∨o=13∨o=14∨o=15∨o=16∨o=17:=by omega
  rcases hcases with rfl | rfl | rfl | rfl | rfl | rfl | rfl | rfl | rfl | rfl | rfl | rfl | rfl<;>decide
theorem RR (h:5≤o∧o≤17):¬∀i,i<(sgO (gX o)).length→(sgO (gX o)).getD i 0≠o:=by
  have hcases:o=5∨o=6∨o=7∨o=8∨o=9∨o=10∨o=11∨o=12∨o=13∨o=14∨o=15∨o=16∨o=17:=by omega
  rcases hcases with rfl | rfl | rfl | rfl | rfl | rfl | rfl | rfl | rfl | rfl | rfl | rfl | rfl<;>decide
theorem uD (h:5≤o∧o≤17):0≤gX o∧gX o≤4:=by
  have hcases:o=5∨o=6∨o=7∨o=8∨o=9∨o=10∨o=11∨o=12∨o=13∨o=14∨o=15∨o=16∨o=17:=by omega
  rcases hcases with rfl | rfl | rfl | rfl | rfl | rfl | rfl | rfl | rfl | rfl | rfl | rfl | rfl<;>decide
variable {i:Nat}
theorem AY {l:List Int}(h:∀d,d<i→l.getD d 0≠o)(e:l.getD i 0≠o):∀d,d<i+1→l.getD d 0≠o:=fun d hd=>by
  by_cases hdi:d=i
  · rw[hdi];exact e
  · exact h d (by omega)
theorem B4 {a:Array UInt8}:(⟨a⟩:BA).size=a.size:=rfl
variable {h:c7}{a:Ex}{p:Bool}
theorem c_innU (hp:mJ (.un o a) 0=p)(h1:1≤o∧o≤17)(h2:1≤a.op∧a.op≤17):CB 189 [.agg [.int .i64 o,.int .i64 0,.str ByteArray.empty,.vec 1 (u3 a)],.int .i64 0] h (.bool p):=by subst hp;exact AW h1 h2
theorem c_inn0 {b:Ex}(hp:mJ (.bin o a b) 0=p)(h1:1≤o∧o≤17)(h2:1≤a.op∧a.op≤17):CB 189 [.agg [.int .i64 o,.int .i64 0,.str ByteArray.empty,.vec 2 (u3 a++u3 b)],.int .i64 0] h (.bool p):=by subst hp;exact M5 h1 h2
theorem c_inn1 {b:Ex}(hp:mJ (.bin o a b) 1=p)(h1:1≤o∧o≤17)(h2:1≤b.op∧b.op≤17):CB 189 [.agg [.int .i64 o,.int .i64 0,.str ByteArray.empty,.vec 2 (u3 a++u3 b)],.int .i64 1] h (.bool p):=by subst hp;exact vV h1 h2
attribute [local go_sem] j7 rd nM aI o6 bD cO l7 Int.natCast_nonneg Int.natCast_inj List.length_map wrap64 EL wrapU gC AP L4 S8 AQ A7 max2 mN mx6 mx3 B4 aH fG cS bG jR jS mZ eq_mk nA sO xX Nat.reduceMul
theorem c_signs (k:Int):CB 186 [.int .i64 k] h (.tup [.vec (sgS k).length (aD (sgS k)),.vec (sgO k).length (g7 (sgO k))]):=by
  refine .bz Tryz.f186 23 ?_;refine c18z ?_;refine .z ?_;refine u2z ?_ ?_
  ·intro e1 qe1;refine .z ?_;exact .ret (.ex (hf:=t36) (hq:=t126))
  intro e1 qe1;refine .z ?_;refine u2z ?_ ?_
  ·intro e2 qe2;refine c10z ?_;exact .ret (.ex (hf:=t36) (hq:=t126))
  intro e2 qe2;refine .z ?_;refine u2z ?_ ?_
  ·intro e3 qe3;refine c10z ?_;exact .ret (.ex (hf:=t36) (hq:=t126))
  intro e3 qe3;refine .c6 [4] ?_;refine .z ?_;refine u2z ?_ ?_
  ·intro e4 qe4;refine .z ?_;exact .ret (.ex (hf:=t36) (hq:=t126))
  intro e4 qe4;refine c4z ?_;refine .z ?_;exact .ret (.ex (hf:=t36) (hq:=t126))
theorem c_text1 (n:Int)(h0:0≤n)(h1:n<4611686018427387904):CB 182 [.agg (u3 (.leaf 1 n ByteArray.empty))] h (.str (cD (.leaf 1 n ByteArray.empty))):=by refine .bz Tryz.f182 95 ?_;refine c55z ?_;refine c61z ?_;refine c229z ?_;refine .T ?_;refine c16z ?_;refine .ca rfl rfl (c_num _ (by omega) (by omega)) ?_;refine .n ?_;exact .ret (.ex (hq:=by (rw[ED,if_neg (by omega)];rfl)))
theorem c_text2 (n:Int)(s:BA):CB 182 [.agg (u3 (.leaf 2 n s))] h (.str (cD (.leaf 2 n s))):=by refine .bz Tryz.f182 95 ?_;refine c55z ?_;refine c61z ?_;refine .sb ?_;refine .c6 [1,3] ?_;refine c11z ?_;refine c106z ?_;refine c254z ?_;exact .ret (.ex (hq:=by rfl))
theorem c_textU (o:Int)(a:Ex)(ho:o=3∨o=4)(hga:1≤a.op∧a.op≤17)(iha:∀(h:c7),CB 182 [.agg (u3 a)] h (.str (cD a)))(hsa:(cD a).size<1000000):CB 182 [.agg (u3 (.un o a))] h (.str (cD (.un o a))):=by
  refine .bz Tryz.f182 95 ?_;refine c55z ?_;refine c219z ?_;refine c93z ?_;refine c111z ?_;refine .ca rfl rfl (c_innU rfl (by omega) hga) ?_;refine .nil ?_;refine u2z ?_ ?_
  ·intro e1 qe1;refine c2z ?_;refine c232z ?_;refine .spl 32 rfl rfl (fun e2=>by exfalso;first | omega | (replace e2:=s10z e2;omega) | (simp at e2;omega) | (simp at e2;done)) (fun e2=>?_);try simp only[e2]
   have qe2:=fact e2;refine c156z ?_;refine .spl 39 rfl rfl (fun e3=>by exfalso;first | omega | (replace e3:=s10z e3;omega) | (simp at e3;omega) | (simp at e3;done)) (fun e3=>?_);try simp only[e3]
   have qe3:=fact e3;refine .F ?_;refine c74z ?_;refine u2z ?_ ?_
   ·intro e4 qe4;refine .z ?_;exact .ret (.ex (hq:=t174))
   intro e4 qe4;refine .z ?_;refine .spl 53 rfl rfl (fun e5=>?_) (fun e5=>by exfalso;first | omega | (replace e5:=s10z e5;omega) | (simp at e5;omega) | (simp at e5;done));try simp only[e5]
   have qe5:=fact e5;refine .T ?_;refine c187z ?_;exact .ret (.ex (hq:=t174))
  intro e1 qe1;refine .sk ?_;refine c232z ?_;refine .spl 32 rfl rfl (fun e6=>by exfalso;first | omega | (replace e6:=s10z e6;omega) | (simp at e6;omega) | (simp at e6;done)) (fun e6=>?_);try simp only[e6]
  have qe6:=fact e6;refine c156z ?_;refine .spl 39 rfl rfl (fun e7=>by exfalso;first | omega | (replace e7:=s10z e7;omega) | (simp at e7;omega) | (simp at e7;done)) (fun e7=>?_);try simp only[e7]
  have qe7:=fact e7;refine .F ?_;refine c74z ?_;refine u2z ?_ ?_
  ·intro e8 qe8;refine .z ?_;exact .ret (.ex (hq:=t174))
  intro e8 qe8;refine .z ?_;refine .spl 53 rfl rfl (fun e9=>?_) (fun e9=>by exfalso;first | omega | (replace e9:=s10z e9;omega) | (simp at e9;omega) | (simp at e9;done));try simp only[e9]
  have qe9:=fact e9;refine .T ?_;refine c187z ?_;exact .ret (.ex (hq:=t174))
theorem JC (o:Int)(a b:Ex)(ho:5≤o∧o≤17)(hga:1≤a.op∧a.op≤17)(hgb:1≤b.op∧b.op≤17)(hp:mJ (.bin o a b) 0=true)(hq:mJ (.bin o a b) 1=true)(iha:∀(h:c7),CB 182 [.agg (u3 a)] h (.str (cD a)))(hsa:(cD a).size<1000000)(ihb:∀(h:c7),CB 182 [.agg (u3 b)] h (.str (cD b)))(hsb:(cD b).size<1000000):CB 182 [.agg (u3 (.bin o a b))] h (.str (cD (.bin o a b))):=by
  refine .bz Tryz.f182 95 ?_;have hst:=uD ho;have hsg:=RP hst.1 hst.2;have hsa2:=RQ ho;have hse:=(vL ho).2;refine c55z ?_;refine c240z ?_;refine c151z ?_;refine .nil ?_;refine .T ?_;refine c2z ?_;refine c98z ?_;refine c241z ?_;refine c152z ?_;refine .nil ?_;refine .T ?_;refine c2z ?_;refine c232z ?_;refine .spl 32 rfl rfl (fun e1=>by exfalso;first | omega | (replace e1:=s10z e1;omega) | (simp at e1;omega) | (simp at e1;done)) (fun e1=>?_);try simp only[e1]
  have qe1:=fact e1;refine c156z ?_;refine .spl 39 rfl rfl (fun e2=>by exfalso;first | omega | (replace e2:=s10z e2;omega) | (simp at e2;omega) | (simp at e2;done)) (fun e2=>?_);try simp only[e2]
  have qe2:=fact e2;refine .F ?_;refine c74z ?_;refine .spl 45 rfl rfl (fun e3=>by exfalso;first | omega | (replace e3:=s10z e3;omega) | (simp at e3;omega) | (simp at e3;done)) (fun e3=>?_);try simp only[e3]
  have qe3:=fact e3;refine c156z ?_;refine .spl 53 rfl rfl (fun e4=>by exfalso;first | omega | (replace e4:=s10z e4;omega) | (simp at e4;omega) | (simp at e4;done)) (fun e4=>?_);try simp only[e4]
  have qe4:=fact e4;refine c40z ?_;refine c207z ?_;refine .n ?_;refine c7z ?_;refine .w7 (fun m st=>∃(i:Nat),(m=(sgO (gX o)).length-i∧((∀d,d<i→(sgO (gX o)).getD d 0≠o)∧i≤(sgO (gX o)).length))∧st=⟨mkS 95 [(1,AV.ptr h.length 0 0),(3,AV.own (h.length+2) 1 0 2),(6,AV.vec (sgS (gX o)).length (aD (sgS (gX o)))),(7,AV.vec (sgO (gX o)).length (g7 (sgO (gX o)))),(8,AV.int .i64 ((i:Nat):Int))],h++[⟨0,false,49,4,[.int .i64 o,.int .i64 0,.str ByteArray.empty,.vec 2 (u3 a++u3 b)],0⟩,⟨0,false,9,1,[.str (⟨#[40]⟩++cD a++⟨#[41]⟩)],0⟩,⟨1,false,9,1,[.str (⟨#[40]⟩++cD a++⟨#[41]⟩),.str (⟨#[40]⟩++cD b++⟨#[41]⟩)],0⟩,⟨0,false,9,1,[.str (⟨#[40]⟩++cD b++⟨#[41]⟩)],0⟩]⟩) _ (.v ⟨0,⟨rfl,⟨t88,by omega⟩⟩,rfl⟩) ?_;rintro m sl h' ⟨i,⟨hm,⟨hI,hi⟩⟩,hst⟩;obtain ⟨rfl,rfl⟩:=St.mk.inj hst;refine c1z ?_;refine u2z ?_ ?_
  ·intro e5 qe5;refine c3z ?_;refine c133z ?_;refine u2z ?_ ?_
   ·intro e6 qe6;refine .c6 [3,6,8] ?_;have hsi:=hsa2 i (by omega) (by assumption);have hss:((sgS (gX o)).getD i ByteArray.empty).size≤2:=by rw[hsi];exact hse
    refine c75z ?_;exact .ret (.ex (hq:=t154))
   intro e6 qe6;refine c221z ?_;refine .rz ?_;exact ⟨_,by omega,.v ⟨(i+1),⟨rfl,⟨AY hI (by assumption),by omega⟩⟩,rfl⟩⟩
  intro e5 qe5;refine .exit ?_;exfalso;exact RR ho (fun d hd=>hI d (by omega))
theorem JD (o:Int)(a b:Ex)(ho:5≤o∧o≤17)(hga:1≤a.op∧a.op≤17)(hgb:1≤b.op∧b.op≤17)(hp:mJ (.bin o a b) 0=true)(hq:mJ (.bin o a b) 1=false)(iha:∀(h:c7),CB 182 [.agg (u3 a)] h (.str (cD a)))(hsa:(cD a).size<1000000)(ihb:∀(h:c7),CB 182 [.agg (u3 b)] h (.str (cD b)))(hsb:(cD b).size<1000000):CB 182 [.agg (u3 (.bin o a b))] h (.str (cD (.bin o a b))):=by
  refine .bz Tryz.f182 95 ?_;have hst:=uD ho;have hsg:=RP hst.1 hst.2;have hsa2:=RQ ho;have hse:=(vL ho).2;refine c55z ?_;refine c240z ?_;refine c151z ?_;refine .nil ?_;refine .T ?_;refine c2z ?_;refine c98z ?_;refine c241z ?_;refine c152z ?_;refine .nil ?_;refine c19z ?_;refine c232z ?_;refine .spl 32 rfl rfl (fun e1=>by exfalso;first | omega | (replace e1:=s10z e1;omega) | (simp at e1;omega) | (simp at e1;done)) (fun e1=>?_);try simp only[e1]
  have qe1:=fact e1;refine c156z ?_;refine .spl 39 rfl rfl (fun e2=>by exfalso;first | omega | (replace e2:=s10z e2;omega) | (simp at e2;omega) | (simp at e2;done)) (fun e2=>?_);try simp only[e2]
  have qe2:=fact e2;refine .F ?_;refine c74z ?_;refine .spl 45 rfl rfl (fun e3=>by exfalso;first | omega | (replace e3:=s10z e3;omega) | (simp at e3;omega) | (simp at e3;done)) (fun e3=>?_);try simp only[e3]
  have qe3:=fact e3;refine c156z ?_;refine .spl 53 rfl rfl (fun e4=>by exfalso;first | omega | (replace e4:=s10z e4;omega) | (simp at e4;omega) | (simp at e4;done)) (fun e4=>?_);try simp only[e4]
  have qe4:=fact e4;refine c40z ?_;refine c207z ?_;refine .n ?_;refine c7z ?_;refine .w7 (fun m st=>∃(i:Nat),(m=(sgO (gX o)).length-i∧((∀d,d<i→(sgO (gX o)).getD d 0≠o)∧i≤(sgO (gX o)).length))∧st=⟨mkS 95 [(1,AV.ptr h.length 0 0),(3,AV.own (h.length+2) 1 0 2),(6,AV.vec (sgS (gX o)).length (aD (sgS (gX o)))),(7,AV.vec (sgO (gX o)).length (g7 (sgO (gX o)))),(8,AV.int .i64 ((i:Nat):Int))],h++[⟨0,false,49,4,[.int .i64 o,.int .i64 0,.str ByteArray.empty,.vec 2 (u3 a++u3 b)],0⟩,⟨0,false,9,1,[.str (⟨#[40]⟩++cD a++⟨#[41]⟩)],0⟩,⟨1,false,9,1,[.str (⟨#[40]⟩++cD a++⟨#[41]⟩),.str (cD b)],0⟩,⟨0,false,9,1,[.str (cD b)],0⟩]⟩) _ (.v ⟨0,⟨rfl,⟨t88,by omega⟩⟩,rfl⟩) ?_;rintro m sl h' ⟨i,⟨hm,⟨hI,hi⟩⟩,hst⟩;obtain ⟨rfl,rfl⟩:=St.mk.inj hst;refine c1z ?_;refine u2z ?_ ?_
  ·intro e5 qe5;refine c3z ?_;refine c133z ?_;refine u2z ?_ ?_
   ·intro e6 qe6;refine .c6 [3,6,8] ?_;have hsi:=hsa2 i (by omega) (by assumption);have hss:((sgS (gX o)).getD i ByteArray.empty).size≤2:=by rw[hsi];exact hse
    refine c75z ?_;exact .ret (.ex (hq:=t154))
   intro e6 qe6;refine c221z ?_;refine .rz ?_;exact ⟨_,by omega,.v ⟨(i+1),⟨rfl,⟨AY hI (by assumption),by omega⟩⟩,rfl⟩⟩
  intro e5 qe5;refine .exit ?_;exfalso;exact RR ho (fun d hd=>hI d (by omega))
theorem JE (o:Int)(a b:Ex)(ho:5≤o∧o≤17)(hga:1≤a.op∧a.op≤17)(hgb:1≤b.op∧b.op≤17)(hp:mJ (.bin o a b) 0=false)(hq:mJ (.bin o a b) 1=true)(iha:∀(h:c7),CB 182 [.agg (u3 a)] h (.str (cD a)))(hsa:(cD a).size<1000000)(ihb:∀(h:c7),CB 182 [.agg (u3 b)] h (.str (cD b)))(hsb:(cD b).size<1000000):CB 182 [.agg (u3 (.bin o a b))] h (.str (cD (.bin o a b))):=by
  refine .bz Tryz.f182 95 ?_;have hst:=uD ho;have hsg:=RP hst.1 hst.2;have hsa2:=RQ ho;have hse:=(vL ho).2;refine c55z ?_;refine c240z ?_;refine c151z ?_;refine .nil ?_;refine c19z ?_;refine c98z ?_;refine c241z ?_;refine c152z ?_;refine .nil ?_;refine .T ?_;refine c2z ?_;refine c232z ?_;refine .spl 32 rfl rfl (fun e1=>by exfalso;first | omega | (replace e1:=s10z e1;omega) | (simp at e1;omega) | (simp at e1;done)) (fun e1=>?_);try simp only[e1]
  have qe1:=fact e1;refine c156z ?_;refine .spl 39 rfl rfl (fun e2=>by exfalso;first | omega | (replace e2:=s10z e2;omega) | (simp at e2;omega) | (simp at e2;done)) (fun e2=>?_);try simp only[e2]
  have qe2:=fact e2;refine .F ?_;refine c74z ?_;refine .spl 45 rfl rfl (fun e3=>by exfalso;first | omega | (replace e3:=s10z e3;omega) | (simp at e3;omega) | (simp at e3;done)) (fun e3=>?_);try simp only[e3]
  have qe3:=fact e3;refine c156z ?_;refine .spl 53 rfl rfl (fun e4=>by exfalso;first | omega | (replace e4:=s10z e4;omega) | (simp at e4;omega) | (simp at e4;done)) (fun e4=>?_);try simp only[e4]
  have qe4:=fact e4;refine c40z ?_;refine c207z ?_;refine .n ?_;refine c7z ?_;refine .w7 (fun m st=>∃(i:Nat),(m=(sgO (gX o)).length-i∧((∀d,d<i→(sgO (gX o)).getD d 0≠o)∧i≤(sgO (gX o)).length))∧st=⟨mkS 95 [(1,AV.ptr h.length 0 0),(3,AV.own (h.length+2) 1 0 2),(6,AV.vec (sgS (gX o)).length (aD (sgS (gX o)))),(7,AV.vec (sgO (gX o)).length (g7 (sgO (gX o)))),(8,AV.int .i64 ((i:Nat):Int))],h++[⟨0,false,49,4,[.int .i64 o,.int .i64 0,.str ByteArray.empty,.vec 2 (u3 a++u3 b)],0⟩,⟨0,false,9,1,[.str (cD a)],0⟩,⟨1,false,9,1,[.str (cD a),.str (⟨#[40]⟩++cD b++⟨#[41]⟩)],0⟩,⟨0,false,9,1,[.str (⟨#[40]⟩++cD b++⟨#[41]⟩)],0⟩]⟩) _ (.v ⟨0,⟨rfl,⟨t88,by omega⟩⟩,rfl⟩) ?_;rintro m sl h' ⟨i,⟨hm,⟨hI,hi⟩⟩,hst⟩;obtain ⟨rfl,rfl⟩:=St.mk.inj hst;refine c1z ?_;refine u2z ?_ ?_
  ·intro e5 qe5;refine c3z ?_;refine c133z ?_;refine u2z ?_ ?_
   ·intro e6 qe6;refine .c6 [3,6,8] ?_;have hsi:=hsa2 i (by omega) (by assumption);have hss:((sgS (gX o)).getD i ByteArray.empty).size≤2:=by rw[hsi];exact hse
    refine c75z ?_;exact .ret (.ex (hq:=t154))
   intro e6 qe6;refine c221z ?_;refine .rz ?_;exact ⟨_,by omega,.v ⟨(i+1),⟨rfl,⟨AY hI (by assumption),by omega⟩⟩,rfl⟩⟩
  intro e5 qe5;refine .exit ?_;exfalso;exact RR ho (fun d hd=>hI d (by omega))
theorem JF (o:Int)(a b:Ex)(ho:5≤o∧o≤17)(hga:1≤a.op∧a.op≤17)(hgb:1≤b.op∧b.op≤17)(hp:mJ (.bin o a b) 0=false)(hq:mJ (.bin o a b) 1=false)(iha:∀(h:c7),CB 182 [.agg (u3 a)] h (.str (cD a)))(hsa:(cD a).size<1000000)(ihb:∀(h:c7),CB 182 [.agg (u3 b)] h (.str (cD b)))(hsb:(cD b).size<1000000):CB 182 [.agg (u3 (.bin o a b))] h (.str (cD (.bin o a b))):=by
  refine .bz Tryz.f182 95 ?_;have hst:=uD ho;have hsg:=RP hst.1 hst.2;have hsa2:=RQ ho;have hse:=(vL ho).2;refine c55z ?_;refine c240z ?_;refine c151z ?_;refine .nil ?_;refine c19z ?_;refine c98z ?_;refine c241z ?_;refine c152z ?_;refine .nil ?_;refine c19z ?_;refine c232z ?_;refine .spl 32 rfl rfl (fun e1=>by exfalso;first | omega | (replace e1:=s10z e1;omega) | (simp at e1;omega) | (simp at e1;done)) (fun e1=>?_);try simp only[e1]
  have qe1:=fact e1;refine c156z ?_;refine .spl 39 rfl rfl (fun e2=>by exfalso;first | omega | (replace e2:=s10z e2;omega) | (simp at e2;omega) | (simp at e2;done)) (fun e2=>?_);try simp only[e2]
  have qe2:=fact e2;refine .F ?_;refine c74z ?_;refine .spl 45 rfl rfl (fun e3=>by exfalso;first | omega | (replace e3:=s10z e3;omega) | (simp at e3;omega) | (simp at e3;done)) (fun e3=>?_);try simp only[e3]
  have qe3:=fact e3;refine c156z ?_;refine .spl 53 rfl rfl (fun e4=>by exfalso;first | omega | (replace e4:=s10z e4;omega) | (simp at e4;omega) | (simp at e4;done)) (fun e4=>?_);try simp only[e4]
  have qe4:=fact e4;refine c40z ?_;refine c207z ?_;refine .n ?_;refine c7z ?_;refine .w7 (fun m st=>∃(i:Nat),(m=(sgO (gX o)).length-i∧((∀d,d<i→(sgO (gX o)).getD d 0≠o)∧i≤(sgO (gX o)).length))∧st=⟨mkS 95 [(1,AV.ptr h.length 0 0),(3,AV.own (h.length+2) 1 0 2),(6,AV.vec (sgS (gX o)).length (aD (sgS (gX o)))),(7,AV.vec (sgO (gX o)).length (g7 (sgO (gX o)))),(8,AV.int .i64 ((i:Nat):Int))],h++[⟨0,false,49,4,[.int .i64 o,.int .i64 0,.str ByteArray.empty,.vec 2 (u3 a++u3 b)],0⟩,⟨0,false,9,1,[.str (cD a)],0⟩,⟨1,false,9,1,[.str (cD a),.str (cD b)],0⟩,⟨0,false,9,1,[.str (cD b)],0⟩]⟩) _ (.v ⟨0,⟨rfl,⟨t88,by omega⟩⟩,rfl⟩) ?_;rintro m sl h' ⟨i,⟨hm,⟨hI,hi⟩⟩,hst⟩;obtain ⟨rfl,rfl⟩:=St.mk.inj hst;refine c1z ?_;refine u2z ?_ ?_
  ·intro e5 qe5;refine c3z ?_;refine c133z ?_;refine u2z ?_ ?_
   ·intro e6 qe6;refine .c6 [3,6,8] ?_;have hsi:=hsa2 i (by omega) (by assumption);have hss:((sgS (gX o)).getD i ByteArray.empty).size≤2:=by rw[hsi];exact hse
    refine c75z ?_;exact .ret (.ex (hq:=t154))
   intro e6 qe6;refine c221z ?_;refine .rz ?_;exact ⟨_,by omega,.v ⟨(i+1),⟨rfl,⟨AY hI (by assumption),by omega⟩⟩,rfl⟩⟩
  intro e5 qe5;refine .exit ?_;exfalso;exact RR ho (fun d hd=>hI d (by omega))
theorem c_textB (o:Int)(a b:Ex)(ho:5≤o∧o≤17)(hga:1≤a.op∧a.op≤17)(hgb:1≤b.op∧b.op≤17)(iha:∀(h:c7),CB 182 [.agg (u3 a)] h (.str (cD a)))(hsa:(cD a).size<1000000)(ihb:∀(h:c7),CB 182 [.agg (u3 b)] h (.str (cD b)))(hsb:(cD b).size<1000000):CB 182 [.agg (u3 (.bin o a b))] h (.str (cD (.bin o a b))):=by
  cases hp:mJ (.bin o a b) 0<;>cases hq:mJ (.bin o a b) 1
  · exact JF o a b ho hga hgb hp hq iha hsa ihb hsb
  · exact JE o a b ho hga hgb hp hq iha hsa ihb hsb
  · exact JD o a b ho hga hgb hp hq iha hsa ihb hsb
  · exact JC o a b ho hga hgb hp hq iha hsa ihb hsb
theorem T7:∀{d:Nat},d≤3→F6 d<1000000
  | 0,_=>by decide
  | 1,_=>by decide
  | 2,_=>by decide
  | 3,_=>by decide
theorem vX {vars:List BA}(hv:Names vars):∀{d:Nat} {e:Ex},d≤3→GE vars d e→∀(h:c7),CB 182 [.agg (u3 e)] h (.str (cD e))
  | d,.leaf o n s,hd,hg,h=>by
    rcases kH.1 hg with ⟨rfl,h1,h2,rfl⟩ | ⟨rfl,rfl,h1⟩
    · exact c_text1 n h1 h2
    · exact c_text2 0 s
  | 0,.un o a,hd,hg,h=>hg.elim
  | 0,.bin o a b,hd,hg,h=>hg.elim
  | d+1,.un o a,hd,hg,h=>c_textU o a hg.1 (GE.op hg.2) (vX hv (by omega) hg.2) (Nat.lt_of_le_of_lt (cH hv hg.2).2 (T7 (by omega)))
  | d+1,.bin o a b,hd,hg,h=>c_textB o a b hg.1 (GE.op hg.2.1) (GE.op hg.2.2) (vX hv (by omega) hg.2.1) (Nat.lt_of_le_of_lt (cH hv hg.2.1).2 (T7 (by omega))) (vX hv (by omega) hg.2.2) (Nat.lt_of_le_of_lt (cH hv hg.2.2).2 (T7 (by omega)))
theorem JG {e:Ex}:n9 [e]=u3 e:=by simp[n9]
theorem JH (x:BA):CB 184 [.agg [.str x,.vec 0 []]] h (.str x):=by refine .bz Tryz.f184 19 ?_;refine c89z ?_;refine .T ?_;refine .z ?_;exact .ret (.ex (hq:=by rfl))
variable {vars:List BA}
theorem c_refT1 (hv:Names vars)(x:BA)(e:Ex)(hg:GE vars 1 e)(hx:x.size≤16):CB 184 [.agg [.str x,.vec 1 (u3 e)]] h (.str (x++OK++cD e++OL)):=by refine .bz Tryz.f184 19 ?_;have hse:=(cH hv hg).2;have hb:F6 1=48:=rfl;refine c89z ?_;refine c19z ?_;refine .ss u6 (mkP 11 [0,1,3,0,8,24,56,120,255,511,1023] []) ?_;refine .k 7 [] ?_;refine .ca rfl rfl (vX hv (by omega) hg _) ?_;refine .n [] ?_;exact .ret (.ex (hq:=by rfl))
variable {E:Env}
theorem AZ (hE:tS E)(hv:Names vars){r:Rf}(g:GR E vars r):CB 184 [.agg (AF r)] h (.str (OM r)):=by
  obtain ⟨x,idx⟩:=r;rcases g with ⟨m,hm,hn,⟨_,e,hi,he⟩ | ⟨_,hi⟩⟩ | ⟨p,hp,_,hn,hi⟩
  · have hx:=z1 (hE.mn m hm)
    simp only at hn hi;rw[←hn]at hx;subst hi;have:=c_refT1 (h:=h) hv x e he hx;simp only[AF,List.length_singleton,JG];exact this
  · simp only at hi
    subst hi;exact JH x
  · simp only at hi
    subst hi;exact JH x
variable {xs:List Ar}
theorem RS (h:(xs.getD i dU).mu=true)(h0:0<i):eY xs (i+1)=eY xs i++mK++bL++OM (xs.getD i dU).r:=by rw[eY,if_pos h,if_pos h0]
theorem RT (h:(xs.getD i dU).mu=true)(h0:¬0<i):eY xs (i+1)=eY xs i++bL++OM (xs.getD i dU).r:=by rw[eY,if_pos h,if_neg h0]
theorem RU (h:(xs.getD i dU).mu=false)(h0:0<i):eY xs (i+1)=eY xs i++mK++cD (xs.getD i dU).e:=by rw[eY,if_neg t207,if_pos h0]
theorem RV (h:(xs.getD i dU).mu=false)(h0:¬0<i):eY xs (i+1)=eY xs i++cD (xs.getD i dU).e:=by rw[eY,if_neg t207,if_neg h0]
theorem vY {a:Ar}:FK a=[.bool a.mu,.str a.r.name,.vec a.r.idx.length (n9 a.r.idx),.int .i64 a.e.op,.int .i64 a.e.num,.str a.e.name,.vec a.e.args.length (n9 a.e.args)]:=by rw[FK,bK]
variable {l:List Ar}
theorem RW (h:i<l.length):List.take 1 (List.drop (i*7) (bE l))=[AV.bool (l.getD i dU).mu]:=by have:=congrArg (fun x=>x.take 1) (vI h);simp only[List.take_take,vY]at this;simpa using this
theorem read_ar (h:i<l.length):List.take 2 (List.drop (i*7+1) (bE l))=AF (l.getD i dU).r:=by have:=congrArg (fun x=>(x.drop 1).take 2) (vI h);simp only[vY,List.drop_take,List.take_take,List.drop_drop]at this;simpa [AF] using this
theorem read_ae (h:i<l.length):List.take 4 (List.drop (i*7+3) (bE l))=u3 (l.getD i dU).e:=by have:=congrArg (fun x=>(x.drop 3).take 4) (vI h);simp only[vY,List.drop_take,List.take_take,List.drop_drop]at this;rw[bK];simpa using this
theorem EN (hE:tS E)(hv:Names vars)(h:∀a∈xs,(a.mu=true∧GR E vars a.r)∨(a.mu=false∧GE vars 2 a.e))(i:Nat)(hi:i≤xs.length):(eY xs i).size≤1+112*i:=(A3 hE hv h i hi).2.1
theorem XB (h:∀a∈xs,(a.mu=true∧GR E vars a.r)∨(a.mu=false∧GE vars 2 a.e))(hi:i<xs.length):((xs.getD i dU).mu=true→GR E vars (xs.getD i dU).r)∧((xs.getD i dU).mu=false→GE vars 2 (xs.getD i dU).e):=by
  have hm:=h _ (g8 (d:=dU) hi);rcases hm with ⟨h1,h2⟩ | ⟨h1,h2⟩
  · exact ⟨fun _=>h2,fun h=>absurd (h1.symm.trans h) (by decide)⟩
  · exact ⟨fun h=>absurd (h1.symm.trans h) (by decide),fun _=>h2⟩
section
attribute [local go_sem] RW read_ar read_ae
theorem JI (hE:tS E)(hv:Names vars)(xs:List Ar)(ha:∀a∈xs,(a.mu=true∧GR E vars a.r)∨(a.mu=false∧GE vars 2 a.e))(hl:xs.length≤100):CB 183 [.vec xs.length (bE xs)] h (.str (WJ xs)):=by
  refine .bz Tryz.f183 39 ?_;refine c55z ?_;refine .w7 (fun m st=>∃(i:Nat),(m=xs.length-i∧i≤xs.length)∧st=⟨mkS 39 [(0,AV.vec xs.length (bE xs)),(3,AV.str (eY xs i)),(4,AV.int .i64 ((i:Nat):Int))],h⟩) _ (.v ⟨0,⟨rfl,by omega⟩,rfl⟩ (hs:=t30)) ?_;rintro m sl h' ⟨i,⟨hm,hi⟩,hst⟩;obtain ⟨rfl,rfl⟩:=St.mk.inj hst;have hsz:=EN hE hv ha i hi;refine c1z ?_;refine u2z ?_ ?_
  ·intro e1 qe1;refine c3z ?_;refine c1z ?_;refine u2z ?_ ?_
   ·intro e2 qe2;refine c2z ?_;refine .c6 [0,3,4] ?_;have har:=XB ha (i:=i) (by omega);refine .z ?_;refine u2z ?_ ?_
    ·intro e3 qe3;have hrs:=((har.1 (by assumption)).pw hE hv).2;refine .r ?_;refine .e 7 ?_;refine .ca rfl rfl (AZ hE hv (har.1 (by assumption))) ?_;refine c249z ?_;refine .rz ?_;exact ⟨_,by omega,.v ⟨(i+1),⟨rfl,by omega⟩,rfl⟩ (hs:=t30)⟩
    intro e3 qe3;have hes:=(cH hv (har.2 (by assumption))).2;have hb:F6 2=104:=rfl;refine c237z ?_;refine .ca rfl rfl (vX hv (by omega) (har.2 (by assumption)) _) ?_;refine c249z ?_;refine .rz ?_;exact ⟨_,by omega,.v ⟨(i+1),⟨rfl,by omega⟩,rfl⟩ (hs:=t30)⟩
   intro e2 qe2;refine .sk ?_;have har:=XB ha (i:=i) (by omega);refine .z ?_;refine u2z ?_ ?_
   ·intro e4 qe4;refine .c6 [0,3,4] ?_;have hrs:=((har.1 (by assumption)).pw hE hv).2;refine .r ?_;refine .e 7 ?_;refine .ca rfl rfl (AZ hE hv (har.1 (by assumption))) ?_;refine c249z ?_;refine .rz ?_;exact ⟨_,by omega,.v ⟨(i+1),⟨rfl,by omega⟩,rfl⟩ (hs:=t30)⟩
   intro e4 qe4;refine .c6 [0,3,4] ?_;have hes:=(cH hv (har.2 (by assumption))).2;have hb:F6 2=104:=rfl;refine c237z ?_;refine .ca rfl rfl (vX hv (by omega) (har.2 (by assumption)) _) ?_;refine c249z ?_;refine .rz ?_;exact ⟨_,by omega,.v ⟨(i+1),⟨rfl,by omega⟩,rfl⟩ (hs:=t30)⟩
  intro e1 qe1;refine .exit ?_;obtain rfl:i=xs.length:=by omega
  change c9 ..;refine c27z ?_;exact ⟨[],_,(List.append_nil _).symm,t41,by rfl⟩
end
section
attribute [local go_sem] l6
theorem c_noE:CB 160 [.agg (u3 l6)] h (.bool true):=by refine .bz Tryz.f160 22 ?_;refine c68z ?_;refine .k 8 [(3,6)] ?_;refine .k 8 [(8,11),(13,16)] ?_;refine .m [(13,16)] ?_;exact .ret (.ex (hq:=by rfl))
end
theorem c_noR:CB 162 [.agg (AF n5)] h (.bool true):=by show CallA _ _ _ [.agg [.str ByteArray.empty,.vec 0 []]] _ _;refine .bz Tryz.f162 12 ?_;refine c68z ?_;refine .k 8 [(3,6)] ?_;refine .n ?_;exact .ret (.ex (hq:=by rfl))
theorem XC (x:BA)(hx:isName (L8 x))(hr:uA x=false):CB 161 [.agg [.str x,.vec 0 []]] h (.bool true):=by refine .bz Tryz.f161 25 ?_;refine c189z ?_;refine .ca rfl rfl (mY _ hx hr) ?_;refine .k 8 [(3,6),(8,11)] ?_;refine .k 8 [(8,11),(13,16)] ?_;refine .m [(3,6),(8,11)] ?_;exact .ret (.ex (hq:=by rfl))
theorem c_okR1 (hv:z8 vars)(x:BA)(hx:isName (L8 x))(hr:uA x=false)(e:Ex)(hg:GE vars 1 e):CB 161 [.agg [.str x,.vec 1 (u3 e)]] h (.bool true):=by refine .bz Tryz.f161 25 ?_;refine c189z ?_;refine .ca rfl rfl (mY _ hx hr) ?_;refine .k 8 [(3,6),(8,11)] ?_;refine .k 7 [(8,11),(13,16)] ?_;refine .ca rfl rfl (AX hv (by omega) e hg) ?_;refine .m [(3,6),(8,11)] ?_;exact .ret (.ex (hq:=by rfl))
structure GRes (E:Env):Prop where
  mn:∀m∈E.c4,uA m.name=false
  pn:∀p∈E.params,uA p.name=false
theorem RX (hE:tS E)(hR:GRes E)(hv:z8 vars){r:Rf}(g:GR E vars r):CB 161 [.agg (AF r)] h (.bool true):=by
  obtain ⟨x,idx⟩:=r;rcases g with ⟨m,hm,hn,⟨_,e,hi,he⟩ | ⟨_,hi⟩⟩ | ⟨p,hp,_,hn,hi⟩
  · have h1:=hE.mn m hm
    have h2:=hR.mn m hm;simp only at hn hi;rw[←hn]at h1 h2;subst hi;have:=c_okR1 (h:=h) hv x h1 h2 e he;simp only[AF,List.length_singleton,JG];exact this
  · have h1:=hE.mn m hm
    have h2:=hR.mn m hm;simp only at hn hi;rw[←hn]at h1 h2;subst hi;exact XC x h1 h2
  · have h1:=hE.pn p hp
    have h2:=hR.pn p hp;simp only at hn hi;rw[←hn]at h1 h2;subst hi;exact XC x h1 h2
end Go.Proofs.YtonbocmibeikmaaGreat
end
section
namespace Go.Un
open Go.Ab
theorem dG:∀s:Sl,s.len≤s.wt
 | .nil=>Nat.le_refl _
 | .cons k n e r as1 th el rest=>by have:=dG rest;simp only[Sl.len,Sl.wt];omega
section
variable {c:Core}{ps:List Pm}{blk:List BA→Int→Int→Int→Int→BR}{vs:List BA}{deep J l:Int}
theorem r_lock (h:(c5 c.L J 14).1<4):r8 c ps blk vs deep J l=(row 5 ByteArray.empty l6 (u5 c ps vs (c5 c.L J 14).2).1 [] .nil .nil,vs,(u5 c ps vs (c5 c.L J 14).2).2,l):=by unfold r8 jQ;rw[if_pos h]
theorem RY (h0:¬(c5 c.L J 14).1<4)(h:(c5 c.L J 14).1<7):r8 c ps blk vs deep J l=(row 6 ByteArray.empty l6 (u5 c ps vs (c5 c.L J 14).2).1 [] .nil .nil,vs,(u5 c ps vs (c5 c.L J 14).2).2,l):=by unfold r8 jQ;rw[if_neg h0,if_pos h]
theorem r_var (h:(c5 c.L J 14).1=7):r8 c ps blk vs deep J l=(row 1 (vnm l.toNat) (j0 c vs (c5 c.L J 14).2).1 n5 [] .nil .nil,vs++[vnm l.toNat],(j0 c vs (c5 c.L J 14).2).2,l):=by unfold r8 jQ;rw[if_neg (by omega),if_neg (by omega),if_pos h]
theorem RZ (h:(c5 c.L J 14).1=8)(h2:0<vs.length):r8 c ps blk vs deep J l=(row 2 (vs.getD (c5 c.L (c5 c.L J 14).2 vs.length).1.toNat ByteArray.empty) (j0 c vs (c5 c.L (c5 c.L J 14).2 vs.length).2).1 n5 [] .nil .nil,vs,(j0 c vs (c5 c.L (c5 c.L J 14).2 vs.length).2).2,l):=by unfold r8 jQ;rw[if_neg (by omega),if_neg (by omega),if_neg (by omega),if_pos ⟨h,h2⟩]
theorem r_call (h:(c5 c.L J 14).1=9):r8 c ps blk vs deep J l=(row 3 (c.fs.getD (c5 c.L (c5 c.L J 14).2 c.fs.length).1.toNat j4).name l6 n5 (z6 c ps vs (c.fs.getD (c5 c.L (c5 c.L J 14).2 c.fs.length).1.toNat j4).params (c5 c.L (c5 c.L J 14).2 c.fs.length).2).1 .nil .nil,vs,
   (z6 c ps vs (c.fs.getD (c5 c.L (c5 c.L J 14).2 c.fs.length).1.toNat j4).params (c5 c.L (c5 c.L J 14).2 c.fs.length).2).2,l):=by
 unfold r8 jQ;rw[if_neg (by omega),if_neg (by omega),if_neg (by omega),if_neg (by omega),if_pos (.inl h),if_neg (by omega)]
theorem r_go (h:(c5 c.L J 14).1=10):r8 c ps blk vs deep J l=(row 4 (c.fs.getD (c5 c.L (c5 c.L J 14).2 c.fs.length).1.toNat j4).name l6 n5 (z6 c ps vs (c.fs.getD (c5 c.L (c5 c.L J 14).2 c.fs.length).1.toNat j4).params (c5 c.L (c5 c.L J 14).2 c.fs.length).2).1 .nil .nil,vs,
   (z6 c ps vs (c.fs.getD (c5 c.L (c5 c.L J 14).2 c.fs.length).1.toNat j4).params (c5 c.L (c5 c.L J 14).2 c.fs.length).2).2,l):=by
 unfold r8 jQ;rw[if_neg (by omega),if_neg (by omega),if_neg (by omega),if_neg (by omega),if_pos (.inr h),if_pos h]
variable {b:BR}
theorem r_if (h:(c5 c.L J 14).1=11)(h2:0<deep){d:BR}(hb:blk vs (deep-1) 3 (j0 c vs (c5 c.L J 14).2).2 l=b)(h3:(c5 c.L b.2.1 2).1=1)(hd:blk vs (deep-1) 3 (c5 c.L b.2.1 2).2 b.2.2=d):r8 c ps blk vs deep J l=(row 7 ByteArray.empty (j0 c vs (c5 c.L J 14).2).1 n5 [] b.1 d.1,vs,d.2.1,d.2.2):=by unfold r8 jQ;rw[if_neg (by omega),if_neg (by omega),if_neg (by omega),if_neg (by omega),if_neg (by omega),if_pos ⟨h,h2⟩,hb];unfold ifK;rw[if_pos h3,hd]
theorem r_if2 (h:(c5 c.L J 14).1=11)(h2:0<deep)(hb:blk vs (deep-1) 3 (j0 c vs (c5 c.L J 14).2).2 l=b)(h3:¬(c5 c.L b.2.1 2).1=1):r8 c ps blk vs deep J l=(row 7 ByteArray.empty (j0 c vs (c5 c.L J 14).2).1 n5 [] b.1 .nil,vs,(c5 c.L b.2.1 2).2,b.2.2):=by unfold r8 jQ;rw[if_neg (by omega),if_neg (by omega),if_neg (by omega),if_neg (by omega),if_neg (by omega),if_pos ⟨h,h2⟩,hb];unfold ifK;rw[if_neg h3]
theorem r_while (h:(c5 c.L J 14).1=12)(h2:0<deep)(hb:blk vs (deep-1) 3 (j0 c vs (c5 c.L J 14).2).2 l=b):r8 c ps blk vs deep J l=(row 8 ByteArray.empty (j0 c vs (c5 c.L J 14).2).1 n5 [] b.1 .nil,vs,b.2.1,b.2.2):=by unfold r8 jQ;rw[if_neg (by omega),if_neg (by omega),if_neg (by omega),if_neg (by omega),if_neg (by omega),if_neg (by omega),if_pos ⟨h,h2⟩,hb]
theorem r_ret (h:(c5 c.L J 14).1=13)(h2:(c5 c.L (c5 c.L J 14).2 3).1=1):r8 c ps blk vs deep J l=(row 9 ByteArray.empty l6 n5 [] .nil .nil,vs,(c5 c.L (c5 c.L J 14).2 3).2,l):=by unfold r8 jQ;rw[if_neg (by omega),if_neg (by omega),if_neg (by omega),if_neg (by omega),if_neg (by omega),if_neg (by omega),if_neg (by omega),if_pos ⟨h,h2⟩]
theorem SA (h:(c5 c.L J 14).1=13)(h2:¬(c5 c.L (c5 c.L J 14).2 3).1=1)(hb:blk vs 0 2 (u5 c ps vs (c5 c.L (c5 c.L J 14).2 3).2).2 l=b):r8 c ps blk vs deep J l=prK vs (u5 c ps vs (c5 c.L (c5 c.L J 14).2 3).2).1 b:=by unfold r8 jQ;rw[if_neg (by omega),if_neg (by omega),if_neg (by omega),if_neg (by omega),if_neg (by omega),if_neg (by omega),if_neg (by omega),if_neg (by omega),if_pos h,hb]
theorem JJ (h7:7<(c5 c.L J 14).1)(h13:¬(c5 c.L J 14).1=13)(h8:(c5 c.L J 14).1=8→vs.length=0)(h9:¬(c5 c.L J 14).1=9)(h10:¬(c5 c.L J 14).1=10)(h11:(c5 c.L J 14).1=11→deep≤0)(h12:(c5 c.L J 14).1=12→deep≤0)(hb:blk vs 0 2 (u5 c ps vs (c5 c.L J 14).2).2 l=b):r8 c ps blk vs deep J l=prK vs (u5 c ps vs (c5 c.L J 14).2).1 b:=by unfold r8 jQ;rw[if_neg (by omega),if_neg (by omega),if_neg (by omega),if_neg (by omega),if_neg (by omega),if_neg (by omega),if_neg (by omega),if_neg (by omega),if_neg h13,hb]
end
variable {out:Sl}
theorem cU {c:Core}{ps:List Pm}{blk:List BA→Int→Int→Int→Int→BR}{n:Nat}{vs vs':List BA}{deep J l J' l':Int}{S:Sl}{R:BR}(h:iA c ps blk (n+1) vs deep out J l=R)(hl:0<l)(hr:r8 c ps blk vs deep J (l-1)=(S,vs',J',l')):iA c ps blk n vs' deep (out.app S) J' l'=R:=by rw[iA,if_neg (by omega),hr]at h;exact h
theorem BB {c:Core}{ps:List Pm}{blk:List BA→Int→Int→Int→Int→BR}{n:Nat}{vs:List BA}{deep J l:Int}{R:BR}(h:iA c ps blk n vs deep out J l=R)(hl:n=0∨l≤0):R=(out,J,l):=by
 rw[←h];cases n with
 | zero=>rfl
 | succ n=>rw[iA,if_pos (by omega)]
theorem bH {c:Core}(hc:OkC c){ps:List Pm}{fu:Nat}(hfu:fu≤23){all vs vs':List BA}{left0 deep J l J' l':Int}{out S:Sl}(h0:left0≤fu+1)(hd:0≤deep)(ho:OkB (EI c ps) c.L all left0 (deep.toNat+1) (out,J,l))(hv:∀x∈vs,x∈z4 out all)(hl:0<l)
  (hr:r8 c ps (g5 c ps fu) vs deep J (l-1)=(S,vs',J',l')):OkB (EI c ps) c.L all left0 (deep.toNat+1) (out.app S,J',l')∧l'≤l-1∧∀x∈vs',x∈z4 (out.app S) all:=by
 have hl2:=ho.ol;have hw:=ho.wt;have hdp:=ho.dep;simp only at hl2 hw hdp;obtain ⟨r1,r2,r3⟩:=AO hc (ps:=ps) (blk:=g5 c ps fu) (vars:=vs) (all:=z4 out all) (deep:=deep) (I:=J) (left:=l-1) ho.oi ⟨by omega,by omega⟩ hd hv (ho.fr.mono t95) fun d most I all' l' a1 a2 a3 a4 a5 a6 a7=>iO hc fu vs d most I all' l' a1 a2 a3 a4 (by omega) (by omega) a6 a7;rw[hr]at r1 r2 r3;have q1:=r1.ol;have q2:=r1.wt;have q3:=r1.dep;simp only at q1 q2 q3 r2 r3;refine ⟨⟨r1.oi,⟨q1.1,t95⟩,GS.app.2 ⟨ho.gs,r1.gs⟩,?_,?_,?_⟩,r2,?_⟩
 ·simp only[gB];exact r1.fr
 ·simp only[Sl.K3];omega
 ·simp only[A6];omega
 ·rw[gB];exact r3
def Hc (l:List Mx):Prop:=∀j,j<l.length→(l.getD j w3).name=mnm j∧0≤(l.getD j w3).size∧(l.getD j w3).size≤3∧((l.getD j w3).re=true→(l.getD j w3).size=0)
def He (l:List Gl):Prop:=∀j,j<l.length→(l.getD j mD).name=gnm j ∧ -10≤(l.getD j mD).init∧(l.getD j mD).init≤10
def SB (N n:Nat)(l:List Pm):Prop:=(n=N∧l=[])∨(N=1∧n=0∧l.map (·.name)=[pnm 1])∨(N=2∧n=1∧l.map (·.name)=[pnm 2])∨(N=2∧n=0∧l.map (·.name)=[pnm 2,pnm 1])
def SD (l:List Fu):Prop:=∀j,j<l.length→(l.getD j j4).name=fnm j∧(j=0→(l.getD j j4).params=[])∧
  ((l.getD j j4).params.map (·.name)=[]∨(l.getD j j4).params.map (·.name)=[pnm 1]∨(l.getD j j4).params.map (·.name)=[pnm 2,pnm 1])
variable {j:Nat}
theorem vZ {α:Type}{l:List α}{x d:α}(h:j<(l++[x]).length):(j<l.length∧(l++[x]).getD j d=l.getD j d)∨(j=l.length∧(l++[x]).getD j d=x):=by
 simp at h;by_cases hj:j<l.length
 ·exact .inl ⟨hj,by simp[List.getD,List.getElem?_append_left hj]⟩
 ·obtain rfl:j=l.length:=by omega
  exact .inr ⟨rfl,by simp[List.getD]⟩
theorem Hc.snoc {l:List Mx}(h:Hc l){m:Mx}(h1:m.name=mnm l.length)(h2:0≤m.size∧m.size≤3)(h3:m.re=true→m.size=0):Hc (l++[m]):=fun j hj=>by
 rcases vZ (d:=w3) hj with ⟨q,e⟩ | ⟨rfl,e⟩
 ·rw[e];exact h j q
 ·rw[e];exact ⟨h1,h2.1,h2.2,h3⟩
theorem He.snoc {l:List Gl}(h:He l){m:Gl}(h1:m.name=gnm l.length)(h2:-10≤m.init∧m.init≤10):He (l++[m]):=fun j hj=>by
 rcases vZ (d:=mD) hj with ⟨q,e⟩ | ⟨rfl,e⟩
 ·rw[e];exact h j q
 ·rw[e];exact ⟨h1,h2⟩
theorem SD.snoc {l:List Fu}(h:SD l){f:Fu}(h1:f.name=fnm l.length)(h2:l.length=0→f.params=[])(h3:f.params.map (·.name)=[]∨f.params.map (·.name)=[pnm 1]∨f.params.map (·.name)=[pnm 2,pnm 1]):SD (l++[f]):=fun j hj=>by
 rcases vZ (d:=j4) hj with ⟨q,e⟩ | ⟨rfl,e⟩
 ·rw[e];exact h j q
 ·rw[e];exact ⟨h1,h2,h3⟩
variable {N n:Nat}{l:List Pm}
theorem SB.step (h:SB N n l)(hn:0<n)(hN:N≤2){p:Pm}(hp:p.name=pnm n):SB N (n-1) (l++[p]):=by
 rcases h with ⟨rfl,rfl⟩ | ⟨_,h,_⟩ | ⟨rfl,rfl,h⟩ | ⟨_,h,_⟩
 ·have:n=1∨n=2:=by omega
  rcases this with rfl | rfl
  ·exact .inr (.inl ⟨rfl,rfl,by simp[hp]⟩)
  ·exact .inr (.inr (.inl ⟨rfl,rfl,by simp[hp]⟩))
 ·omega
 ·exact .inr (.inr (.inr ⟨rfl,rfl,by simp[h,hp]⟩))
 ·omega
theorem SB.fin (h:SB N n l)(hn:n=0∨l=[])(hN:N≤2):l.map (·.name)=[]∨l.map (·.name)=[pnm 1]∨l.map (·.name)=[pnm 2,pnm 1]:=by
 rcases h with ⟨rfl,rfl⟩ | ⟨_,_,h⟩ | ⟨_,h1,h⟩ | ⟨_,_,h⟩
 ·exact .inl rfl
 ·exact .inr (.inl h)
 ·rcases hn with hn | hn
  ·omega
  ·subst hn;exact .inl rfl
 ·exact .inr (.inr h)
theorem SB.len (h:SB N n l):l.length≤2:=by
 have:l.length=(l.map (·.name)).length:=by simp
 rcases h with ⟨rfl,rfl⟩ | ⟨_,_,h⟩ | ⟨_,_,h⟩ | ⟨_,_,h⟩
 ·simp
 all_goals rw[this,h];simp
def cV (l:List Pm):List BA:=(l.filter fun x=>! x.mu).map (·.name)
theorem M6 (h:j<l.length):cV (l.take (j+1))=cV (l.take j)++(if (l.getD j iM).mu then [] else [(l.getD j iM).name]):=by unfold cV;rw[List.take_add_one,List.filter_append,List.map_append];congr 1;simp only[List.getD_eq_getElem?_getD,List.getElem?_eq_getElem h,Option.toList_some,Option.getD_some,List.filter_cons,List.filter_nil];cases l[j].mu<;>rfl
def setBody (fs:List Fu)(i:Nat)(B:Sl):List Fu:=fs.set i { fs.getD i j4 with body:=B }
def oE (fs:List Fu):List (BA×List Pm):=fs.map fun f=>(f.name,f.params)
variable {fs:List Fu}{i:Nat}{B:Sl}
theorem lR:(setBody fs i B).length=fs.length:=by simp[setBody]
theorem lS (h:i<fs.length):(setBody fs i B).getD j j4=if j=i then { fs.getD i j4 with body:=B } else fs.getD j j4:=by
 unfold setBody;by_cases e:j=i
 ·subst e;simp[List.getD,h]
 ·rw[if_neg e];simp[List.getD,List.getElem?_set_ne (Ne.symm e)]
theorem qJ (h:i<fs.length):oE (setBody fs i B)=oE fs:=by
 refine List.ext_getElem (by simp[oE,setBody]) fun j h1 h2=>?_;have hj:j<fs.length:=by simpa [oE] using h2
 have e:=lS (j:=j) (B:=B) h;have e1:(setBody fs i B).getD j j4=(setBody fs i B)[j]'(by rw[lR];exact hj):=by simp[List.getD,lR,hj]
 have e2:fs.getD j j4=fs[j]:=by simp[List.getD,hj]
 simp only[oE,List.getElem_map];rw[←e1,←e2,e];split
 ·rename_i q;subst q;rfl
 ·rfl
theorem SD.oE {l l':List Fu}(h:SD l)(e:oE l'=oE l):SD l':=fun j hj=>by
 have hl:l'.length=l.length:=by have:=congrArg List.length e;simpa [Un.oE] using this
 have e1:∀(m:List Fu),j<m.length→(Un.oE m).getD j (ByteArray.empty,[])=((m.getD j j4).name,(m.getD j j4).params):=fun m hm=>by simp[Un.oE,List.getD,hm]
 have h1:=e1 l' hj;have h2:=e1 l (by omega);rw[e,h2]at h1;injection h1 with h3 h4;have:=h j (by omega);rw[h3,h4]at this;exact this
structure Oy (gs:List Gl)(ms:List Mx)(fs:List Fu)(i:Nat)(left:Int):Prop where
 body:∀j,j<i→GS ⟨gs.map (·.name),ms,oE fs,(fs.getD j j4).params⟩ (fs.getD j j4).body (gs.map (·.name)++cV (fs.getD j j4).params)∧(fs.getD j j4).body.dep≤3
 wt:tA fs i≤2*(24-left).toNat
 ol:0≤left∧left≤24
theorem yB {l l':List Fu}:∀i,(∀j,j<i→(l.getD j j4).body=(l'.getD j j4).body)→tA l i=tA l' i
 | 0,_=>rfl
 | i+1,h=>by rw[tA,tA,yB i fun j hj=>h j (by omega),h i (by omega)]
theorem Oy.step {gs:List Gl}{ms:List Mx}{fs:List Fu}{i:Nat}{left left':Int}{L:List Int}{B:Sl}{I':Int}(h:Oy gs ms fs i left)(hi:i<fs.length)
  (hb:OkB ⟨gs.map (·.name),ms,oE fs,(fs.getD i j4).params⟩ L (gs.map (·.name)++cV (fs.getD i j4).params) left 3 (B,I',left')):Oy gs ms (setBody fs i B) (i+1) left':=by
 have hol:=hb.ol;have hwt:=hb.wt;have h1:=h.ol;have h2:=h.wt;simp only at hol hwt;refine ⟨fun j hj=>?_,?_,by omega⟩
 ·rw[qJ hi,lS hi];by_cases e:j=i
  ·subst e;rw[if_pos rfl];exact ⟨hb.gs,hb.dep⟩
  ·rw[if_neg e];exact h.body j (by omega)
 ·have e1:tA (setBody fs i B) i=tA fs i:=yB i fun j hj=>by rw[lS hi,if_neg (by omega)]
  rw[tA,e1,lS hi,if_pos rfl];simp only;omega
variable {gs:List Gl}
theorem prog_ok {ms:List Mx}{left:Int}(hg:He gs)(hgl:gs.length≤2)(hm:Hc ms)(hml:1≤ms.length∧ms.length≤4)(hf:SD fs)(hfl:1≤fs.length∧fs.length≤4)(hb:Oy gs ms fs fs.length left):GP ⟨gs,ms,fs⟩:=by have hw:=hb.wt;have hl:=hb.ol;refine ⟨⟨hgl,hg,hml,hm,hfl,hf⟩,fun i hi=>?_,by show tA fs fs.length≤48;omega⟩;exact hb.body i hi
theorem EO {ps:List Pm}(hg:He gs)(hgl:gs.length≤2)(hp:ps.map (·.name)=[]∨ps.map (·.name)=[pnm 1]∨ps.map (·.name)=[pnm 2,pnm 1]):Fr 24 (gs.map (·.name)++cV ps):=by
 intro j hj hm;refine K8 j hj ?_;rcases List.mem_append.1 hm with hm | hm
 ·obtain ⟨g,hg1,hg2⟩:=List.mem_map.1 hm;obtain ⟨k,hk,rfl⟩:=bV (d:=mD) hg1;rw[←hg2,(hg k hk).1];exact List.mem_append.2 (.inl (List.mem_map.2 ⟨k,List.mem_range.2 (by omega),rfl⟩))
 ·obtain ⟨p,hp1,hp2⟩:=List.mem_map.1 hm;have hp3:p.name∈ps.map (·.name):=List.mem_map.2 ⟨p,(List.mem_filter.1 hp1).1,rfl⟩;rw[hp2]at hp3;refine List.mem_append.2 (.inr (List.mem_append.2 (.inr (List.mem_append.2 (.inr ?_)))));rcases hp with e | e | e
  ·rw[e]at hp3;simp at hp3
  ·rw[e]at hp3;simp at hp3;rw[hp3];simp
  ·rw[e]at hp3;simpa using hp3
theorem okC_of {L:List Int}{ms:List Mx}{gF:Nat}{ar:Bool}(hm:Hc ms)(hml:1≤ms.length∧ms.length≤4)(hf:SD fs)(hfl:1≤fs.length∧fs.length≤4):OkC ⟨L,gs,ms,fs,gF,ar⟩:=by
 refine ⟨hml,fun i hi=>⟨(hm i hi).2.1,(hm i hi).2.2.1⟩,hfl,fun f hff=>?_⟩;obtain ⟨k,hk,rfl⟩:=bV (d:=j4) hff;have h1:=(hf k hk).2.2;have h2:(fs.getD k j4).params.length=((fs.getD k j4).params.map (·.name)).length:=by simp
 rw[h2];rcases h1 with e | e | e<;>rw[e]<;>simp
end Go.Un
end
section
namespace Go.Proofs.YtonbocmibeikmaaGreat
open Go.Ab Go.Un
theorem wB {s:BA}:uA s=WR.any fun x=>L8 x==L8 s:=by simp only[uA,hasB,ByteArray.toList_eq];rfl
theorem JK:∀j,j<24→uA (vnm j)=false:=by
  intro j hj;rw[wB];have key:∀j,j<24→(WR.any fun x=>L8 x==L8 (vnm j))=false:=by decide
  exact key j hj
theorem JL:∀j,j<2→uA (gnm j)=false:=by
  intro j hj;rw[wB];have key:∀j,j<2→(WR.any fun x=>L8 x==L8 (gnm j))=false:=by decide
  exact key j hj
theorem JM:∀j,j<4→uA (mnm j)=false:=by
  intro j hj;rw[wB];have key:∀j,j<4→(WR.any fun x=>L8 x==L8 (mnm j))=false:=by decide
  exact key j hj
theorem JN:∀j,j<4→uA (fnm j)=false:=by
  intro j hj;rw[wB];have key:∀j,j<4→(WR.any fun x=>L8 x==L8 (fnm j))=false:=by decide
  exact key j hj
theorem T8:∀j,j<3→uA (pnm j)=false:=by
  intro j hj;rw[wB];have key:∀j,j<3→(WR.any fun x=>L8 x==L8 (pnm j))=false:=by decide
  exact key j hj
variable {pre th el rest:Sl}{k:Int}{n:BA}{e:Ex}{r:Rf}{xs:List Ar}
theorem B5:List.take 11 (List.drop (pre.len*11) (p5 (pre.app (.cons k n e r xs th el rest))))=[.int .i64 k,.str n,.int .i64 e.op,.int .i64 e.num,.str e.name,.vec e.args.length (n9 e.args),.str r.name,.vec r.idx.length (n9 r.idx),.vec xs.length (bE xs),.vec th.len (p5 th),.vec el.len (p5 el)]:=by rw[read_s rfl,rowS,bK];rfl
variable {h:c7}{vars:List BA}
theorem B6 (hv:z8 vars)(hg:GE vars 2 e):CB 182 [.agg [.int .i64 e.op,.int .i64 e.num,.str e.name,.vec e.args.length (n9 e.args)]] h (.str (cD e)):=by rw[←bK];exact vX hv.n (by omega) hg h
theorem B7 (hv:z8 vars)(hg:GE vars 2 e):CB 159 [.agg [.int .i64 e.op,.int .i64 e.num,.str e.name,.vec e.args.length (n9 e.args)]] h (.bool true):=by rw[←bK];exact AX hv (by omega) e hg
theorem z8.snoc (h:z8 vars){j:Nat}(hj:j<24):z8 (vars++[vnm j]):=by
  intro x hx;rcases List.mem_append.1 hx with hx | hx
  · exact h x hx
  · replace hx:=s8z hx
    subst hx;exact ⟨tT,JK j hj⟩
theorem T9 {pre:Sl}{k:Int}{n:BA}{e:Ex}{r:Rf}{xs:List Ar}{th el rest:Sl}:(pre.app (.cons k n e r xs th el rest)).wt=pre.wt+(1+th.wt+el.wt+rest.wt):=by rw[Sl.K3,Sl.wt]
theorem w9 {pre:Sl}{k:Int}{n:BA}{e:Ex}{r:Rf}{xs:List Ar}{th el rest:Sl}:(pre.app (.cons k n e r xs th el rest)).len=pre.len+(rest.len+1):=by rw[Go.Un.Sl.bZ,Go.Un.Sl.len]
theorem fJ {k:Int}{n:BA}{e:Ex}{r:Rf}{xs:List Ar}{th el rest:Sl}:(Sl.cons k n e r xs th el rest).dep=max (max th.dep el.dep+1) rest.dep:=rfl
theorem eL:pre.app (.cons k n e r xs th el rest)=(pre.app (.cons k n e r xs th el .nil)).app rest:=by rw[Sl.K2];rfl
theorem SE:(((pre.app (.cons k n e r xs th el .nil)).len:Nat):Int)=(pre.len:Int)+1:=by rw[Go.Un.Sl.bZ];simp[Go.Un.Sl.len]
theorem yC {tabs:BA}(h:Cl (L8 tabs) 0):Cl (L8 (tabs++hU)) 0:=aW h K7
attribute [local go_sem] nM aI o6 bD cO bF l7 Int.natCast_nonneg Int.natCast_inj List.length_map wrap64 EL mN B4 aH mZ eq_mk nA B5 Nat.reduceMul
theorem SF {E:Env}(hE:tS E)(S:Sl)(ih:∀S':Sl,S'.wt<S.wt→∀(vars:List BA) (tabs:BA),z8 vars→GS E S' vars→tabs.size+S'.dep≤10→Cl (L8 tabs) 0→∀h:c7,CB 164 [.vec S'.len (p5 S'),.str tabs] h (.str (mL S' tabs ByteArray.empty)))(vars:List BA)(tabs:BA)(hv0:z8 vars)(hG0:GS E S vars)(hd:tabs.size+S.dep≤10)(ht:Cl (L8 tabs) 0)(hw:S.wt≤1000):CB 164 [.vec S.len (p5 S),.str tabs] h (.str (mL S tabs ByteArray.empty)):=by
  refine .bz Tryz.f164 133 ?_;have hlw:=dG S;have hTs:=(kG hE S vars tabs ByteArray.empty 0 hv0.n hG0 hd ht Cl.nil).2;have hse:ByteArray.empty.size=0:=rfl;refine c55z ?_;refine .aB (fun m st=>∃(Z:Sl) (pre:Sl) (rst:Sl) (vs:List BA) (out:BA),(m=rst.len∧(Z=S∧S=pre.app rst∧GS E rst vs∧z8 vs∧mL rst tabs out=mL S tabs ByteArray.empty∧tabs.size+rst.dep≤10))∧st=⟨mkS 133 [(0,AV.vec (Go.Un.Sl.len Z) (p5 Z)),(1,AV.str tabs),(5,AV.str out),(6,AV.int .i64 ((pre.len:Nat):Int))],h⟩) (.v ⟨S,Sl.nil,S,vars,ByteArray.empty,⟨rfl,⟨rfl,rfl,hG0,hv0,rfl,hd⟩⟩,rfl⟩ (hs:=t10)) ?_;rintro m sl h' ⟨Z,pre,rst,vs,out,⟨hm,⟨hZ,hS,hG,hv,hT,hdp⟩⟩,hst⟩;obtain ⟨rfl,rfl⟩:=St.mk.inj hst;clear hst;subst hZ;have hlen:=congrArg Go.Un.Sl.len hS;rw[Go.Un.Sl.bZ]at hlen;have hos:out.size≤400000:=by have:=HY rst tabs out;rw[hT]at this;omega
  refine c1z ?_;refine u2z ?_ ?_
  ·intro e1 qe1;refine c3z ?_;obtain ⟨k,n,e,r,xs,th,el,rest,rfl⟩:=Go.Un.Sl.oV (s:=rst) (by omega);subst hS;have hwc:=@T9 pre k n e r xs th el rest;have hlc:=@w9 pre k n e r xs th el rest;have hdc:=@fJ k n e r xs th el rest;rcases hG with ⟨rfl,⟨j,hj,rfl⟩,hn,he,rfl,rfl,rfl,rfl,hr⟩ | ⟨rfl,hn,he,rfl,rfl,rfl,rfl,hr⟩ | ⟨rfl | rfl,⟨f,hf,rfl,ha⟩,rfl,rfl,rfl,rfl,hr⟩ | ⟨rfl | rfl,rfl,rfl,hR,rfl,rfl,rfl,hr⟩ | ⟨rfl,rfl,he,rfl,rfl,hth,hel,hr⟩ | ⟨rfl,rfl,he,rfl,rfl,hth,rfl,hr⟩ | ⟨rfl,rfl,rfl,rfl,rfl,rfl,rfl,hr⟩
   ·have hes:=(cH hv.n he).2;have hb:F6 2=104:=rfl;have hns:=z1 (tT (j:=j));refine c191z ?_;refine c106z ?_;refine .so u6 (mkP 12 [0,1,0,4,15,31,0,64,192,511,1023,2047] []) ?_;refine .k 8 [] ?_;refine .ca rfl rfl (B6 hv he) ?_;refine c242z ?_;refine c120z ?_;have hT2:=hT;simp only[mL,show ((1:Int)=2)=False from by simp,show ((1:Int)=3)=False from by simp,show ((1:Int)=4)=False from by simp,show ((1:Int)=5)=False from by simp,show ((1:Int)=6)=False from by simp,show ((1:Int)=7)=False from by simp,show ((1:Int)=8)=False from by simp,if_true,if_false,true_or,or_true,or_false,false_or,or_self]at hT2;exact ⟨_,by omega,.v ⟨_,(pre.app (.cons 1 (vnm j) e n5 [] .nil .nil .nil)),rest,(vs++[vnm j]),_,⟨rfl,⟨rfl,eL,hr,(hv.snoc hj),hT2,by omega⟩⟩,rfl⟩ (he:=by rfl) (hs:=t10)⟩
   ·have hes:=(cH hv.n he).2;have hb:F6 2=104:=rfl;have hns:=z1 (hv _ hn).1;refine c191z ?_;refine c11z ?_;refine c106z ?_;refine .c6 [0,1,5,6,7] ?_;refine .so u6 (mkP 11 [0,0,2,7,15,0,32,96,255,511,1023] []) ?_;refine .k 7 [] ?_;refine .ca rfl rfl (B6 hv he) ?_;refine c242z ?_;refine c120z ?_;have hT2:=hT;simp only[mL,show ((2:Int)=1)=False from by simp,show ((2:Int)=3)=False from by simp,show ((2:Int)=4)=False from by simp,show ((2:Int)=5)=False from by simp,show ((2:Int)=6)=False from by simp,show ((2:Int)=7)=False from by simp,show ((2:Int)=8)=False from by simp,if_true,if_false,true_or,or_true,or_false,false_or,or_self]at hT2;exact ⟨_,by omega,.v ⟨_,(pre.app (.cons 2 n e n5 [] .nil .nil .nil)),rest,vs,_,⟨rfl,⟨rfl,eL,hr,hv,hT2,by omega⟩⟩,rfl⟩ (he:=by rfl) (hs:=t10)⟩
   ·have hns:=z1 (hE.fn f hf);have has:=(S5 hE hv.n ha (hE.fp f hf)).2.1;have hxl:=(lM hE hv.n ha).1;have hfl:=hE.fp f hf;refine c208z ?_;refine c106z ?_;refine .so u6 (mkP 10 [0,0,2,7,0,16,48,127,255,511] []) ?_;refine .k 6 [] ?_;refine .ca rfl rfl (JI hE hv.n xs (lM hE hv.n ha).2 (by omega)) ?_;refine c242z ?_;refine c120z ?_;have hT2:=hT;simp only[mL,show ((3:Int)=1)=False from by simp,show ((3:Int)=2)=False from by simp,show ((3:Int)=4)=False from by simp,show ((3:Int)=5)=False from by simp,show ((3:Int)=6)=False from by simp,show ((3:Int)=7)=False from by simp,show ((3:Int)=8)=False from by simp,if_true,if_false,true_or,or_true,or_false,false_or,or_self]at hT2;exact ⟨_,by omega,.v ⟨_,(pre.app (.cons 3 f.1 l6 n5 xs .nil .nil .nil)),rest,vs,_,⟨rfl,⟨rfl,eL,hr,hv,hT2,by omega⟩⟩,rfl⟩ (he:=by rfl) (hs:=t10)⟩
   ·have hns:=z1 (hE.fn f hf);have has:=(S5 hE hv.n ha (hE.fp f hf)).2.1;have hxl:=(lM hE hv.n ha).1;have hfl:=hE.fp f hf;refine c208z ?_;refine c11z ?_;refine c106z ?_;refine .so u6 (mkP 11 [0,1,0,4,15,0,32,96,255,511,1023] []) ?_;refine .k 7 [] ?_;refine .ca rfl rfl (JI hE hv.n xs (lM hE hv.n ha).2 (by omega)) ?_;refine c242z ?_;refine c120z ?_;have hT2:=hT;simp only[mL,show ((4:Int)=1)=False from by simp,show ((4:Int)=2)=False from by simp,show ((4:Int)=3)=False from by simp,show ((4:Int)=5)=False from by simp,show ((4:Int)=6)=False from by simp,show ((4:Int)=7)=False from by simp,show ((4:Int)=8)=False from by simp,if_true,if_false,true_or,or_true,or_false,false_or,or_self]at hT2;exact ⟨_,by omega,.v ⟨_,(pre.app (.cons 4 f.1 l6 n5 xs .nil .nil .nil)),rest,vs,_,⟨rfl,⟨rfl,eL,hr,hv,hT2,by omega⟩⟩,rfl⟩ (he:=by rfl) (hs:=t10)⟩
   ·have hrs:=(hR.pw hE hv.n).2;refine c208z ?_;refine c70z ?_;refine c106z ?_;refine c147z ?_;refine .ca rfl rfl (AZ hE hv.n hR) ?_;refine c28z ?_;refine c120z ?_;have hT2:=hT;simp only[mL,show ((5:Int)=1)=False from by simp,show ((5:Int)=2)=False from by simp,show ((5:Int)=3)=False from by simp,show ((5:Int)=4)=False from by simp,show ((5:Int)=6)=False from by simp,show ((5:Int)=7)=False from by simp,show ((5:Int)=8)=False from by simp,if_true,if_false,true_or,or_true,or_false,false_or,or_self]at hT2;exact ⟨_,by omega,.v ⟨_,(pre.app (.cons 5 ByteArray.empty l6 r [] .nil .nil .nil)),rest,vs,_,⟨rfl,⟨rfl,eL,hr,hv,hT2,by omega⟩⟩,rfl⟩ (he:=by rfl) (hs:=t10)⟩
   ·have hrs:=(hR.pw hE hv.n).2;refine c208z ?_;refine c70z ?_;refine c11z ?_;refine c106z ?_;refine .c6 [0,1,5,6,7] ?_;refine c147z ?_;refine .ca rfl rfl (AZ hE hv.n hR) ?_;refine c28z ?_;refine c120z ?_;have hT2:=hT;simp only[mL,show ((6:Int)=1)=False from by simp,show ((6:Int)=2)=False from by simp,show ((6:Int)=3)=False from by simp,show ((6:Int)=4)=False from by simp,show ((6:Int)=5)=False from by simp,show ((6:Int)=7)=False from by simp,show ((6:Int)=8)=False from by simp,if_true,if_false,true_or,or_true,or_false,false_or,or_self]at hT2;exact ⟨_,by omega,.v ⟨_,(pre.app (.cons 6 ByteArray.empty l6 r [] .nil .nil .nil)),rest,vs,_,⟨rfl,⟨rfl,eL,hr,hv,hT2,by omega⟩⟩,rfl⟩ (he:=by rfl) (hs:=t10)⟩
   ·have hes:=(cH hv.n he).2;have hb:F6 2=104:=rfl;have hts:(tabs++hU).size=tabs.size+1:=by rw[aH];rfl
    have hths:=(kG hE th vs (tabs++hU) ByteArray.empty 0 hv.n hth (by omega) (yC ht) Cl.nil).2;have hels:=(kG hE el vs (tabs++hU) ByteArray.empty 0 hv.n hel (by omega) (yC ht) Cl.nil).2;refine c208z ?_;refine c70z ?_;refine c70z ?_;refine .seq ?_;refine .c6 [0,1,5,6,7,23] ?_;refine c106z ?_;refine .sk ?_;refine .T ?_;refine c89z ?_;refine c19z ?_;refine .ss u6 (mkP 18 [0,0,3,0,8,24,63,127,0,256,0,1024,3896,8191,0,32767,65535,131071] []) ?_;refine .k 5 [] ?_;refine .ca rfl rfl (B6 hv he) ?_;refine .k 6 [] ?_;refine .ca rfl rfl (ih th (by omega) vs (tabs++hU) hv hth (by omega) (yC ht) _) ?_;refine .n [] ?_;refine .c6 [0,1,5,6,7] ?_;refine .z ?_;refine u2z ?_ ?_
    ·intro e2 qe2;refine c237z ?_;refine .ca rfl rfl (ih el (by omega) vs (tabs++hU) hv hel (by omega) (yC ht) _) ?_;refine c28z ?_;refine c120z ?_;have hT2:=hT;have hel0:0<el.len:=by omega
     simp only[mL,show ((7:Int)=1)=False from by simp,show ((7:Int)=2)=False from by simp,show ((7:Int)=3)=False from by simp,show ((7:Int)=4)=False from by simp,show ((7:Int)=5)=False from by simp,show ((7:Int)=6)=False from by simp,show ((7:Int)=8)=False from by simp,if_true,if_false,true_or,or_true,or_false,false_or,or_self,if_pos hel0]at hT2;exact ⟨_,by omega,.v ⟨_,(pre.app (.cons 7 ByteArray.empty e n5 [] th el .nil)),rest,vs,_,⟨rfl,⟨rfl,eL,hr,hv,hT2,by omega⟩⟩,rfl⟩ (he:=by rfl) (hs:=t10)⟩
    intro e2 qe2;refine c4z ?_;refine c60z ?_;have hT2:=hT;have hel0:¬0<el.len:=by omega
    simp only[mL,show ((7:Int)=1)=False from by simp,show ((7:Int)=2)=False from by simp,show ((7:Int)=3)=False from by simp,show ((7:Int)=4)=False from by simp,show ((7:Int)=5)=False from by simp,show ((7:Int)=6)=False from by simp,show ((7:Int)=8)=False from by simp,if_true,if_false,true_or,or_true,or_false,false_or,or_self,if_neg hel0]at hT2;exact ⟨_,by omega,.v ⟨_,(pre.app (.cons 7 ByteArray.empty e n5 [] th el .nil)),rest,vs,_,⟨rfl,⟨rfl,eL,hr,hv,hT2,by omega⟩⟩,rfl⟩ (he:=by rfl) (hs:=t10)⟩
   ·have hes:=(cH hv.n he).2;have hb:F6 2=104:=rfl;have hts:(tabs++hU).size=tabs.size+1:=by rw[aH];rfl
    have hths:=(kG hE th vs (tabs++hU) ByteArray.empty 0 hv.n hth (by omega) (yC ht) Cl.nil).2;refine c208z ?_;refine c70z ?_;refine c70z ?_;refine .seq ?_;refine .c6 [0,1,5,6,7,23] ?_;refine c11z ?_;refine c2z ?_;refine .T ?_;refine c89z ?_;refine .T ?_;refine .c6 [0,1,5,6,7] ?_;refine c2z ?_;refine .ss u6 (mkP 18 [0,0,3,0,8,24,63,127,0,256,0,1024,3896,8191,0,32767,65535,131071] []) ?_;refine .k 5 [] ?_;refine .ca rfl rfl (B6 hv he) ?_;refine .k 6 [] ?_;refine .ca rfl rfl (ih th (by omega) vs (tabs++hU) hv hth (by omega) (yC ht) _) ?_;refine .n [] ?_;refine .c6 [0,1,5,6,7] ?_;refine c11z ?_;refine c4z ?_;refine c60z ?_;have hT2:=hT;simp only[mL,show ((8:Int)=1)=False from by simp,show ((8:Int)=2)=False from by simp,show ((8:Int)=3)=False from by simp,show ((8:Int)=4)=False from by simp,show ((8:Int)=5)=False from by simp,show ((8:Int)=6)=False from by simp,show ((8:Int)=7)=False from by simp,if_true,if_false,true_or,or_true,or_false,false_or,or_self,Go.Un.Sl.len,Nat.lt_irrefl]at hT2;exact ⟨_,by omega,.v ⟨_,(pre.app (.cons 8 ByteArray.empty e n5 [] th .nil .nil)),rest,vs,_,⟨rfl,⟨rfl,eL,hr,hv,hT2,by omega⟩⟩,rfl⟩ (he:=by rfl) (hs:=t10)⟩
   ·skip;refine c208z ?_;refine c70z ?_;refine c70z ?_;refine .seq ?_;refine .c6 [0,1,5,6,7,23] ?_;refine c11z ?_;refine c2z ?_;refine c222z ?_;refine c2z ?_;refine c148z ?_;have hT2:=hT;simp only[mL,show ((9:Int)=1)=False from by simp,show ((9:Int)=2)=False from by simp,show ((9:Int)=3)=False from by simp,show ((9:Int)=4)=False from by simp,show ((9:Int)=5)=False from by simp,show ((9:Int)=6)=False from by simp,show ((9:Int)=7)=False from by simp,show ((9:Int)=8)=False from by simp,if_true,if_false,true_or,or_true,or_false,false_or,or_self]at hT2;exact ⟨_,by omega,.v ⟨_,(pre.app (.cons 9 ByteArray.empty l6 n5 [] .nil .nil .nil)),rest,vs,_,⟨rfl,⟨rfl,eL,hr,hv,hT2,by omega⟩⟩,rfl⟩ (he:=by rfl) (hs:=t10)⟩
  intro e1 qe1;refine .exit ?_;obtain rfl:=Go.Un.Sl.zX (show rst.len=0 by omega);rw[mL]at hT;change c9 ..;refine .z ?_;exact .ret (.ex (hq:=by (exact congrArg AV.str hT)))
theorem JO {E:Env}(hE:tS E):∀(n:Nat) (S:Sl),S.wt≤n→n≤1000→∀(vars:List BA) (tabs:BA),z8 vars→GS E S vars→tabs.size+S.dep≤10→Cl (L8 tabs) 0→∀h:c7,CB 164 [.vec S.len (p5 S),.str tabs] h (.str (mL S tabs ByteArray.empty))
  | n,S,hn,h1,vars,tabs,hv,hG,hd,ht,h=>by
    refine SF hE S (fun S' hS'=>?_) vars tabs hv hG hd ht (by omega);cases n with
    | zero=>omega
    | succ n=>exact JO hE n S' (by omega) (by omega)
end Go.Proofs.YtonbocmibeikmaaGreat
end
section
namespace Go.Proofs.YtonbocmibeikmaaGreat
open Go.Ab Go.Un
structure Frame where
  b0:Blk
  b1:Blk
  b2:Blk
  z:Blk
  m:Blk
  g:Blk
  rest:c7
def Frame.n (e:Frame):Nat:=e.rest.length+9
def hB (c:Core)(e:Frame)(I left:Int):c7:=
  e.b0::e.b1::e.b2::e.z::⟨0,false,118,2,[.vec c.L.length (g7 c.L),.int .i64 I],0⟩::
  ⟨0,false,129,6,[.ptr 4 0 0,.vec c.gs.length (q9 c.gs),.vec c.ms.length (g0 c.ms),.own 8 c.gF 0 c.fs.length,.int .i64 left,.bool c.ar],0⟩::
  e.m::e.g::⟨c.gF,false,136,3,o5 c.fs,0⟩::e.rest
section
variable {c:Core}{e:Frame}{I left k:Int}{l:c7}
theorem cE:(hB c e I left).length=e.n:=by simp[hB,Frame.n]
theorem hB_1:(hB c e I left)[4]?=some ⟨0,false,118,2,[.vec c.L.length (g7 c.L),.int .i64 I],0⟩:=rfl
theorem hB_2:(hB c e I left)[5]?=some ⟨0,false,129,6,[.ptr 4 0 0,.vec c.gs.length (q9 c.gs),.vec c.ms.length (g0 c.ms),.own 8 c.gF 0 c.fs.length,.int .i64 left,.bool c.ar],0⟩:=rfl
theorem hB_5:(hB c e I left)[8]?=some ⟨c.gF,false,136,3,o5 c.fs,0⟩:=rfl
theorem By:(hB c e I left++l)[4]?=some ⟨0,false,118,2,[.vec c.L.length (g7 c.L),.int .i64 I],0⟩:=rfl
theorem Bz:(hB c e I left++l)[5]?=some ⟨0,false,129,6,[.ptr 4 0 0,.vec c.gs.length (q9 c.gs),.vec c.ms.length (g0 c.ms),.own 8 c.gF 0 c.fs.length,.int .i64 left,.bool c.ar],0⟩:=rfl
theorem Ca:(hB c e I left++l)[8]?=some ⟨c.gF,false,136,3,o5 c.fs,0⟩:=rfl
theorem Cc:(hB c e I left++l).set 5 ⟨0,false,129,6,[.ptr 4 0 0,.vec c.gs.length (q9 c.gs),.vec c.ms.length (g0 c.ms),.own 8 c.gF 0 c.fs.length,.int .i64 k,.bool c.ar],0⟩=hB c e I k++l:=rfl
variable {j:Nat}
theorem fK:(hB c e I left++l)[e.n+j]?=l[j]?:=by rw[List.getElem?_append_right (by rw[cE];omega),cE,Nat.add_sub_cancel_left]
theorem B8:(hB c e I left++l)[e.n]?=l[0]?:=by rw[List.getElem?_append_right (by rw[cE];omega),cE,Nat.sub_self]
theorem fV {b:Blk}:(hB c e I left++l).set (e.n+j) b=hB c e I left++l.set j b:=by rw[List.set_append_right _ _ (by rw[cE];omega),cE,Nat.add_sub_cancel_left]
theorem U0 {b:Blk}:(hB c e I left++l).set e.n b=hB c e I left++l.set 0 b:=by rw[List.set_append_right _ _ (by rw[cE];omega),cE,Nat.sub_self]
variable {left':Int}
theorem iB {I':Int}:aE (hB c e I left) (hB c e I' left'):=by
  refine aE.of ⟨.inl rfl,.inl rfl,.inl rfl,.inl rfl,.inr (gZ.get ⟨.vec _ _,.int _ _,trivial⟩),.inr (gZ.get ⟨.ptr _ _ _ ?_,.vec _ _,.vec _ _,.own _ _ _ _ ?_,.int _ _,.bool _,trivial⟩),.inl rfl,.inl rfl,.inl rfl,oB.refl _ _⟩
  · rw[cE];unfold Frame.n;omega
  · rw[cE];unfold Frame.n;omega
theorem B9 {I':Int}{l':c7}(hk:oB (e.n+l'.length) l l'):aE (hB c e I left++l) (hB c e I' left'++l'):=
  iB.app (by rw[cE,cE]) (by rw[cE];exact hk)
end
theorem famB (c:Core)(e:Frame)(left:Int):aY 4 c.L e.n fun I=>hB c e I left:=⟨fun _=>rfl,fun _ _=>rfl,fun _=>cE⟩
theorem gD {c:Core}{e:Frame}{left:Int}(l:c7)(I n:Int)(hI:OkI c.L I)(hL:c.L.length<4611686018427387904)(hn:0<n)(hm:n≤4611686018427387904):CH 75 [.ptr 4 0 0,.int .i64 n] (hB c e I left++l) (.int .i64 (c5 c.L I n).1) (hB c e (c5 c.L I n).2 left++l):=mX (famB c e left) l I n hI hL hn hm
theorem U1 {c:Core}{e:Frame}{left:Int}(l:c7)(I v:Int)(hI:OkI c.L I)(hL:c.L.length<4611686018427387904)(names:List BA)(hN:names.length<1000)(hv:0≤v∧v<1000):CH 158 [.ptr 4 0 0,.vec names.length (aD names),.int .i64 v] (hB c e I left++l) (.agg (u3 (dM c.L names v.toNat I).1)) (hB c e (dM c.L names v.toNat I).2 left++l):=by have h:=WN hL names hN v.toNat (by omega) ((famB c e left).app l) I hI;rw[Int.toNat_of_nonneg hv.1]at h;exact h
variable {i:Nat}
theorem qK {l:List Mx}(h:i<l.length):List.take 1 (List.drop (i*3+2) (g0 l))=[AV.int .i64 (l.getD i w3).size]:=by have:=congrArg (fun x=>x.drop 2) (zY h);simp only[List.drop_take,List.drop_drop]at this;simpa using this
theorem SG {l:List Mx}(h:i<l.length):List.take 1 (List.drop (i*3) (g0 l))=[AV.str (l.getD i w3).name]:=by have:=congrArg (fun x=>x.take 1) (zY h);simp only[List.take_take]at this;simpa using this
theorem BC {l:List Pm}(h:i<l.length):List.take 1 (List.drop (i*2) (v9 l))=[AV.str (l.getD i iM).name]:=by have:=congrArg (fun x=>x.take 1) (HR h);simp only[List.take_take]at this;simpa using this
theorem lT {l:List Pm}(h:i<l.length):List.take 1 (List.drop (i*2+1) (v9 l))=[AV.bool (l.getD i iM).mu]:=by have:=congrArg (fun x=>x.drop 1) (HR h);simp only[List.drop_take,List.drop_drop]at this;simpa using this
variable {vars:List BA}{size:Int}
theorem idx_pos {c:Core}{I:Int}(h:c.ar=true)(h2:(c5 c.L I 3).1=1):gQ c vars size I=dM c.L vars 1 (c5 c.L I 3).2:=by rw[gQ,if_pos h,if_pos h2]
theorem idx_neg {c:Core}{I:Int}(h:c.ar=true)(h2:¬(c5 c.L I 3).1=1):gQ c vars size I=(.leaf 1 (c5 c.L (c5 c.L I 3).2 size).1 ByteArray.empty,(c5 c.L (c5 c.L I 3).2 size).2):=by rw[gQ,if_pos h,if_neg h2]
theorem idx_no {c:Core}{I:Int}(h:c.ar=false):gQ c vars size I=(.leaf 1 (c5 c.L I size).1 ByteArray.empty,(c5 c.L I size).2):=by rw[gQ,if_neg t207]
theorem wex_pos {c:Core}{I:Int}(h:c.ar=true):j0 c vars I=dM c.L vars (1+(c5 c.L I 2).1).toNat (c5 c.L I 2).2:=by rw[j0,if_pos h]
theorem wex_neg {c:Core}{I:Int}(h:c.ar=false):j0 c vars I=dM c.L vars 0 I:=by rw[j0,if_neg t207]
attribute [local go_sem] l7 aI n7 aP o6 Int.natCast_nonneg Int.natCast_inj List.length_map cE hB_1 hB_2 hB_5 By Bz Ca Cc fK B8 fV U0
theorem frz_E {n d:Nat}{H:c7}{a:Ex}:n8 (iV n H (d+1)) (u3 a)=some (u3 a):=by rw[bK];rfl
theorem SH {r:Rf}:pG (FK ⟨true,r,l6⟩) (.bool true::(AF r++[.int .i64 0,.int .i64 0,.str ByteArray.empty,.g9])):=⟨.inl rfl,.inl rfl,.inl rfl,.inl rfl,.inl rfl,.inl rfl,.inr ⟨rfl,rfl⟩,trivial⟩
theorem JP {x:Ex}:pG (FK ⟨false,n5,x⟩) (.bool false::.str ByteArray.empty::.g9::u3 x):=⟨.inl rfl,.inl rfl,.inr ⟨rfl,rfl⟩,pG.refl _⟩
theorem frz_A {n d:Nat}{H:c7}{l:List Ar}:n8 (gV n H (d+1)) (bE l)=some (bE l):=by
  induction l with
  | nil=>rfl
  | cons a l ih=>
    refine xZ ?_ ih;simp only[FK,n8,pY,pZ,nJ,EJ]
section
attribute [local go_sem] gC
theorem c_index {c:Core}{e:Frame}{left I:Int}(hc:OkC c)(hI:OkI c.L I)(hL:c.L.length<4611686018427387904)(vars:List BA)(hN:vars.length<1000)(size:Int)(hs:0<size∧size≤3):CH 157 [.ptr 5 0 0,.vec vars.length (aD vars),.int .i64 size] (hB c e I left) (.agg (u3 (gQ c vars size I).1)) (hB c e (gQ c vars size I).2 left):=by
  refine .wz Tryz.f157 32 ?_;have h3:=n4 hI (n:=3) (by omega);refine c22z ?_;refine c25z ?_;refine .spl 11 rfl rfl (fun e1=>?_) (fun e1=>?_)
  ·try simp only[e1]
   have qe1:=fact e1;refine .k 4 [(4,11)] ?_;refine .ch rfl rfl (gD _ _ 3 hI hL (by omega) (by omega)) ?_;refine .m [(4,11)] ?_;refine u2z ?_ ?_
   ·intro e2 qe2;refine .c6 [0,1,6] ?_;refine c25z ?_;refine .ch rfl rfl (U1 _ _ 1 h3.2.2 hL vars hN (by omega)) ?_;refine c114z ?_;exact ⟨hB _ _ _ _,_,_,rfl,t76,iB,t8,t80⟩
   intro e2 qe2;refine .sk ?_;refine .c6 [0,2,6] ?_;refine c25z ?_;refine .ch rfl rfl (gD _ _ size (by first | exact h3.2.2 | exact hI) hL (by omega) (by omega)) ?_;refine c114z ?_;exact ⟨hB _ _ _ _,_,_,rfl,t76,iB,t8,t80⟩
  try simp only[e1]
  have qe1:=fact e1;refine .m [(4,11)] ?_;refine c19z ?_;refine .c6 [0,2,6] ?_;refine c25z ?_;refine .ch rfl rfl (gD _ _ size (by first | exact h3.2.2 | exact hI) hL (by omega) (by omega)) ?_;refine c114z ?_;exact ⟨hB _ _ _ _,_,_,rfl,t76,iB,t8,t80⟩
end
section
attribute [local go_sem] gC wrap64
theorem c_wexpr {c:Core}{e:Frame}{left I:Int}(hc:OkC c)(hI:OkI c.L I)(hL:c.L.length<4611686018427387904)(vars:List BA)(hN:vars.length<1000):CH 128 [.ptr 5 0 0,.vec vars.length (aD vars)] (hB c e I left) (.agg (u3 (j0 c vars I).1)) (hB c e (j0 c vars I).2 left):=by
  refine .wz Tryz.f128 28 ?_;have h2:=n4 hI (n:=2) (by omega);refine c89z ?_;refine u2z ?_ ?_
  ·intro e1 qe1;refine c25z ?_;refine .ch rfl rfl (U1 _ _ 0 hI hL vars hN (by omega)) ?_;refine c114z ?_;exact ⟨hB _ _ _ _,_,_,rfl,t76,iB,t8,t132⟩
  intro e1 qe1;refine .sk ?_;refine .sm u6 (mkP 13 [0,1,3,7,0,0,32,96,224,480,992,2047,4095] [9,11,12]) [0,1,2,3,4] ?_;refine eX.p (pd:=[]) 9 ?_;refine eX.s7 rfl rfl rfl rfl rfl rN (gD _ _ 2 hI hL (by omega) (by omega)) ?_;refine eX.p 1 ?_;refine eX.s7 rfl rfl rfl rfl rfl QF (U1 _ _ _ h2.2.2 hL vars hN (by omega)) ?_;refine eX.p 1 ?_;refine eX.nil t11 ?_;refine c5z ?_;exact ⟨hB _ _ _ _,_,_,rfl,t76,iB,t8,t132⟩
end
theorem kR {l:List BA}{x:BA}:aD (l++[x])=aD l++[.str x]:=by simp[aD]
theorem EP {c:Core}(h:i<c.ms.length):(c.ms.map (·.name)).take (i+1)=(c.ms.map (·.name)).take i++[(c.ms.getD i w3).name]:=by rw[List.take_add_one];simp[List.getD,h]
theorem M7 (l m:List Pm):extra (l++m)=extra l++extra m:=by
  induction l with
  | nil=>rfl
  | cons p l ih=>simp only[List.cons_append,extra];split<;>simp[ih]
variable {j:Nat}
theorem yD {l:List Pm}(h:j<l.length):l.take (j+1)=l.take j++[l.getD j iM]:=by rw[List.take_add_one];simp[List.getD,h]
variable {ps:List Pm}
theorem JQ {c:Core}:l4 c (ps.take 0)=c.ms.map (·.name):=by simp[l4,extra]
theorem rn_t {c:Core}(h:j<ps.length)(hm:(ps.getD j iM).mu=true):l4 c (ps.take (j+1))=l4 c (ps.take j)++[(ps.getD j iM).name]++[(ps.getD j iM).name]:=by rw[yD h];simp only[l4,M7,List.append_assoc];simp only[extra,hm,if_true];rfl
theorem rn_f {c:Core}(h:j<ps.length)(hm:(ps.getD j iM).mu=false):l4 c (ps.take (j+1))=l4 c (ps.take j):=by rw[yD h];simp only[l4,M7];simp only[extra,hm,Bool.false_eq_true,if_false,List.append_nil]
theorem ref_pos {c:Core}{I:Int}(h1:(c5 c.L I (l4 c ps).length).1<c.ms.length)(h2:0<(c.ms.getD (c5 c.L I (l4 c ps).length).1.toNat w3).size):u5 c ps vars I=
    (⟨(l4 c ps).getD (c5 c.L I (l4 c ps).length).1.toNat ByteArray.empty,[(gQ c vars (c.ms.getD (c5 c.L I (l4 c ps).length).1.toNat w3).size (c5 c.L I (l4 c ps).length).2).1]⟩,(gQ c vars (c.ms.getD (c5 c.L I (l4 c ps).length).1.toNat w3).size (c5 c.L I (l4 c ps).length).2).2):=if_pos ⟨h1,h2⟩
theorem ref_neg {c:Core}{I:Int}(h:¬((c5 c.L I (l4 c ps).length).1<c.ms.length∧0<(c.ms.getD (c5 c.L I (l4 c ps).length).1.toNat w3).size)):u5 c ps vars I=
    (⟨(l4 c ps).getD (c5 c.L I (l4 c ps).length).1.toNat ByteArray.empty,[]⟩,(c5 c.L I (l4 c ps).length).2):=if_neg h
theorem encN_ne {l:List BA}(h:0<l.length):aD l≠[]:=by intro e;have:=congrArg List.length e;rw[aI,List.length_nil]at this;omega
theorem JR {x:Ex}:n9 [x]=u3 x:=by simp[n9]
theorem JS {c:Core}{e:Frame}{I left:Int}{fb rb:Blk}{g n:Nat}{zs:List BA}{x:AV}(hz:zs.length=n)(hn:n<1000) :
    j7 cfg 9 (hB c e I left++[fb,rb,o8 9 1 g (aD zs),⟨0,false,9,1,[x],0⟩]) (.own (e.n+2) g 0 n) (.own (e.n+3) 0 0 1)=some (.own (e.n+2) (g+1) 0 (n+1),hB c e I left++[fb,rb,o8 9 1 (g+1) (aD zs++[x]),⟨0,false,9,1,[x],0⟩]):=by
  have hb:(hB c e I left++[fb,rb,o8 9 1 g (aD zs),⟨0,false,9,1,[x],0⟩])[e.n+2]?=some (o8 9 1 g (aD zs)):=fK;rw[v7 (C:=cfg) (K:=1) (m:=1) (new:=[x]) hb rfl (by omega) (by rw[aI,hz,Nat.mul_one]) rfl (by omega) t146 rfl (by decide) (by omega),fV];rfl
theorem ER {c:Core}{e:Frame}{I left:Int}{fb rb:Blk}{g n:Nat}{zs:List BA}{x y:AV}(hz:zs.length=n)(hn:n<1000) :
    j7 cfg 9 (hB c e I left++[fb,rb,o8 9 1 g (aD zs),⟨0,false,9,1,[x,y],0⟩]) (.own (e.n+2) g 0 n) (.own (e.n+3) 0 0 2)=some (.own (e.n+2) (g+1) 0 (n+2),hB c e I left++[fb,rb,o8 9 1 (g+1) (aD zs++[x,y]),⟨0,false,9,1,[x,y],0⟩]):=by
  have hb:(hB c e I left++[fb,rb,o8 9 1 g (aD zs),⟨0,false,9,1,[x,y],0⟩])[e.n+2]?=some (o8 9 1 g (aD zs)):=fK;rw[v7 (C:=cfg) (K:=1) (m:=2) (new:=[x,y]) hb rfl (by omega) (by rw[aI,hz,Nat.mul_one]) rfl (by omega) t146 rfl (by decide) (by omega),fV];rfl
theorem XD {n:Nat}{l:List BA}:∀x∈aD l,Refs n x:=by intro x hx;obtain ⟨y,_,rfl⟩:=List.mem_map.1 hx;exact .str _
theorem Frame.n_ge (e:Frame):9≤e.n:=by unfold Frame.n;omega
theorem SI {c:Core}{e:Frame}{left I:Int}{l:c7}(hc:OkC c)(hI:OkI c.L I)(hL:c.L.length<4611686018427387904)(vars:List BA)(hN:vars.length<1000)(size:Int)(hs:0<size∧size≤3):CH 157 [.ptr 5 0 0,.vec vars.length (aD vars),.int .i64 size] (hB c e I left++l) (.agg (u3 (gQ c vars size I).1)) (hB c e (gQ c vars size I).2 left++l):=c_index (e:=⟨e.b0,e.b1,e.b2,e.z,e.m,e.g,e.rest++l⟩) hc hI hL vars hN size hs
theorem BD {c:Core}{e:Frame}{left I:Int}{l:c7}(hc:OkC c)(hI:OkI c.L I)(hL:c.L.length<4611686018427387904)(vars:List BA)(hN:vars.length<1000):CH 128 [.ptr 5 0 0,.vec vars.length (aD vars)] (hB c e I left++l) (.agg (u3 (j0 c vars I).1)) (hB c e (j0 c vars I).2 left++l):=c_wexpr (e:=⟨e.b0,e.b1,e.b2,e.z,e.m,e.g,e.rest++l⟩) hc hI hL vars hN
section
attribute [local go_sem] gC wrap64 eE JS ER SG qK BC lT sO L4 S8 A7 max2
theorem c_ref {c:Core}{e:Frame}{left I:Int}(hc:OkC c)(hI:OkI c.L I)(hL:c.L.length<4611686018427387904)(vars:List BA)(hN:vars.length<1000)(f:Fu)(hp:f.params.length≤2):CH 127 [.ptr 5 0 0,.agg (eE f),.vec vars.length (aD vars)] (hB c e I left) (.agg (AF (u5 c f.params vars I).1)) (hB c e (u5 c f.params vars I).2 left):=by
  refine .wz Tryz.f127 107 ?_;have hml:=hc.ml;refine c55z ?_;refine c9.qC 7 rfl ?_;refine .aB (fun m st=>∃(i:Nat),(m=c.ms.length-i∧i≤c.ms.length)∧st=⟨mkS 107 [(0,AV.ptr 5 0 0),(2,AV.vec vars.length (aD vars)),(4,AV.ptr e.n 0 0),(6,AV.ptr (e.n+1) 0 0),(7,AV.own (e.n+2) i 0 i),(8,AV.int .i64 ((i:Nat):Int))],hB c e I left++[⟨0,false,136,3,[.str f.name,.vec f.params.length (v9 f.params),.vec f.body.len (p5 f.body)],0⟩,⟨0,false,187,2,[.str ByteArray.empty,.g9],0⟩,o8 9 1 i (aD ((c.ms.map (·.name)).take i))]⟩) (.v ⟨0,⟨rfl,by omega⟩,rfl⟩ (hs:=t38) (hr:=t1)) ?_;rintro m sl h' ⟨i,⟨hm,hi⟩,hst⟩;obtain ⟨rfl,rfl⟩:=St.mk.inj hst;clear hst;have htk:((c.ms.map (·.name)).take i).length=i:=by simp;omega
  refine c1z ?_;refine u2z ?_ ?_
  ·intro e1 qe1;refine c3z ?_;refine .c6 [0,2,4,6,7,8] ?_;refine c128z ?_;refine .c6 [0,2,4,6,7,8] ?_;refine .rz ?_;exact ⟨_,by omega,.v ⟨(i+1),⟨rfl,by omega⟩,rfl⟩ (he:=by (rw[EP (by omega),kR];simp only[List.append_assoc,List.cons_append,List.nil_append];rfl)) (hl:=t29) (hk:=t122) (hs:=t38) (hr:=t1)⟩
  intro e1 qe1;refine .exit ?_;obtain rfl:i=c.ms.length:=by omega
  change c9 ..;refine .c6 [0,2,4,6,7] ?_;refine c18z ?_;refine .aB (fun m st=>∃(j:Nat) (g:Nat),(m=f.params.length-j∧j≤f.params.length)∧st=⟨mkS 107 [(0,AV.ptr 5 0 0),(2,AV.vec vars.length (aD vars)),(4,AV.ptr e.n 0 0),(6,AV.ptr (e.n+1) 0 0),(7,AV.own (e.n+2) g 0 (l4 c (f.params.take j)).length),(9,AV.int .i64 ((c.ms.length:Nat):Int)),(10,AV.int .i64 ((j:Nat):Int))],hB c e I left++[⟨0,false,136,3,[.str f.name,.vec f.params.length (v9 f.params),.vec f.body.len (p5 f.body)],0⟩,⟨0,false,187,2,[.str ByteArray.empty,.g9],0⟩,o8 9 1 g (aD (l4 c (f.params.take j)))]⟩) (.v ⟨0,c.ms.length,⟨rfl,by omega⟩,rfl⟩ (hs:=t60) (hr:=t1)) ?_ (he:=by (rw[JQ,show (c.ms.map (·.name)).take c.ms.length=c.ms.map (·.name) from List.take_of_length_le (by simp)]));rintro m sl h' ⟨j,g,⟨hm,hj⟩,hst⟩;obtain ⟨rfl,rfl⟩:=St.mk.inj hst;clear hst;have hxl:=(mW hc (f.params.take j)).2;have hxt:(f.params.take j).length≤2:=by simp;omega
  refine c1z ?_;refine u2z ?_ ?_
  ·intro e2 qe2;refine c73z ?_;refine u2z ?_ ?_
   ·intro e3 qe3;refine .c6 [0,2,4,6,7,9,10] ?_;refine c9.kO u6 (mkP 16 [0,0,2,0,14,30,62,0,128,0,896,1920,3968,8190,16383,32767] [13,14]) [0] (by kernel_rfl) (by kernel_rfl) ?_;refine eX.p (pd:=[]) 16 ?_;refine c153z ?_;refine .c6 [0,2,4,6,7,9,10] ?_;refine .rz ?_;have hxs:=congrArg List.length (rn_t (c:=c) (j:=j) (ps:=f.params) (by omega) (by assumption));simp only[List.length_append,List.length_singleton]at hxs;exact ⟨_,by omega,.v ⟨(j+1),(g+1),⟨rfl,by omega⟩,rfl⟩ (he:=by (rw[rn_t (by omega) (by assumption),kR,kR];simp only[List.append_assoc,List.cons_append,List.nil_append];rfl)) (hl:=t29) (hk:=t122) (hs:=t60) (hr:=t1)⟩
   intro e3 qe3;refine c4z ?_;refine .c6 [0,2,4,6,7,9,10] ?_;refine .rz ?_;have hxs:=congrArg List.length (rn_f (c:=c) (j:=j) (ps:=f.params) (by omega) (by assumption));exact ⟨_,by omega,.v ⟨(j+1),g,⟨rfl,by omega⟩,rfl⟩ (he:=by (rw[rn_f (by omega) (by assumption)];exact (List.append_nil _).symm)) (hl:=t29) (hk:=t122) (hs:=t60) (hr:=t1)⟩
  intro e2 qe2;refine .exit ?_;obtain rfl:j=f.params.length:=by omega
  rw[List.take_length]at hxl ⊢;change c9 ..;have hrl:=mW hc f.params;have hk:=n4 hI (n:=((l4 c f.params).length:Int)) (by omega);rw[dE (encN_ne hrl.1)];refine c115z ?_;refine .ch rfl rfl (gD _ _ _ hI hL (by omega) (by omega)) ?_;refine .n ?_;refine .c6 [0,2,6,7,9,11] ?_;refine c22z ?_;refine c29z ?_;refine .spl 80 rfl rfl (fun e4=>?_) (fun e4=>?_)
  ·try simp only[e4]
   have qe4:=fact e4;refine .k 8 [(3,80)] ?_;refine .m [(3,80)] ?_;refine u2z ?_ ?_
   ·intro e5 qe5;refine .c6 [0,2,6,11,12] ?_;have hsz:=hc.mx (c5 c.L I (l4 c f.params).length).1.toNat (by omega);refine c87z ?_;refine .e 3 ?_;refine .ch rfl rfl (SI hc hk.2.2 hL vars hN _ (by omega)) ?_;refine c28z ?_;refine .c6 [6,12] ?_;refine c27z ?_;exact ⟨hB _ _ _ _,_,_,rfl,t76,iB,t8,t91⟩
   intro e5 qe5;refine .sk ?_;refine .c6 [6,12] ?_;refine c27z ?_;exact ⟨hB _ _ _ _,_,_,rfl,t76,iB,t8,t91⟩
  try simp only[e4]
  have qe4:=fact e4;refine .k 8 [(3,80)] ?_;refine .m [(3,80)] ?_;refine c19z ?_;refine .c6 [6,12] ?_;refine c27z ?_;exact ⟨hB _ _ _ _,_,_,rfl,t76,iB,t8,t91⟩
end
end Go.Proofs.YtonbocmibeikmaaGreat
end
section
namespace Go.Proofs.YtonbocmibeikmaaGreat
open Go.Ab Go.Un
structure Sco where
  p:Go.Un.Pg
  l:List Ent
  loc:Int
  st:Int
  code:List Ins
  sites:List Int
structure Frm where
  pre:c7
  rest:c7
def Frm.k (e:Frm):Nat:=e.pre.length
def Frm.n (e:Frm):Nat:=e.pre.length+(e.rest.length+3)
def z9 (k:Nat)(s:Sco):Blk:=⟨0,false,198,10,[.vec s.p.globals.length (q9 s.p.globals),.vec s.p.c4.length (g0 s.p.c4),.vec s.p.funcs.length (o5 s.p.funcs),.vec s.l.length (j5 s.l),.int .i64 s.loc,.int .i64 s.st,.int .i64 0,.int .i64 0,.own (k+1) s.code.length 0 s.code.length,.own (k+2) s.sites.length 0 s.sites.length],0⟩
def hT (e:Frm)(b:Blk)(c:List Ins)(ss:List Int):c7:=e.pre++(b::o8 54 12 c.length (p8 c)::o8 3 1 ss.length (g7 ss)::e.rest)
section
variable {e:Frm}{b b':Blk}{c c':List Ins}{ss ss':List Int}{l:c7}{j:Nat}
theorem aJ:(hT e b c ss).length=e.n:=by simp[hT,Frm.n]
theorem Frm.lt (e:Frm):e.k<e.n∧e.k+1<e.n∧e.k+2<e.n:=by unfold Frm.k Frm.n;omega
theorem hT_0:(hT e b c ss)[e.k]?=some b:=by rw[hT,Frm.k,List.getElem?_append_right (Nat.le_refl _),Nat.sub_self];rfl
theorem hT_1:(hT e b c ss)[e.k+1]?=some (o8 54 12 c.length (p8 c)):=by rw[hT,Frm.k,List.getElem?_append_right (by omega),Nat.add_sub_cancel_left];rfl
theorem hT_2:(hT e b c ss)[e.k+2]?=some (o8 3 1 ss.length (g7 ss)):=by rw[hT,Frm.k,List.getElem?_append_right (by omega),Nat.add_sub_cancel_left];rfl
theorem SJ:(hT e b c ss++l)[e.k]?=some b:=by rw[List.getElem?_append_left (by rw[aJ];exact e.lt.1),hT_0]
theorem SK:(hT e b c ss++l)[e.k+1]?=some (o8 54 12 c.length (p8 c)):=by rw[List.getElem?_append_left (by rw[aJ];exact e.lt.2.1),hT_1]
theorem SL:(hT e b c ss++l)[e.k+2]?=some (o8 3 1 ss.length (g7 ss)):=by rw[List.getElem?_append_left (by rw[aJ];exact e.lt.2.2),hT_2]
theorem eG:(hT e b c ss++l)[e.n+j]?=l[j]?:=by rw[List.getElem?_append_right (by rw[aJ];omega),aJ,Nat.add_sub_cancel_left]
theorem C0:(hT e b c ss++l)[e.n]?=l[0]?:=by rw[List.getElem?_append_right (by rw[aJ];omega),aJ,Nat.sub_self]
theorem iG:(hT e b c ss++l).set (e.n+j) b'=hT e b c ss++l.set j b':=by rw[List.set_append_right _ _ (by rw[aJ];omega),aJ,Nat.add_sub_cancel_left]
theorem U2:(hT e b c ss++l).set e.n b'=hT e b c ss++l.set 0 b':=by rw[List.set_append_right _ _ (by rw[aJ];omega),aJ,Nat.sub_self]
theorem SM:(hT e b c ss).set e.k b'=hT e b' c ss:=by rw[hT,Frm.k,List.set_append_right _ _ (Nat.le_refl _),Nat.sub_self];rfl
theorem BE:(hT e b c ss++l).set e.k b'=hT e b' c ss++l:=by rw[List.set_append_left _ _ (by rw[aJ];exact e.lt.1),SM]
theorem hT_p1:(hT e b c ss).set (e.k+1) (o8 54 12 c'.length (p8 c'))=hT e b c' ss:=by rw[hT,Frm.k,List.set_append_right _ _ (by omega),Nat.add_sub_cancel_left];rfl
theorem hT_p2:(hT e b c ss).set (e.k+2) (o8 3 1 ss'.length (g7 ss'))=hT e b c ss':=by rw[hT,Frm.k,List.set_append_right _ _ (by omega),Nat.add_sub_cancel_left];rfl
theorem XE:(hT e b c ss++l).set (e.k+1) (o8 54 12 c'.length (p8 c'))=hT e b c' ss++l:=by rw[List.set_append_left _ _ (by rw[aJ];exact e.lt.2.1),hT_p1]
theorem hT_p2a:(hT e b c ss++l).set (e.k+2) (o8 3 1 ss'.length (g7 ss'))=hT e b c ss'++l:=by rw[List.set_append_left _ _ (by rw[aJ];exact e.lt.2.2),hT_p2]
theorem XF:hT e b c ss++l=hT ⟨e.pre,e.rest++l⟩ b c ss:=by simp[hT]
end
theorem XG (l:List Ins):aO (p8 l):=aO.flat fun i=>by rw[eO,bK];exact .cons .int (.cons .int (.cons .bool (.cons .int (.cons .int (.cons .str (.cons .vec (.cons .bool (.cons .int (.cons .vec (.cons .vec (.cons .vec .nil)))))))))))
theorem xJ (l:List Int):aO (g7 l):=aO.map fun _=>.int
theorem C1 {e:Frm}{b b':Blk}{c c':List Ins}{ss ss':List Int}(hb:∀x∈b'.cells,Refs e.n x):aE (hT e b c ss) (hT e b' c' ss'):=by unfold hT;refine aE.app (aE.refl _) rfl ⟨.inr ?_,.inr (by rw[o2];exact (XG _).refs _),.inr (by rw[o2];exact (xJ _).refs _),oB.refl _ _⟩;rw[show e.pre.length+(b'::o8 54 12 c'.length (p8 c')::o8 3 1 ss'.length (g7 ss')::e.rest).length=e.n from by simp[Frm.n]];exact hb
variable {s:Sco}
theorem hT_keep {e:Frm}{k:Nat}{s':Sco}:k=e.k→aE (hT e (z9 k s) s.code s.sites) (hT e (z9 k s') s'.code s'.sites):=by
  rintro rfl;refine C1 (gZ.get ⟨.vec _ _,.vec _ _,.vec _ _,.vec _ _,.int _ _,.int _ _,.int _ _,.int _ _,.own _ _ _ _ ?_,.own _ _ _ _ ?_,trivial⟩)
  · exact e.lt.2.1
  · exact e.lt.2.2
theorem gE {f:FuncId}{args:List AV}{x:AV}{s':Sco}{l:c7}{e:Frm}(h:CH f args (hT ⟨e.pre,e.rest++l⟩ (z9 e.k s) s.code s.sites) x (hT ⟨e.pre,e.rest++l⟩ (z9 e.k s') s'.code s'.sites)):CH f args (hT e (z9 e.k s) s.code s.sites++l) x (hT e (z9 e.k s') s'.code s'.sites++l):=by rw[XF,XF];exact h
theorem ES {α:Type}(f:α→List AV)(K j:Nat)(hK:∀a,(f a).length=K)(hj:j<K)(d:α){l:List α}{i:Nat}(h:i<l.length):List.take 1 (List.drop (i*K+j) (l.flatMap f))=List.take 1 (List.drop j (f (l.getD i d))):=by rw[←cN f K hK d h,List.drop_take,List.take_take,List.drop_drop,Nat.min_eq_left (by omega)]
theorem kS {l:List Ent}{i:Nat}(h:i<l.length):List.take 1 (List.drop (i*3) (j5 l))=[.str (l.getD i kF).name]:=ES jB 3 0 (fun _=>rfl) (by omega) kF h
variable {x:BA}
theorem find_at {l:List Ent}:∀{i:Nat},i<l.length→(∀d,d<i→((l.getD d kF).name.toList==x.toList)=false)→((l.getD i kF).name.toList==x.toList)=true→bM l x=some (l.getD i kF):=by
  have tl:∀{a b:BA},(a.toList==b.toList)=decide (a=b):=by
    intro a b;rw[ByteArray.toList_eq,ByteArray.toList_eq,Bool.eq_iff_iff];simp only[beq_iff_eq,decide_eq_true_eq];constructor
    · intro h
      exact ByteArray.ext (Array.toList_inj.1 h)
    · rintro rfl;rfl
  induction l with
  | nil=>intro i h;simp at h
  | cons e l ih=>
    intro i hi h1 h2;rw[bM,List.find?_cons];cases i with
    | zero=>
      rw[tl]at h2;simp only[List.getD_cons_zero]at h2 ⊢;rw[h2]
    | succ i=>
      have h0:=h1 0 (by omega);rw[tl]at h0;simp only[List.getD_cons_zero]at h0;rw[h0];simp only[List.getD_cons_succ]at h2 ⊢;exact ih (by simpa using hi) (fun d hd=>by have:=h1 (d+1) (by omega);simpa using this) h2
theorem find_no {l:List Ent}(h:∀d,d<l.length→((l.getD d kF).name.toList==x.toList)=false):bM l x=none:=by rw[bM,List.find?_eq_none];intro e he;obtain ⟨i,hi,rfl⟩:=bV (d:=kF) he;have:=h i hi;intro hc;simp only[decide_eq_true_eq]at hc;rw[hc]at this;simp at this
theorem find_nx {l:List Ent}{i:Nat}(h:∀d,d<i→((l.getD d kF).name.toList==x.toList)=false)(e:((l.getD i kF).name.toList==x.toList)=false):∀d,d<i+1→((l.getD d kF).name.toList==x.toList)=false:=fun d hd=>by
  by_cases hdi:d=i
  · rw[hdi];exact e
  · exact h d (by omega)
variable {v:Ent}
theorem BF {l:List Ent}(h:bM l x=some v):AV.tup [.agg [.str v.name,.int .i64 v.kind,.int .i64 v.n],.bool true]=.tup [.agg (jB (eZ l x)),.bool (bM l x).isSome]:=by rw[eJ h,h];rfl
theorem BG {l:List Ent}(h:bM l x=none):AV.tup [.agg [.str ByteArray.empty,.int .i64 0,.int .i64 0],.bool false]=.tup [.agg (jB (eZ l x)),.bool (bM l x).isSome]:=by rw[eZ,h];rfl
variable {i:Ins}
theorem lU:eO i=[.int .i64 i.op,.int .i64 i.target,.bool i.global,.int .i64 i.e.op,.int .i64 i.e.num,.str i.e.name,.vec i.e.args.length (n9 i.e.args),.bool i.pl.param,.int .i64 i.pl.index,.vec i.pl.at'.length (n9 i.pl.at'),.vec i.ints.length (n9 i.ints),.vec i.aC.length (dV i.aC)]:=by rw[eO,bK];rfl
theorem U3 {l:List Ins}:p8 (l++[i])=p8 l++eO i:=by simp[p8]
theorem qL {l:List Int}{i:Int}:g7 (l++[i])=g7 l++[.int .i64 i]:=by simp[g7]
theorem Cr (l:List Ex):aO (n9 l):=aO.flat fun e=>by rw[bK];exact .cons .int (.cons .int (.cons .str (.cons .vec .nil)))
theorem JT (l:List Pl):aO (dV l):=aO.flat fun p=>.cons .bool (.cons .int (.cons .vec .nil))
theorem wC:List.take 12 (eO i)=eO i:=List.take_of_length_le (by rw[aS];omega)
variable {b0:Blk}
theorem SN {e:Frm}{b:Blk}{c:List Ins}{ss:List Int}{l:c7}{n:Nat}(hn:c.length=n)(hl:n<100000):j7 cfg 54 (hT e b c ss++(b0::⟨1,false,54,12,eO i,0⟩::l)) (.own (e.k+1) n 0 n) (.own (e.n+1) 1 0 1)=some (.own (e.k+1) (n+1) 0 (n+1),hT e b (c++[i]) ss++(b0::⟨1,false,54,12,eO i,0⟩::l)):=by
  subst hn;have h1:(c++[i]).length=c.length+1:=by simp
  rw[v7 (C:=cfg) (K:=12) (m:=1) (new:=eO i) SK rfl (by omega) (by rw[r6,Nat.mul_comm]) (by rw[aS]) (by omega) (by simp[rd,eG,aS,wC]) rfl (by decide) (by omega),←U3,←h1,XE]
theorem M8 {e:Frm}{b:Blk}{c:List Ins}{ss:List Int}{l:c7}{n:Nat}(hn:c.length=n)(hl:n<100000):j7 cfg 54 (hT e b c ss++(b0::⟨1,false,54,12,[.int .i64 i.op,.int .i64 i.target,.bool i.global,.int .i64 i.e.op,.int .i64 i.e.num,.str i.e.name,.vec i.e.args.length (n9 i.e.args),.bool i.pl.param,.int .i64 i.pl.index,.vec i.pl.at'.length (n9 i.pl.at'),.vec i.ints.length (n9 i.ints),.vec i.aC.length (dV i.aC)],0⟩::l)) (.own (e.k+1) n 0 n) (.own (e.n+1) 1 0 1)=some (.own (e.k+1) (n+1) 0 (n+1),hT e b (c++[i]) ss++(b0::⟨1,false,54,12,[.int .i64 i.op,.int .i64 i.target,.bool i.global,.int .i64 i.e.op,.int .i64 i.e.num,.str i.e.name,.vec i.e.args.length (n9 i.e.args),.bool i.pl.param,.int .i64 i.pl.index,.vec i.pl.at'.length (n9 i.pl.at'),.vec i.ints.length (n9 i.ints),.vec i.aC.length (dV i.aC)],0⟩::l)):=by rw[←lU];exact SN hn hl
theorem BH {e:Frm}{b b1:Blk}{c:List Ins}{ss:List Int}{l:c7}{t:Int}{n:Nat}(hn:ss.length=n)(hl:n<100000):j7 cfg 3 (hT e b c ss++(b0::b1::⟨1,false,3,1,[.int .i64 t],0⟩::l)) (.own (e.k+2) n 0 n) (.own (e.n+2) 1 0 1)=some (.own (e.k+2) (n+1) 0 (n+1),hT e b c (ss++[t])++(b0::b1::⟨1,false,3,1,[.int .i64 t],0⟩::l)):=by
  subst hn;have h1:(ss++[t]).length=ss.length+1:=by simp
  rw[v7 (C:=cfg) (K:=1) (m:=1) (new:=[.int .i64 t]) SL rfl (by omega) (by rw[l7,Nat.mul_one]) rfl (by omega) (by simp[rd,eG]) rfl (by decide) (by omega),←qL,←h1,hT_p2a]
attribute [local go_sem] j7 rd s8 o6 bD cO r6 aS fW dL n7 bA aP l7 bF Int.natCast_nonneg Int.natCast_inj List.length_map wrap64 gC jR jS AP L4 S8 AQ A7 max2 fG cS bG Nat.reduceMul nL kS z9 jB qK lT wC aJ hT_0 hT_1 hT_2 SJ SK SL eG C0 iG U2 SM BE
variable {h:c7}
theorem XI (l:List Ent)(x:BA)(hl:l.length<1000000):CB 89 [.vec l.length (j5 l),.str x] h (.tup [.agg (jB (eZ l x)),.bool (bM l x).isSome]):=by
  refine .bz Tryz.f89 25 ?_;refine c18z ?_;refine .w7 (fun m st=>∃(i:Nat),(m=l.length-i∧((∀d,d<i→((l.getD d kF).name.toList==x.toList)=false)∧i≤l.length))∧st=⟨mkS 25 [(0,AV.vec l.length (j5 l)),(1,AV.str x),(4,AV.ptr h.length 0 0),(6,AV.int .i64 ((i:Nat):Int))],h++[⟨0,false,145,3,[.str ByteArray.empty,.int .i64 0,.int .i64 0],0⟩]⟩) _ (.v ⟨0,⟨rfl,⟨t88,by omega⟩⟩,rfl⟩) ?_;rintro m sl h' ⟨i,⟨hm,⟨hI,hi⟩⟩,hst⟩;obtain ⟨rfl,rfl⟩:=St.mk.inj hst;refine c1z ?_;refine u2z ?_ ?_
  ·intro e1 qe1;refine c73z ?_;refine u2z ?_ ?_
   ·intro e2 qe2;refine .c6 [0,4,6] ?_;refine .z ?_;exact .ret (.ex (hq:=t177))
   intro e2 qe2;refine c4z ?_;refine .c6 [0,1,4,6] ?_;refine .rz ?_;exact ⟨_,by omega,.v ⟨(i+1),⟨rfl,⟨find_nx hI (by assumption),by omega⟩⟩,rfl⟩⟩
  intro e1 qe1;refine .exit ?_;obtain rfl:i=l.length:=by omega
  change c9 ..;refine .z ?_;exact .ret (.ex (hq:=t177))
theorem U4 {l:List Ent}(hf:bM l x=some v)(hl:l.length<1000000):CB 89 [.vec l.length (j5 l),.str x] h (.tup [.agg [.str v.name,.int .i64 v.kind,.int .i64 v.n],.bool true]):=by have:=XI (h:=h) l x hl;rw[←BF hf]at this;exact this
theorem JU {l:List Ent}(hf:bM l x=none)(hl:l.length<1000000):CB 89 [.vec l.length (j5 l),.str x] h (.tup [.agg [.str ByteArray.empty,.int .i64 0,.int .i64 0],.bool false]):=by have:=XI (h:=h) l x hl;rw[←BG hf]at this;exact this
theorem c_var {e:Frm}(hl:s.l.length<1000000)(t:Int)(hf:bM s.l x=some v)(hk:v.kind=1∨v.kind=4):CB 167 [.ptr e.k 0 0,.str x,.int .i64 t] (hT e (z9 e.k s) s.code s.sites) (.agg [.str v.name,.int .i64 v.kind,.int .i64 v.n]):=by
  refine .bz Tryz.f167 37 ?_;refine .z ?_;refine c25z ?_;refine .ca rfl rfl (U4 hf hl) ?_;refine .n ?_;refine .sb ?_;refine .c6 [0,2,6,7,8] ?_;refine c11z ?_;refine c29z ?_;refine .spl 28 rfl rfl (fun e1=>?_) (fun e1=>?_)
  ·try simp only[e1]
   have qe1:=fact e1;refine .m [(3,28)] ?_;refine uFbz ?_;intro e2 qe2;refine c4z ?_;refine c233z ?_;exact .ret (.ex (hf:=t2) (hq:=by rfl))
  try simp only[e1]
  have qe1:=fact e1;refine .m [(3,28)] ?_;refine c40z ?_;refine c233z ?_;exact .ret (.ex (hf:=t2) (hq:=by rfl))
theorem c_ex1 {e:Frm}(hl:s.l.length<1000000)(t:Int)(n:Int):CB 166 [.ptr e.k 0 0,.agg (u3 (.leaf 1 n ByteArray.empty)),.int .i64 t] (hT e (z9 e.k s) s.code s.sites) (.agg (u3 (fY s.l (.leaf 1 n ByteArray.empty)))):=by refine c250z ?_;refine c19z ?_;refine c22z ?_;refine .c6 [0,2,4,6,8] ?_;refine c142z ?_;refine .c6 [6,8] ?_;refine .z ?_;exact .ret (.ex (hf:=t2) (hq:=by rfl))
theorem c_ex2 {e:Frm}(hl:s.l.length<1000000)(t:Int)(n:Int)(hf:bM s.l x=some v)(hk:v.kind=1∨v.kind=4):CB 166 [.ptr e.k 0 0,.agg (u3 (.leaf 2 n x)),.int .i64 t] (hT e (z9 e.k s) s.code s.sites) (.agg (u3 (fY s.l (.leaf 2 n x)))):=by
  refine c250z ?_;refine .T ?_;refine c29z ?_;refine .ca rfl rfl (gE (c_var hl t hf hk)) ?_;refine c32z ?_;refine c233z ?_;refine u2z ?_ ?_
  ·intro e1 qe1;refine .z ?_;exact .ret (.ex (hf:=t2) (hq:=t215))
  intro e1 qe1;refine .sk ?_;refine .z ?_;exact .ret (.ex (hf:=t2) (hq:=t215))
theorem c_exU {e:Frm}(hl:s.l.length<1000000)(t:Int)(o:Int)(a:Ex)(ho:o≠2)(iha:∀e:Frm,CB 166 [.ptr e.k 0 0,.agg (u3 a),.int .i64 t] (hT e (z9 e.k s) s.code s.sites) (.agg (u3 (fY s.l a)))):CB 166 [.ptr e.k 0 0,.agg (u3 (.un o a)),.int .i64 t] (hT e (z9 e.k s) s.code s.sites) (.agg (u3 (fY s.l (.un o a)))):=by refine c250z ?_;refine uFbz ?_;intro e1 qe1;refine .sk ?_;refine c22z ?_;refine .c6 [0,2,4,6,8] ?_;refine c14z ?_;refine c219z ?_;refine c41z ?_;refine c196z ?_;refine c67z ?_;refine .p 1 ?_;refine .cn [true] [512,0] [_] rfl rfl (by simp only[lD,and_true,List.cons_append,List.nil_append];exact gE (iha _)) ?_;refine c82z ?_;refine c102z ?_;refine c54z ?_;refine c257z ?_;refine .rz ?_;refine c44z ?_;refine .c6 [6,8,49] ?_;refine .z ?_;exact .ret (.ex (hf:=t2) (hq:=by rfl))
theorem c_exB {e:Frm}(hl:s.l.length<1000000)(t:Int)(o:Int)(a b:Ex)(ho:o≠2)(iha:∀e:Frm,CB 166 [.ptr e.k 0 0,.agg (u3 a),.int .i64 t] (hT e (z9 e.k s) s.code s.sites) (.agg (u3 (fY s.l a))))(ihb:∀e:Frm,CB 166 [.ptr e.k 0 0,.agg (u3 b),.int .i64 t] (hT e (z9 e.k s) s.code s.sites) (.agg (u3 (fY s.l b)))):CB 166 [.ptr e.k 0 0,.agg (u3 (.bin o a b)),.int .i64 t] (hT e (z9 e.k s) s.code s.sites) (.agg (u3 (fY s.l (.bin o a b)))):=by refine c250z ?_;refine uFbz ?_;intro e1 qe1;refine .sk ?_;refine c22z ?_;refine .c6 [0,2,4,6,8] ?_;refine c14z ?_;refine c143z ?_;refine c41z ?_;refine c196z ?_;refine c67z ?_;refine .p 1 ?_;refine .cn [true] [512,0] [_] rfl rfl (by simp only[lD,and_true,List.cons_append,List.nil_append];exact gE (iha _)) ?_;refine c82z ?_;refine c102z ?_;refine c54z ?_;refine c257z ?_;refine .rz ?_;refine c79z ?_;refine .c6 [0,2,4,6,8,9] ?_;refine c41z ?_;refine c196z ?_;refine c67z ?_;refine .p 1 ?_;refine .cn [true] [512,0] [_] rfl rfl (by simp only[lD,and_true,List.cons_append,List.nil_append];exact gE (ihb _)) ?_;refine c82z ?_;refine c102z ?_;refine c54z ?_;refine c257z ?_;refine .rz ?_;refine c44z ?_;refine .c6 [6,8,49] ?_;refine .z ?_;exact .ret (.ex (hf:=t2) (hq:=by rfl))
theorem Ph {s:Sco}(hl:s.l.length<1000000)(t:Int){vars:List BA}(hv:∀x∈vars,∃v,bM s.l x=some v∧(v.kind=1∨v.kind=4)):∀{d:Nat} {a:Ex},GE vars d a→∀e:Frm,CB 166 [.ptr e.k 0 0,.agg (u3 a),.int .i64 t] (hT e (z9 e.k s) s.code s.sites) (.agg (u3 (fY s.l a)))
  | d,.leaf o n x,hg,e=>by
    rcases kH.1 hg with ⟨rfl,_,_,rfl⟩ | ⟨rfl,_,h1⟩
    · exact c_ex1 hl t n
    · obtain ⟨v,h2,h3⟩:=hv x h1
      exact c_ex2 hl t n h2 h3
  | 0,.un o a,hg,e=>hg.elim
  | 0,.bin o a b,hg,e=>hg.elim
  | d+1,.un o a,hg,e=>c_exU hl t o a (by have:=hg.1;omega) (Ph hl t hv hg.2)
  | d+1,.bin o a b,hg,e=>c_exB hl t o a b (by have:=hg.1;omega) (Ph hl t hv hg.2.1) (Ph hl t hv hg.2.2)
theorem sz_0 {m:Int}(h:m=0):decide (m > 0)=false:=by simp;omega
theorem sz_1 {m:Int}(h:0<m):decide (m > 0)=true:=by simp;omega
theorem nN {l:List Fu}{i:Nat}(h:i<l.length):List.take 1 (List.drop (i*3+1) (o5 l))=[AV.vec (l.getD i j4).params.length (v9 (l.getD i j4).params)]:=ES eE 3 1 (fun _=>rfl) (by omega) j4 h
variable {y:BA}
theorem c_ref5 {e:Frm}(hl:s.l.length<1000000)(t:Int){n:Int}(hf:bM s.l x=some ⟨y,5,n⟩):CB 169 [.ptr e.k 0 0,.agg [.str x,.vec 0 []],.int .i64 t] (hT e (z9 e.k s) s.code s.sites) (.agg [.bool true,.int .i64 n,.vec 0 []]):=by refine .bz Tryz.f169 92 ?_;refine .z ?_;refine c26z ?_;refine c118z ?_;refine c245z ?_;refine c168z ?_;refine .sb ?_;refine c11z ?_;refine .c6 [0,2,4,6,7,9] ?_;refine .s ?_;refine .k 8 [(3,63)] ?_;refine .n ?_;refine .F ?_;refine c84z ?_;refine .k 8 [(3,31)] ?_;refine .k 8 [(3,31)] ?_;refine .n [] ?_;refine .c6 [0,2,4,6,9,10] ?_;refine c11z ?_;refine c4z ?_;refine c7z ?_;refine c61z ?_;refine c234z ?_;exact .ret (.ex (hf:=t2) (hq:=by rfl))
section
attribute [local go_sem] sz_0
theorem c_ref2 {e:Frm}(hl:s.l.length<1000000)(t:Int){n:Int}(hf:bM s.l x=some ⟨y,2,n⟩)(hn:0≤n∧n<s.p.c4.length)(hz:(s.p.c4.getD n.toNat w3).size=0):CB 169 [.ptr e.k 0 0,.agg [.str x,.vec 0 []],.int .i64 t] (hT e (z9 e.k s) s.code s.sites) (.agg [.bool false,.int .i64 n,.vec 0 []]):=by refine .bz Tryz.f169 92 ?_;refine .z ?_;refine c26z ?_;refine c118z ?_;refine c245z ?_;refine c168z ?_;refine .sb ?_;refine c11z ?_;refine .c6 [0,2,4,6,7,9] ?_;refine .s ?_;refine .k 8 [(3,63)] ?_;refine .n ?_;refine .F ?_;refine c84z ?_;refine .k 8 [(3,31)] ?_;refine .k 8 [(3,31)] ?_;refine .n [] ?_;refine .c6 [0,2,4,6,9,10] ?_;refine c11z ?_;refine c4z ?_;refine c7z ?_;refine c61z ?_;refine c234z ?_;exact .ret (.ex (hf:=t2) (hq:=by rfl))
end
section
attribute [local go_sem] sz_1
variable {vars:List BA}
theorem c_ref1 {e:Frm}(hl:s.l.length<1000000)(t:Int){n:Int}(hf:bM s.l x=some ⟨y,2,n⟩)(hn:0≤n∧n<s.p.c4.length)(hz:0<(s.p.c4.getD n.toNat w3).size)(hv:∀x∈vars,∃v,bM s.l x=some v∧(v.kind=1∨v.kind=4)){d:Nat}{a:Ex}(ha:GE vars d a):CB 169 [.ptr e.k 0 0,.agg [.str x,.vec 1 (u3 a)],.int .i64 t] (hT e (z9 e.k s) s.code s.sites) (.agg [.bool false,.int .i64 n,.vec 1 (u3 (fY s.l a))]):=by refine .bz Tryz.f169 92 ?_;refine .z ?_;refine c26z ?_;refine c118z ?_;refine c245z ?_;refine c168z ?_;refine .sb ?_;refine c11z ?_;refine .c6 [0,2,4,6,7,9] ?_;refine .s ?_;refine .k 8 [(3,63)] ?_;refine .n ?_;refine .F ?_;refine c84z ?_;refine .k 8 [(3,31)] ?_;refine .k 8 [(3,31)] ?_;refine .n [] ?_;refine .c6 [0,2,4,6,9,10] ?_;refine c11z ?_;refine c4z ?_;refine c7z ?_;refine c219z ?_;refine .c6 [0,2,4,6,9,11] ?_;refine c41z ?_;refine c196z ?_;refine c67z ?_;refine .p 1 ?_;refine .cn [true] [512,0] [_] rfl rfl (by simp only[lD,and_true,List.cons_append,List.nil_append];exact gE (Ph hl t hv ha _)) ?_;refine c82z ?_;refine c102z ?_;refine c54z ?_;change c9 ..;refine .c6 [0,2,4,6,9,11] ?_;refine .rz ?_;refine c44z ?_;refine c234z ?_;exact .ret (.ex (hf:=t2) (hq:=by rfl))
end
variable {vars:List BA}
theorem c_refL {e:Frm}(hl:s.l.length<1000000)(t:Int){E:Env}{c:Ctx}(sc:SC E c vars s.l)(hE:E.c4=s.p.c4)(hc:c.nm=s.p.c4.length){r:Rf}(g:GR E vars r):CB 169 [.ptr e.k 0 0,.agg [.str r.name,.vec r.idx.length (n9 r.idx)],.int .i64 t] (hT e (z9 e.k s) s.code s.sites) (.agg (K4 (rP s.l r))):=by
  obtain ⟨x,idx⟩:=r;rcases g with ⟨m,hm,hn,⟨hz,a,hi,ha⟩ | ⟨hz,hi⟩⟩ | ⟨p,hp,hmu,hn,hi⟩
  · simp only at hn hi
    subst hn hi;obtain ⟨v,h1,h2,h3,h4,h5⟩:=sc.mx m hm;obtain ⟨y,k,n⟩:=v;simp only at h2 h3 h4 h5;subst h2;rw[hE]at h5;have:=c_ref1 (e:=e) hl t h1 ⟨h3,by omega⟩ (by rw[h5];exact hz) sc.var ha;simp only[rP,eJ h1,K4,List.map_cons,List.map_nil,List.length_cons,List.length_nil,n9,List.flatMap_cons,List.flatMap_nil,List.append_nil];exact this
  · simp only at hn hi
    subst hn hi;obtain ⟨v,h1,h2,h3,h4,h5⟩:=sc.mx m hm;obtain ⟨y,k,n⟩:=v;simp only at h2 h3 h4 h5;subst h2;rw[hE]at h5;have:=c_ref2 (e:=e) hl t h1 ⟨h3,by omega⟩ (by rw[h5];exact hz);simp only[rP,eJ h1];exact this
  · simp only at hn hi
    subst hn hi;obtain ⟨v,h1,h2,h3,h4⟩:=sc.pm p hp hmu;obtain ⟨y,k,n⟩:=v;simp only at h2 h3 h4;subst h2;have:=c_ref5 (e:=e) hl t h1;simp only[rP,eJ h1];exact this
end Go.Proofs.YtonbocmibeikmaaGreat
end
