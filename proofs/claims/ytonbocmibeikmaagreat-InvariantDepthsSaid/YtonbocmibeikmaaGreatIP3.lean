/- My own texts, put together by a program of mine. -/
import Derived.Test.YtonbocmibeikmaaGreatIP2
set_option linter.unusedSimpArgs false
set_option linter.unusedVariables false
set_option maxRecDepth 100000
set_option maxHeartbeats 4000000
section
namespace Go.Proofs.YtonbocmibeikmaaGreat
open Go.Ab Go.Un
structure bG (β:Nat)(L:List Int)(n:Nat)(S:Int→c5):Prop where
  get:∀I,(S I)[β]?=some ⟨0,false,118,2,[.vec L.length (g5 L),.int .i64 I],0⟩
  set:∀I k,(S I).set β ⟨0,false,118,2,[.vec L.length (g5 L),.int .i64 k],0⟩=S k
  len:∀I,(S I).length=n
section
variable {β n:Nat}{L:List Int}{S:Int→c5}
theorem bG.lt (F:bG β L n S):β<n:=by have h:=F.get 0;have:=(List.getElem?_eq_some_iff.1 h).1;rw[F.len]at this;exact this
theorem bG.Lc (F:bG β L n S)(I:Int)(l:c5):(S I++l)[β]?=some ⟨0,false,118,2,[.vec L.length (g5 L),.int .i64 I],0⟩:=by rw[List.getElem?_append_left (by rw[F.len];exact F.lt)];exact F.get I
theorem bG.Ld (F:bG β L n S)(I k:Int)(l:c5):(S I++l).set β ⟨0,false,118,2,[.vec L.length (g5 L),.int .i64 k],0⟩=S k++l:=by rw[List.set_append_left _ _ (by rw[F.len];exact F.lt),F.set]
theorem bG.Le (F:bG β L n S)(I:Int)(l:c5)(k:Nat):(S I++l)[n+k]?=l[k]?:=by rw[List.getElem?_append_right (by rw[F.len];omega),F.len,Nat.add_sub_cancel_left]
theorem bG.Lf (F:bG β L n S)(I:Int)(l:c5):(S I++l)[n]?=l[0]?:=by rw[List.getElem?_append_right (by rw[F.len];omega),F.len,Nat.sub_self]
theorem bG.dU (F:bG β L n S)(I:Int)(l:c5)(k:Nat)(b:Blk):(S I++l).set (n+k) b=S I++l.set k b:=by rw[List.set_append_right _ _ (by rw[F.len];omega),F.len,Nat.add_sub_cancel_left]
theorem bG.put0 (F:bG β L n S)(I:Int)(l:c5)(b:Blk):(S I++l).set n b=S I++l.set 0 b:=by rw[List.set_append_right _ _ (by rw[F.len];omega),F.len,Nat.sub_self]
theorem bG.app (F:bG β L n S)(l:c5):bG β L (n+l.length) fun I=>S I++l:=
  ⟨fun I=>F.Lc I l,fun I k=>F.Ld I k l,fun I=>by simp only[List.length_append,F.len]⟩
theorem bG.kR (F:bG β L n S)(I J:Int):y0 (S I) (S J):=by
  intro γ b hb;by_cases h:γ=β
  · subst h
    rw[F.get]at hb;cases hb;refine .inr fun x hx=>?_;replace hx:=s8z hx;rcases hx with rfl | rfl
    · exact .vec _ _
    · exact .int _ _
  · rw[←F.set I J,List.getElem?_set_ne (Ne.symm h)]at hb
    exact .inl hb
end
theorem xR {l:List Int}{i:Nat}(h:i<l.length):List.take 1 (List.drop i (g5 l))=[AV.int .i64 (l.getD i 0)]:=by unfold g5;rw[←List.map_drop,←List.map_take,List.drop_eq_getElem_cons h,List.take_succ_cons,List.take_zero];simp[List.getD,h]
def aH (l:List BA):List AV:=l.map AV.str
theorem aL (l:List BA):(aH l).length=l.length:=List.length_map _
theorem sI {l:List BA}{i:Nat}(h:i<l.length):List.take 1 (List.drop i (aH l))=[AV.str (l.getD i ByteArray.empty)]:=by unfold aH;rw[←List.map_drop,←List.map_take,List.drop_eq_getElem_cons h,List.take_succ_cons,List.take_zero];simp[List.getD,h]
theorem gY:((maxLen:Nat):Int)=9223372036854775807:=rfl
theorem J0 {α:Type}{l:List α}:(List.replicate 1 l).flatten=l:=by simp
theorem Q0 {α:Type}{l:List α}:(List.replicate 2 l).flatten=l++l:=by simp[List.replicate_succ]
theorem Y7 {α:Type}{l:List α}:(List.replicate 0 l).flatten=[]:=rfl
theorem Y8:(0≤maxLen)=True:=by simp
theorem zY:(1≤maxLen)=True:=by simp;decide
theorem max2:(2≤maxLen)=True:=by simp;decide
attribute [local go_sem] l6 aL Int.natCast_nonneg Int.natCast_inj List.length_map
variable {h:c5}
theorem nB (x n:Int)(hn:0<n)(hm:n≤4611686018427387904):CB 27 [.int .i64 x,.int .i64 n] h (.int .i64 (within x n)):=by refine CallA.body (Q:=fun y'=>y'=.int .i64 (within x n)) v9 fn27 rfl ?_;simp only[ntm27,List.length_cons,List.length_nil,Nat.reduceAdd,Nat.reduceSub,List.replicate,List.cons_append,List.nil_append];refine c8z ?_;refine n5.pre 1 t72 ?_;refine c7z ?_;refine c8z ?_;refine n5.pre 8 t72 ?_;refine c68z ?_;refine Ends.mk (by simp only[res27,wW,kC,lT];first | rfl | (simp +decide (maxSteps:=2000000) (disch:=omega) only [go_sem,Nat.reduceBEq,Nat.reduceAdd,Nat.reduceSub,Nat.reduceLeDiff,Nat.reduceMul,reduceIte,reduceCtorEq,Int.reduceNeg,Int.reduceToNat,Nat.reduceLT,Int.reduceLE,Int.reduceLT,Int.reduceAdd,Int.reduceSub,Int.reduceMul,wrap64 (lA hn hm).1 (lA hn hm).2,show n≠0 from by omega,show (n=0)=False from by simp;omega];rfl)) ?_;exact ⟨[],_,(List.append_nil _).symm,t40,by rfl⟩
section
attribute [local go_sem] uA dW
theorem c_cut (L:List Int)(n:Nat)(hL:L.length<9223372036854775807):CB 73 [.vec L.length (g5 L),.int .i64 (n:Int)] h (.vec (L.take n).length (g5 (L.take n))):=by
  refine .bz Tryz.f73 13 ?_;refine c69z ?_;refine u2z ?_ ?_
  ·intro e1 qe1;refine c29z ?_;exact ⟨[],_,(List.append_nil _).symm,t40,t142⟩
  intro e1 qe1;refine .sk ?_;refine c29z ?_;exact ⟨[],_,(List.append_nil _).symm,t40,t142⟩
end
def Y9:dG:=⟨[[],[0],[0,1],[0,1,2],[],[4],[4,5],[4,5,6],[4,5,6,7],[0,1,2,3,4,5,6,7,8]],[false,false,false,false,false,false,false,false,false,false]⟩
theorem HF (i:Nat):Y9.isE i=[false,false,false,false,false,false,false,false,false,false].getD i false:=rfl
def Z0:dG:=⟨[[],[0],[0,1],[0,1,2],[],[4],[4,5],[4,5,6],[4,5,6,7],[0,1,2,3,4,5,6,7,8],[0,1,2,3,4,5,6,7,8,9],[],[0,1,2,3,4,5,6,7,8,9,10,11],[0,1,2,3,4,5,6,7,8,9,10,11,12]],[false,false,false,false,false,false,false,false,false,false,false,false,false,false]⟩
theorem J1 (i:Nat):Z0.isE i=[false,false,false,false,false,false,false,false,false,false,false,false,false,false].getD i false:=rfl
variable {N:Nat}
theorem J2 {β:Nat}{L:List Int}{S:Int→c5}(F:bG β L N S)(I n:Int)(hI:OkI L I)(hL:L.length<4611686018427387904)(hn:0<n)(hm:n≤4611686018427387904):CH 75 [.ptr β 0 0,.int .i64 n] (S I) (.int .i64 (c4 L I n).1) (S (c4 L I n).2):=by
  refine CallA.FT v9 fn75 rfl ?_;simp only[ntm75,List.length_cons,List.length_nil,Nat.reduceAdd,Nat.reduceSub,List.replicate,List.cons_append,List.nil_append];have hI0:=hI.1;have hI1:=hI.2;refine c8z ?_;refine n5.pre 1 t48 ?_;refine c140z ?_;refine c8.seq ?_;refine c8.NY v9 Y9 (by kernel_rfl) (by kernel_rfl) ?_;refine iZ.pre 10 (by simp (maxSteps:=2000000) (disch:=omega) only [go_sem,Nat.reduceBEq,Nat.reduceAdd,Nat.reduceSub,Nat.reduceLeDiff,Nat.reduceMul,reduceIte,reduceCtorEq,Int.reduceNeg,Int.reduceToNat,Nat.reduceLT,Int.reduceLE,Int.reduceLT,Int.reduceAdd,Int.reduceSub,Int.reduceMul,F.get,F.set,F.len,wrap64,xR,Int.add_sub_cancel,if_pos,if_neg,HF];rfl) ?_;show _;change c8 _ _ _ _ _;refine c8.split 14 rfl (fun e1=>?_) (fun e1=>?_)
  · try simp only[e1]
    have qe1:=e1;try replace qe1:=s10z qe1
    refine c8.yZ rfl ?_;refine c8z ?_;refine n5.pre 1 t48 ?_;refine c68z ?_;refine Ends.mk (by simp only[YJ,wW,kC,lT];first | rfl | (simp (maxSteps:=2000000) (disch:=omega) only [go_sem,Nat.reduceBEq,Nat.reduceAdd,Nat.reduceSub,Nat.reduceLeDiff,Nat.reduceMul,reduceIte,reduceCtorEq,Int.reduceNeg,Int.reduceToNat,Nat.reduceLT,Int.reduceLE,Int.reduceLT,Int.reduceAdd,Int.reduceSub,Int.reduceMul,F.get,F.set,F.len,wrap64,xR,Int.add_sub_cancel,if_pos,if_neg];rfl)) ?_;exact ⟨_,[],_,(List.append_nil _).symm,t39,F.kR _ _,by first | rfl | skip,t144⟩
  · try simp only[e1]
    have qe1:=e1;try replace qe1:=s10z qe1
    refine c187z ?_;refine n5.pre 8 t48 ?_;refine c140z ?_;refine c8.NY v9 Z0 (by kernel_rfl) (by kernel_rfl) ?_;refine iZ.pre 12 t80 ?_;refine iZ.call rfl rfl rfl hb27 (nB _ _ (by omega) (by omega)) ?_;refine iZ.pre 1 t80 ?_;show _;change c8 _ _ _ _ _;refine c8.ret ?_;refine Ends.mk (by simp only[YJ,wW,kC,lT];first | rfl | (simp (maxSteps:=2000000) (disch:=omega) only [go_sem,Nat.reduceBEq,Nat.reduceAdd,Nat.reduceSub,Nat.reduceLeDiff,Nat.reduceMul,reduceIte,reduceCtorEq,Int.reduceNeg,Int.reduceToNat,Nat.reduceLT,Int.reduceLE,Int.reduceLT,Int.reduceAdd,Int.reduceSub,Int.reduceMul,F.get,F.set,F.len,wrap64,xR,Int.add_sub_cancel,if_pos,if_neg,J1];rfl)) ?_;exact ⟨_,[],_,(List.append_nil _).symm,t39,F.kR _ _,by first | rfl | skip,t144⟩
theorem mK {β:Nat}{L:List Int}{S:Int→c5}(F:bG β L N S)(l:c5)(I n:Int)(hI:OkI L I)(hL:L.length<4611686018427387904)(hn:0<n)(hm:n≤4611686018427387904):CH 75 [.ptr β 0 0,.int .i64 n] (S I++l) (.int .i64 (c4 L I n).1) (S (c4 L I n).2++l):=J2 (F.app l) I n hI hL hn hm
theorem num_pos {L:List Int}{I:Int}(h:(c4 L I 8).1=1):Y5 L I=c4 L (c4 L I 8).2 4611686018427387904:=if_pos h
theorem num_neg {L:List Int}{I:Int}(h:¬(c4 L I 8).1=1):Y5 L I=c4 L (c4 L I 8).2 4:=if_neg h
theorem PN {β:Nat}{L:List Int}{S:Int→c5}(F:bG β L N S)(I:Int)(hI:OkI L I)(hL:L.length<4611686018427387904):CH 178 [.ptr β 0 0] (S I) (.int .i64 (Y5 L I).1) (S (Y5 L I).2):=by
  refine CallA.FT v9 fn178 rfl ?_;simp only[ntm178,List.length_cons,List.length_nil,Nat.reduceAdd,Nat.reduceSub,List.replicate,List.cons_append,List.nil_append];have h8:=l8 hI (n:=8) (by omega);refine c8z ?_;refine n5.pre 1 t21 ?_;refine c140z ?_;refine c8z ?_;refine n5.pre 1 t21 ?_;refine n5.s4 rfl rfl rfl wS (J2 F I 8 hI hL (by omega) (by omega)) ?_;refine n5.pre 1 t21 ?_;refine c7z ?_;refine c8.split 5 rfl (fun e1=>?_) (fun e1=>?_)
  · try simp only[e1]
    have qe1:=e1;try replace qe1:=s10z qe1
    refine c8.yZ rfl ?_;refine c8z ?_;refine n5.pre 1 t21 ?_;refine n5.s4 rfl rfl rfl wS (J2 F _ _ h8.2.2 hL (by omega) (by omega)) ?_;refine n5.pre 1 t21 ?_;refine c68z ?_;refine Ends.mk t83 ?_;exact ⟨_,[],_,(List.append_nil _).symm,t39,F.kR _ _,by first | rfl | skip,t158⟩
  · try simp only[e1]
    have qe1:=e1;try replace qe1:=s10z qe1
    refine c187z ?_;refine n5.pre 1 t21 ?_;refine n5.s4 rfl rfl rfl wS (J2 F _ _ h8.2.2 hL (by omega) (by omega)) ?_;refine n5.pre 1 t21 ?_;refine c68z ?_;refine Ends.mk t83 ?_;exact ⟨_,[],_,(List.append_nil _).symm,t39,F.kR _ _,by first | rfl | skip,t158⟩
theorem pX {β:Nat}{L:List Int}{S:Int→c5}(F:bG β L N S)(l:c5)(I:Int)(hI:OkI L I)(hL:L.length<4611686018427387904):CH 178 [.ptr β 0 0] (S I++l) (.int .i64 (Y5 L I).1) (S (Y5 L I).2++l):=PN (F.app l) I hI hL
variable {a:Ex}
theorem PO {l:List AV}:List.take 4 (s9 a++l)=s9 a:=List.take_left' (n8 a)
theorem PQ {l:List AV}:List.drop 8 (s9 a++l)=List.drop 4 l:=by rw[List.drop_append,n8,List.drop_of_length_le (by rw[n8];omega)];rfl
theorem xS {α γ:Type}{f:α→Option γ}{l l2:List α}{r r2:List γ}(h:p6 f l=some r)(h2:p6 f l2=some r2):p6 f (l++l2)=some (r++r2):=by
  induction l generalizing r with
  | nil=>cases h;exact h2
  | cons x l ih=>
    simp only[p6,List.cons_append]at h ⊢;cases hx:f x with
    | none=>simp only[hx]at h;cases h
    | some y=>
      simp only[hx]at h;cases hl:p6 f l with
      | none=>simp only[hl]at h;cases h
      | some ys=>
        simp only[hl,Option.some.injEq]at h;subst h;simp only[ih hl,List.cons_append]
theorem DC {n d:Nat}(a:Ex):p6 (lP n h (d+1)) (s9 a)=some (s9 a):=by rw[bN];rfl
theorem HG {n d:Nat}(a b:Ex):p6 (lP n h (d+1)) (s9 a++s9 b)=some (s9 a++s9 b):=xS (DC a) (DC b)
theorem gA:List.take 4 (s9 a)=s9 a:=List.take_of_length_le (by rw[n8];omega)
theorem HH {b:Ex}:List.take 8 (s9 a++s9 b)=s9 a++s9 b:=List.take_of_length_le (by simp[n8])
theorem Q1 {b:Ex}:(s9 a++s9 b).length=8:=by simp[n8]
theorem c_expr0 {β:Nat}{L:List Int}{S:Int→c5}(F:bG β L N S)(I:Int)(hI:OkI L I)(hL:L.length<4611686018427387904)(names:List BA)(hN:names.length<1000):CH 158 [.ptr β 0 0,.vec names.length (aH names),.int .i64 0] (S I) (.agg (s9 (dM L names 0 I).1)) (S (dM L names 0 I).2):=by
  refine CallA.FT v9 fn158 rfl ?_;simp only[UZ,List.length_cons,List.length_nil,Nat.reduceAdd,Nat.reduceSub,List.replicate,List.cons_append,List.nil_append];have h10:=l8 hI (n:=10) (by omega);have h2:=l8 h10.2.2 (n:=2) (by omega);refine c8z ?_;refine n5.pre 1 t5 ?_;refine c7z ?_;refine c8z ?_;refine n5.pre 1 t5 ?_;refine n5.s4 rfl rfl rfl wS (mK F _ I 10 hI hL (by omega) (by omega)) ?_;refine n5.pre 1 t5 ?_;refine c140z ?_;refine c8.block ?_;refine c8z ?_;refine n5.pre 3 t5 ?_;refine n5.split 13 rfl (fun e1=>?_) (fun e1=>?_)
  · try simp only[e1]
    have qe1:=e1;try replace qe1:=s10z qe1
    refine n5.pre 4 t5 ?_;refine c7z ?_;refine c232z ?_;refine c8z ?_;refine n5.pre 4 t5 ?_;refine n5.split 20 rfl (fun e2=>?_) (fun e2=>?_)
    · try simp only[e2]
      have qe2:=e2;try replace qe2:=s10z qe2
      refine n5.pre 1 t5 ?_;refine n5.s4 rfl rfl rfl wS (mK F _ _ 2 h10.2.2 hL (by omega) (by omega)) ?_;refine n5.pre 2 t5 ?_;refine c7z ?_;refine c8.split 24 rfl (fun e3=>?_) (fun e3=>?_)
      · try simp only[e3]
        have qe3:=e3;try replace qe3:=s10z qe3
        refine c232z ?_;have hn:=l8 h2.2.2 (n:=(names.length:Int)) (by omega);refine c8.region v9 ?_;refine n5.pre 4 t5 ?_;refine n5.s4 rfl rfl rfl wS (mK F _ _ _ h2.2.2 hL (by omega) (by omega)) ?_;refine n5.pre 4 t5 ?_;refine c68z ?_;refine Ends.mk t36 ?_;exact ⟨S _,_,_,rfl,t39,F.kR _ _,t9,t59⟩
      · try simp only[e3]
        have qe3:=e3;try replace qe3:=s10z qe3
        refine c187z ?_;refine n5.pre 1 t5 ?_;refine n5.s4 rfl rfl rfl OW (pX F _ _ t157 hL) ?_;refine n5.pre 2 t5 ?_;refine c68z ?_;refine Ends.mk t36 ?_;exact ⟨S _,_,_,rfl,t39,F.kR _ _,t9,t59⟩
    · try simp only[e2]
      have qe2:=e2;try replace qe2:=s10z qe2
      refine n5.pre 4 t5 ?_;refine c7z ?_;refine c187z ?_;refine n5.pre 1 t5 ?_;refine n5.s4 rfl rfl rfl OW (pX F _ _ t157 hL) ?_;refine n5.pre 2 t5 ?_;refine c68z ?_;refine Ends.mk t36 ?_;exact ⟨S _,_,_,rfl,t39,F.kR _ _,t9,t59⟩
  · exfalso;first | cases e1 | (simp at e1)
theorem c_exprS {β:Nat}{L:List Int}{S:Int→c5}(F:bG β L N S)(I:Int)(hI:OkI L I)(hL:L.length<4611686018427387904)(names:List BA)(hN:names.length<1000)(d:Nat)(hd:d<1000)(ih:∀{N:Nat} {S:Int→c5} (F:bG β L N S) (I:Int),OkI L I→CH 158 [.ptr β 0 0,.vec names.length (aH names),.int .i64 (d:Int)] (S I) (.agg (s9 (dM L names d I).1)) (S (dM L names d I).2)):CH 158 [.ptr β 0 0,.vec names.length (aH names),.int .i64 ((d+1:Nat):Int)] (S I) (.agg (s9 (dM L names (d+1) I).1)) (S (dM L names (d+1) I).2):=by
  refine CallA.FT v9 fn158 rfl ?_;simp only[UZ,List.length_cons,List.length_nil,Nat.reduceAdd,Nat.reduceSub,List.replicate,List.cons_append,List.nil_append];have h10:=l8 hI (n:=10) (by omega);have h2:=l8 h10.2.2 (n:=2) (by omega);have h13:=l8 h10.2.2 (n:=13) (by omega);have ht:0≤(c4 L I 10).1.tmod 2∧(c4 L I 10).1.tmod 2<2:=⟨Int.tmod_nonneg _ h10.1,Int.tmod_lt_of_pos _ (by omega)⟩;refine c8z ?_;refine n5.pre 1 t0 ?_;refine c7z ?_;refine c8z ?_;refine n5.pre 1 t0 ?_;refine n5.s4 rfl rfl rfl wS (mK F _ I 10 hI hL (by omega) (by omega)) ?_;refine n5.pre 1 t0 ?_;refine c140z ?_;refine c8.block ?_;refine c8z ?_;refine n5.pre 3 t0 ?_;refine n5.split 13 rfl (fun e1=>?_) (fun e1=>?_)
  · exfalso;first | (simp only[beq_iff_eq]at e1;omega) | (simp at e1)
  · try simp only[e1]
    have qe1:=e1;try replace qe1:=s10z qe1
    refine n5.pre 4 t0 ?_;refine c7z ?_;refine c8.split 10 rfl (fun e2=>?_) (fun e2=>?_)
    · try simp only[e2]
      have qe2:=e2;try replace qe2:=s10z qe2
      refine c232z ?_;refine c8z ?_;refine n5.pre 4 t0 ?_;refine n5.split 20 rfl (fun e3=>?_) (fun e3=>?_)
      · try simp only[e3]
        have qe3:=e3;try replace qe3:=s10z qe3
        refine n5.pre 1 t0 ?_;refine n5.s4 rfl rfl rfl wS (mK F _ _ 2 h10.2.2 hL (by omega) (by omega)) ?_;refine n5.pre 2 t0 ?_;refine c7z ?_;refine c8.split 24 rfl (fun e4=>?_) (fun e4=>?_)
        · try simp only[e4]
          have qe4:=e4;try replace qe4:=s10z qe4
          refine c232z ?_;have hn:=l8 h2.2.2 (n:=(names.length:Int)) (by omega);refine c8.region v9 ?_;refine n5.pre 4 t0 ?_;refine n5.s4 rfl rfl rfl wS (mK F _ _ _ h2.2.2 hL (by omega) (by omega)) ?_;refine n5.pre 4 t0 ?_;refine c227z ?_;exact ⟨S _,_,_,rfl,t39,F.kR _ _,t9,t20⟩
        · try simp only[e4]
          have qe4:=e4;try replace qe4:=s10z qe4
          refine c187z ?_;refine n5.pre 1 t0 ?_;refine n5.s4 rfl rfl rfl OW (pX F _ _ t157 hL) ?_;refine n5.pre 2 t0 ?_;refine c227z ?_;exact ⟨S _,_,_,rfl,t39,F.kR _ _,t9,t20⟩
      · try simp only[e3]
        have qe3:=e3;try replace qe3:=s10z qe3
        refine n5.pre 4 t0 ?_;refine c7z ?_;refine c187z ?_;refine n5.pre 1 t0 ?_;refine n5.s4 rfl rfl rfl OW (pX F _ _ t157 hL) ?_;refine n5.pre 2 t0 ?_;refine c227z ?_;exact ⟨S _,_,_,rfl,t39,F.kR _ _,t9,t20⟩
    · try simp only[e2]
      have qe2:=e2;try replace qe2:=s10z qe2
      refine c8.CF rfl ?_;refine c8z ?_;refine n5.pre 3 t0 ?_;refine c7z ?_;refine c8.split 36 rfl (fun e5=>?_) (fun e5=>?_)
      · try simp only[e5]
        have qe5:=e5;try replace qe5:=s10z qe5
        refine c8.yZ rfl ?_;refine c8z ?_;refine n5.pre 7 t0 ?_;refine n5.s4 rfl rfl rfl OV (ih (F.app _) _ h10.2.2) ?_;refine n5.pre 3 t0 ?_;refine c227z ?_;exact ⟨S _,_,_,rfl,t39,F.kR _ _,t9,t20⟩
      · try simp only[e5]
        have qe5:=e5;try replace qe5:=s10z qe5
        refine c187z ?_;refine n5.pre 1 t0 ?_;refine n5.s4 rfl rfl rfl wS (mK F _ _ 13 h10.2.2 hL (by omega) (by omega)) ?_;refine n5.pre 5 t0 ?_;refine n5.s4 rfl rfl rfl OV (ih (F.app _) _ h13.2.2) ?_;refine n5.pre 4 t0 ?_;refine n5.s4 rfl rfl rfl OV (ih (F.app _) _ (oQ h13.2.2).2) ?_;refine n5.pre 3 t0 ?_;refine c227z ?_;exact ⟨S _,_,_,rfl,t39,F.kR _ _,t9,t20⟩
theorem VK {β:Nat}{L:List Int}(hL:L.length<4611686018427387904)(names:List BA)(hN:names.length<1000):∀(d:Nat),d<1000→∀{N:Nat} {S:Int→c5} (F:bG β L N S) (I:Int),OkI L I→CH 158 [.ptr β 0 0,.vec names.length (aH names),.int .i64 (d:Int)] (S I) (.agg (s9 (dM L names d I).1)) (S (dM L names d I).2)
  | 0,_,_,_,F,I,hI=>c_expr0 F I hI hL names hN
  | d+1,hd,_,_,F,I,hI=>c_exprS F I hI hL names hN d (by omega) fun F I hI=>VK hL names hN d (by omega) F I hI
end Go.Proofs.YtonbocmibeikmaaGreat
end
section
namespace Go.Un
open Go.Ab
variable {c:UInt8}
theorem PR (h:isL c=true):isW c=true:=by simp[isW,h]
theorem isW_D (h:isD c=true):isW c=true:=by simp[isW,h]
theorem Q2 (h:wT c=true):isW c=false:=by simp only[wT,Bool.or_eq_true,beq_iff_eq]at h;simp only[isW,isL,isD,Bool.or_eq_false_iff,Bool.and_eq_false_iff,decide_eq_false_iff_not];omega
theorem VL (h:isL c=true):isD c=false:=by simp only[isL,Bool.or_eq_true,Bool.and_eq_true,decide_eq_true_eq]at h;simp only[isD,Bool.and_eq_false_iff,decide_eq_false_iff_not];omega
theorem vG (h:c∈OY):wT c=false∧isL c=false∧isD c=false:=by simp only[OY,List.mem_cons,List.not_mem_nil,or_false]at h;rcases h with rfl | rfl | rfl | rfl | rfl | rfl | rfl | rfl | rfl | rfl | rfl | rfl | rfl | rfl | rfl | rfl | rfl<;>decide
theorem vH {d:UInt8}(h:(c,d)∈CV):wT c=false∧isL c=false∧isD c=false:=by simp only[CV,List.mem_cons,List.not_mem_nil,or_false,Prod.mk.injEq]at h;rcases h with ⟨rfl,_⟩ | ⟨rfl,_⟩ | ⟨rfl,_⟩ | ⟨rfl,_⟩ | ⟨rfl,_⟩ | ⟨rfl,_⟩<;>decide
variable {s:Bs}{n:Nat}
theorem LX.sp_inv (h:LX (c::s) n)(hc:wT c=true):LX s n:=by
 have hw:=Q2 hc;generalize e:c::s=t at h;cases h with
 | nil=>cases e
 | space _ h=>cases e;exact h
 | word hc' _ _ _ _=>cases e;rw[PR hc']at hw;cases hw
 | num hc' _ _ _ _=>cases e;rw[isW_D hc']at hw;cases hw
 | one hc' _ _=>cases e;rw[(vG hc').1]at hc;cases hc
 | two hc' _=>cases e;rw[(vH hc').1]at hc;cases hc
theorem LX.PS (h:LX (c::s) n)(hc:isL c=true):∃w r m,s=w++r∧(∀d∈w,isW d=true)∧w.length<16∧NW r∧n=m+1∧LX r m:=by
 generalize e:c::s=t at h;cases h with
 | nil=>cases e
 | space hc' h=>cases e;have:=Q2 hc';rw[PR hc]at this;cases this
 | word hc' h1 h2 h3 h4=>cases e;exact ⟨_,_,_,rfl,h1,h2,h3,rfl,h4⟩
 | num hc' _ _ _ _=>cases e;rw[VL hc]at hc';cases hc'
 | one hc' _ _=>cases e;rw[(vG hc').2.1]at hc;cases hc
 | two hc' _=>cases e;rw[(vH hc').2.1]at hc;cases hc
theorem LX.num_inv (h:LX (c::s) n)(hc:isD c=true):∃w r m,s=w++r∧(∀d∈w,isD d=true)∧wU (c::w)<9223372036854775808∧NW r∧n=m+1∧LX r m:=by
 generalize e:c::s=t at h;cases h with
 | nil=>cases e
 | space hc' h=>cases e;have:=Q2 hc';rw[isW_D hc]at this;cases this
 | word hc' h1 h2 h3 h4=>cases e;rw[VL hc']at hc;cases hc
 | num hc' h1 h2 h3 h4=>cases e;exact ⟨_,_,_,rfl,h1,h2,h3,rfl,h4⟩
 | one hc' _ _=>cases e;rw[(vG hc').2.2]at hc;cases hc
 | two hc' _=>cases e;rw[(vH hc').2.2]at hc;cases hc
theorem LX.J3 (h:LX (c::s) n)(h1:wT c=false)(h2:isL c=false)(h3:isD c=false):(∃d r m,s=d::r∧(c,d)∈CV∧n=m+1∧LX r m)∨(∃m,c∈OY∧(∀d,s.head?=some d→(c,d)∉CV∧(c,d)≠(47,47))∧n=m+1∧LX s m):=by
 generalize e:c::s=t at h;cases h with
 | nil=>cases e
 | space hc' h=>cases e;rw[h1]at hc';cases hc'
 | word hc' _ _ _ _=>cases e;rw[h2]at hc';cases hc'
 | num hc' _ _ _ _=>cases e;rw[h3]at hc';cases hc'
 | one hc' h5 h6=>cases e;exact .inr ⟨_,hc',h5,rfl,h6⟩
 | two hc' h6=>cases e;exact .inl ⟨_,_,_,rfl,hc',rfl,h6⟩
def bat (L:Bs)(i:Nat):UInt8:=L.getD i 0
variable {L:Bs}{i:Nat}
theorem bW (h:i<L.length):L.drop i=bat L i::L.drop (i+1):=by rw[List.drop_eq_getElem_cons h];simp[bat,List.getD,h]
variable {k:Nat}
theorem PT {u v:Bs}(h:L.drop i=u++v)(hk:k<u.length):bat L (i+k)=u.getD k 0:=by
 have:(L.drop i).getD k 0=bat L (i+k):=by simp[bat,List.getD]
 rw[←this,h];simp[List.getD,List.getElem?_append_left hk]
theorem zZ {u v:Bs}(h:L.drop i=u++v):L.drop (i+u.length)=v:=by rw[←List.drop_drop,h,List.drop_left]
theorem LX.DD (h:LX (L.drop i) n)(hi:i+1<L.length)(h1:(bat L i).toNat=47)(h2:(bat L (i+1)).toNat=47):False:=by
 have e1:bat L i=47:=UInt8.toNat_inj.1 h1;have e2:bat L (i+1)=47:=UInt8.toNat_inj.1 h2;rw[bW (by omega),e1]at h;rcases h.J3 (by decide) (by decide) (by decide) with ⟨d,r,m,e,hm,_⟩ | ⟨m,_,h5,_⟩
 ·rw[bW hi,e2]at e;cases e;exact absurd hm (by decide)
 ·exact (h5 47 (by rw[bW hi,e2];rfl)).2 rfl
theorem LX.HI (h:LX (L.drop i) n)(hi:i<L.length)(hc:wT (bat L i)=true):LX (L.drop (i+1)) n:=by rw[bW hi]at h;exact h.sp_inv hc
structure Span (L:Bs)(p:UInt8→Bool)(i e:Nat):Prop where
 lt:i<e
 le:e≤L.length
 all:∀j,i≤j→j<e→p (bat L j)=true
 stop:e<L.length→p (bat L e)=false
theorem Span.of {p:UInt8→Bool}{w r:Bs}(hd:L.drop i=c::w++r)(hc:p c=true)(hw:∀d∈w,p d=true)(hr:∀d,r.head?=some d→p d=false):Span L p i (i+(w.length+1)):=by
 have hl:(L.drop i).length=w.length+1+r.length:=by rw[hd];simp;omega
 rw[List.length_drop]at hl;have hrr:L.drop (i+(w.length+1))=r:=by have:=zZ (u:=c::w) (v:=r) (by rw[hd]);simpa using this
 refine ⟨by omega,by omega,fun j h1 h2=>?_,fun h=>?_⟩
 ·obtain ⟨k,rfl⟩:∃k,j=i+k:=⟨j-i,by omega⟩;rw[PT (u:=c::w) (v:=r) hd t60];cases k with
  | zero=>exact hc
  | succ k=>
   have hk:k<w.length:=by omega
   have:(c::w).getD (k+1) 0=w[k]:=by simp[List.getD,hk]
   rw[this];exact hw _ (List.getElem_mem hk)
 ·refine hr _ ?_;rw[←hrr,bW h];rfl
theorem LX.HJ (h:LX (L.drop i) n)(hi:i<L.length)(hc:isL (bat L i)=true):∃e m,Span L isW i e∧e≤i+16∧n=m+1∧LX (L.drop e) m:=by
 rw[bW hi]at h;obtain ⟨w,r,m,e,h1,h2,h3,rfl,h4⟩:=h.PS hc;have hd:L.drop i=bat L i::w++r:=by rw[bW hi,e];rfl
 refine ⟨_,m,Span.of hd (PR hc) h1 h3,by omega,rfl,?_⟩;have:=zZ (u:=bat L i::w) (v:=r) (by rw[hd]);rw[List.length_cons]at this;rw[this];exact h4
theorem LX.PU (h:LX (L.drop i) n)(hi:i<L.length)(hc:isD (bat L i)=true):∃e m,Span L isD i e∧wU ((L.drop i).take (e-i))<9223372036854775808∧n=m+1∧LX (L.drop e) m:=by
 rw[bW hi]at h;obtain ⟨w,r,m,e,h1,h2,h3,rfl,h4⟩:=h.num_inv hc;have hd:L.drop i=bat L i::w++r:=by rw[bW hi,e];rfl
 refine ⟨_,m,Span.of hd hc h1 fun d hd=>?_,?_,rfl,?_⟩
 ·have:=h3 d hd;simp only[isW,Bool.or_eq_false_iff]at this;exact this.2
 ·rw[show i+(w.length+1)-i=(bat L i::w).length from by simp,hd,List.take_left];exact h2
 ·have:=zZ (u:=bat L i::w) (v:=r) (by rw[hd]);rw[List.length_cons]at this;rw[this];exact h4
def sgn (L:Bs)(i:Nat):Nat:=if i+1<L.length∧(bat L i,bat L (i+1))∈CV then 2 else if bat L i∈OY then 1 else 0
theorem LX.HK (h:LX (L.drop i) n)(hi:i<L.length)(h1:wT (bat L i)=false)(h2:isL (bat L i)=false)(h3:isD (bat L i)=false):0<sgn L i∧i+sgn L i≤L.length∧∃m,n=m+1∧LX (L.drop (i+sgn L i)) m:=by
 rw[bW hi]at h;rcases h.J3 h1 h2 h3 with ⟨d,r,m,e,hm,rfl,h4⟩ | ⟨m,hm,h5,rfl,h4⟩
 ·have hl:(L.drop (i+1)).length=r.length+1:=by rw[e];rfl
  rw[List.length_drop]at hl;have hd:bat L (i+1)=d:=by rw[bW (by omega)]at e;injection e
  have hr:L.drop (i+2)=r:=by rw[bW (by omega)]at e;injection e
  rw[sgn,if_pos ⟨by omega,by rw[hd];exact hm⟩];exact ⟨by omega,by omega,m,rfl,by rw[hr];exact h4⟩
 ·rw[sgn,if_neg (fun hx=>(h5 (bat L (i+1)) (by rw[bW hx.1];rfl)).1 hx.2),if_pos hm];exact ⟨by omega,by omega,m,rfl,h4⟩
variable {l:Bs}
theorem J4 (h:k<l.length):wU (l.take (k+1))=10*wU (l.take k)+((bat l k).toNat-48):=by rw[List.take_succ_eq_append_getElem h,I0];simp[bat,List.getD,h]
theorem HL:∀{k m:Nat},k≤m→wU (l.take k)≤wU (l.take m):=by
 intro k m hm;induction hm with
 | refl=>exact Nat.le_refl _
 | @step m _ ih=>
  by_cases h:m<l.length
  ·rw[J4 h];omega
  ·rw[List.take_of_length_le (i:=m+1) (by omega)];rw[List.take_of_length_le (i:=m) (by omega)]at ih;exact ih
def tP (l:Bs):List AV:=l.map fun c=>.int .u8 (c.toNat:Int)
theorem nC (l:Bs):(tP l).length=l.length:=List.length_map _
theorem read_b (h:i<l.length):List.take 1 (List.drop i (tP l))=[AV.int .u8 ((bat l i).toNat:Int)]:=by unfold tP;rw[←List.map_drop,←List.map_take,List.drop_eq_getElem_cons h,List.take_succ_cons,List.take_zero];simp[bat,List.getD,h]
theorem VM:List.take k (List.drop i (tP l))=tP ((l.drop i).take k):=by unfold tP;rw[List.map_take,List.map_drop]
theorem Q3:∀l:Bs,jC (tP l)=some l
 | []=>rfl
 | c::l=>by show (jC (tP l)).map _=_;rw[Q3 l];simp
end Go.Un
end
section
namespace Go.Proofs.YtonbocmibeikmaaGreat
open Go.Ab Go.Un
theorem DE {n:Int}(h1:0≤n)(h2:n<256):IntKind.wrap .u8 n=n:=by rw[IntKind.wrap_u8];omega
theorem J5 {f:FuncId}{args:List AV}{s:AV}(ha:args.all (z1 0 9)=true)(r:CallA Tryz.prog cfg f args [] fun y _=>YD y=s)(h:c5):CallA Tryz.prog cfg f args h fun y h'=>y=s∧h'=h:=by intro B φ w cargs i hs hr;have hst:∀k,k<w.heap.size→U5 [] φ w k:=fun k hk=>⟨hk,fun β b hb=>by simp at hb⟩;have i0:Pic cfg.glob w.heap.size [] φ w:=⟨fun β b hb=>by simp at hb,fun β β' b b' hb=>by simp at hb,fun β b hb=>by simp at hb,fun β b hb=>by simp at hb,Nat.le_refl _,fun g=>(i.glob g).mono fun k j hk=>⟨rfl,(hst k hk.1).U6 j⟩⟩;refine (r w.heap.size φ w cargs i0 hs (fun j v x h1 h2=>FO (hr j v x h1 h2) (cX 9 x (List.all_eq_true.1 ha x (List.mem_of_getElem? h2))))).mono fun e w' hp=>?_;obtain ⟨v,y,h',φ',rfl,h1,h2,h3,hq⟩:=hp;have hk:∀k,k<w.heap.size→w'.heap[k]?=w.heap[k]?:=fun k hk=>(h2.kR k (hst k hk)).1;have ev:Ev h φ w h φ w':=⟨h2.os,h2.tape,h2.output,h2.size,fun k hs=>⟨hk k hs.1,Nat.lt_of_lt_of_le hs.1 h2.size,hs.2⟩,fun k j hs=>⟨World.cell?_of_block (hk k hs.1),Nat.lt_of_lt_of_le hs.1 h2.size,hs.2⟩,Nat.le_refl _,fun β b b' e1 e2=>by rw[e1]at e2;cases e2;exact ⟨Nat.le_refl _,fun _=>⟨rfl,rfl,rfl⟩⟩⟩;refine ⟨v,_,h,φ,rfl,⟨fun β b hb hv=>?_,i.inj,i.base,i.virt,Nat.le_trans i.room h2.size,fun g=>ev.N7 (i.glob g)⟩,ev,zH h3,hq,rfl⟩;obtain ⟨cur,q1,q2,q3,q4⟩:=i.blk β b hb hv;exact ⟨cur,(hk _ (Array.getElem?_eq_some_iff.1 q1).1).trans q1,q2,q3,fun j v x a d=>⟨(q4 j v x a d).1,ev.rel (q4 j v x a d).2⟩⟩
def hasB (l:List BA)(s:BA):Bool:=l.any fun x=>x.toList==s.toList
variable {l:List BA}{s:BA}{i:Nat}
theorem has_t (hi:i<l.length)(h:((l.getD i ByteArray.empty).toList==s.toList)=true):hasB l s=true:=List.any_eq_true.2 ⟨_,g8 hi,h⟩
theorem has_f (hi:l.length≤i)(h:∀d,d<i→((l.getD d ByteArray.empty).toList==s.toList)=false):hasB l s=false:=by refine List.any_eq_false.2 fun x hx=>?_;obtain ⟨d,h1,rfl⟩:=bV (d:=ByteArray.empty) hx;rw[h d (by omega)];decide
theorem PV (h:∀d,d<i→((l.getD d ByteArray.empty).toList==s.toList)=false)(e:((l.getD i ByteArray.empty).toList==s.toList)=false):∀d,d<i+1→((l.getD d ByteArray.empty).toList==s.toList)=false:=fun d hd=>by
  by_cases hdi:d=i
  · rw[hdi];exact e
  · exact h d (by omega)
def VN:List BA:=[⟨#[118,97,114]⟩,⟨#[109,117,116,101,120]⟩,⟨#[114,109,117,116,101,120]⟩,⟨#[102,117,110,99]⟩,⟨#[108,111,99,107]⟩,⟨#[117,110,108,111,99,107]⟩,⟨#[103,111]⟩,⟨#[105,102]⟩,⟨#[101,108,115,101]⟩,⟨#[119,104,105,108,101]⟩,⟨#[114,101,116,117,114,110]⟩]
def twoN:List BA:=[⟨#[60,61]⟩,⟨#[62,61]⟩,⟨#[61,61]⟩,⟨#[33,61]⟩,⟨#[38,38]⟩,⟨#[124,124]⟩]
def Lj:List BA:=[⟨#[40]⟩,⟨#[41]⟩,⟨#[123]⟩,⟨#[125]⟩,⟨#[91]⟩,⟨#[93]⟩,⟨#[44]⟩,⟨#[59]⟩,⟨#[61]⟩,⟨#[43]⟩,⟨#[45]⟩,⟨#[42]⟩,⟨#[47]⟩,⟨#[37]⟩,⟨#[60]⟩,⟨#[62]⟩,⟨#[33]⟩]
def tQ (s:BA):Bool:=hasB VN s
variable {a:UInt8}
theorem eq2 {x y b:UInt8}:((⟨#[x,y]⟩:BA).toList==(⟨[a,b].toArray⟩:BA).toList)=(decide (a=x)&&decide (b=y)):=by rw[ByteArray.toList_eq,ByteArray.toList_eq];show ([x,y]==[a,b])=_;rw[Bool.eq_iff_iff];simp only[beq_iff_eq,List.cons.injEq,and_true,Bool.and_eq_true,decide_eq_true_eq];exact and_congr eq_comm eq_comm
theorem eq1 {x:UInt8}:((⟨#[x]⟩:BA).toList==(⟨[a].toArray⟩:BA).toList)=decide (a=x):=by rw[ByteArray.toList_eq,ByteArray.toList_eq];show ([x]==[a])=_;rw[Bool.eq_iff_iff];simp only[beq_iff_eq,List.cons.injEq,and_true,decide_eq_true_eq];exact eq_comm
theorem lB {b:UInt8}:hasB twoN ⟨[a,b].toArray⟩=decide ((a,b)∈CV):=by simp only[hasB,twoN,CV,List.any_cons,List.any_nil,eq2,Bool.or_false,List.mem_cons,List.not_mem_nil,or_false,Prod.mk.injEq,Bool.decide_or,Bool.decide_and]
theorem lC:hasB Lj ⟨[a].toArray⟩=decide (a∈OY):=by simp only[hasB,Lj,OY,List.any_cons,List.any_nil,eq1,Bool.or_false,List.mem_cons,List.not_mem_nil,or_false,Bool.decide_or]
variable {L:Bs}
theorem V3 (h:i+1<L.length):(L.drop i).take 2=[bat L i,bat L (i+1)]:=by rw[bW (by omega),bW h];rfl
theorem take_one (h:i<L.length):(L.drop i).take 1=[bat L i]:=by rw[bW h];rfl
theorem str_at (h:i<s.size):s[i]?=some (bat (L8 s) i):=by
  rw[kX]at h;have:s[i]?=s.data.toList[i]?:=by rw[Array.getElem?_toList];rfl
  rw[this];have h2:i<s.data.toList.length:=h;rw[List.getElem?_eq_getElem h2];simp only[bat,L8,List.getD,List.getElem?_eq_getElem h2,Option.getD_some]
theorem name_at (h:isName (L8 s))(hi:i<s.size):isW (bat (L8 s) i)=true∧(i=0→isL (bat (L8 s) i)=true):=by
  obtain ⟨c,w,e,h1,h2,h3⟩:=h;rw[kX,e]at hi;rw[e];cases i with
  | zero=>exact ⟨PR h1,fun _=>h1⟩
  | succ i=>
    have hi':i<w.length:=by simpa using hi
    refine ⟨?_,fun h=>by omega⟩;have:bat (c::w) (i+1)=w[i]:=by simp[bat,List.getD,hi']
    rw[this];exact h2 _ (List.getElem_mem hi')
theorem eO (h:isName (L8 s)):1≤s.size∧s.size≤16:=by refine ⟨?_,z9 h⟩;obtain ⟨c,w,e,_⟩:=h;rw[kX,e];simp
def skF (L:Bs):Nat→Nat→Nat
  | 0,i=>i
  | f+1,i=>if i<L.length∧wT (bat L i)=true then skF L f (i+1) else i
def sk (L:Bs)(i:Nat):Nat:=skF L (L.length-i) i
theorem vI (h:i<L.length)(hs:wT (bat L i)=true):sk L i=sk L (i+1):=by unfold sk;obtain ⟨f,hf⟩:∃f,L.length-i=f+1:=⟨L.length-i-1,by omega⟩;rw[hf,skF,if_pos ⟨h,hs⟩,show L.length-(i+1)=f from by omega]
theorem HM (h:¬(i<L.length∧wT (bat L i)=true)):sk L i=i:=by
  unfold sk;cases hf:L.length-i with
  | zero=>rfl
  | succ f=>rw[skF,if_neg h]
theorem VO (h:L.length≤i):sk L i=i:=HM fun h'=>by omega
theorem HN (h:wT (bat L i)=false):sk L i=i:=HM fun h'=>by rw[h]at h';cases h'.2
theorem A0 {L:Bs}:∀{f i n:Nat},L.length-i=f→LX (L.drop i) n→i≤L.length→i≤sk L i∧sk L i≤L.length∧LX (L.drop (sk L i)) n∧(sk L i<L.length→wT (bat L (sk L i))=false)
  | 0,i,n,hf,h,hi=>by rw[VO (by omega)];exact ⟨Nat.le_refl _,hi,h,fun h=>by omega⟩
  | f+1,i,n,hf,h,hi=>by
    by_cases hs:wT (bat L i)=true
    · rw[vI (by omega) hs]
      obtain ⟨a,b,c,d⟩:=A0 (f:=f) (i:=i+1) (by omega) (h.HI (by omega) hs) (by omega);exact ⟨by omega,b,c,d⟩
    · rw[HN (by simpa using hs)]
      exact ⟨Nat.le_refl _,hi,h,fun _=>by simpa using hs⟩
variable {c:UInt8}
theorem J6 (h:(c.toNat:Int)=32∨(c.toNat:Int)=9∨(c.toNat:Int)=10∨(c.toNat:Int)=13):wT c=true:=by simp only[wT,Bool.or_eq_true,beq_iff_eq];omega
theorem nosp_of (h1:¬(c.toNat:Int)=32)(h2:¬(c.toNat:Int)=9)(h3:¬(c.toNat:Int)=10)(h4:¬(c.toNat:Int)=13):wT c=false:=by simp only[wT,Bool.or_eq_false_iff,beq_eq_false_iff_ne,ne_eq];omega
variable {e:Nat}
theorem Q4 {p:UInt8→Bool}{j:Nat}(h:Span L p i e)(h2:j≤e)(hj:j<L.length)(hp:p (bat L j)=true):j<e:=by
  by_cases he:j=e
  · subst he
    rw[h.stop hj]at hp;cases hp
  · omega
theorem tR {p:UInt8→Bool}{j:Nat}(h:Span L p i e)(h1:i≤j)(h2:j≤e)(hp:j<L.length→p (bat L j)=false):j=e:=by
  by_cases he:j<e
  · have:=h.le
    rw[h.all j h1 he]at hp;cases hp (by omega)
  · omega
theorem valD_nn {l:Bs}(h:i<l.length)(hd:∀d∈l,isD d=true):48≤(bat l i).toNat∧(bat l i).toNat≤57:=by have:=hd (bat l i) (g8 h);simpa only[isD,Bool.and_eq_true,decide_eq_true_eq] using this
theorem tn2:((i:Int)+2).toNat=i+2:=by omega
theorem tn1:((i:Int)+1).toNat=i+1:=by omega
theorem VP:tP [c]=[.int .u8 ((c.toNat:Nat):Int)]:=rfl
theorem takeL {k:Nat}(h:i+k≤L.length):(List.take k (List.drop i L)).length=k:=by rw[List.length_take,List.length_drop];omega
variable {H:c5}{n:Nat}
theorem VQ {k:Nat}{cs:List AV}:rd H k (.vec n cs)=some cs:=rfl
theorem spanD (h:Span L isD i e):∀d∈(L.drop i).take (e-i),isD d=true:=by
  intro d hd;obtain ⟨j,hj,rfl⟩:=List.mem_iff_getElem.1 hd;have hj2:j<e-i:=by rw[List.length_take]at hj;omega
  have hle:=h.le;have:=h.all (i+j) (by omega) (by omega);have e2:((L.drop i).take (e-i))[j]=bat L (i+j):=by rw[List.getElem_take,List.getElem_drop];simp[bat,List.getD,show i+j<L.length by omega]
  rw[e2];exact this
attribute [local go_sem] nC aL Int.natCast_nonneg Int.natCast_inj List.length_map wrap64 DE read_b sI tn1 tn2 str_at
variable {h:c5}
theorem A1 (c:UInt8):CB 138 [.int .u8 ((c.toNat:Nat):Int)] h (.bool (isL c)):=by
  refine .bz Tryz.f138 21 ?_;refine c91z ?_;refine .spl 5 rfl rfl (fun e1=>?_) (fun e1=>?_)
  ·try simp only[e1]
   have qe1:=fact e1;refine .k 4 [(2,5)] ?_;refine .spl 9 rfl rfl (fun e2=>?_) (fun e2=>?_)
   ·try simp only[e2]
    have qe2:=fact e2;refine .k 8 [(6,9),(9,12)] ?_;refine c221z ?_;exact ⟨[],_,(List.append_nil _).symm,t40,t41⟩
   try simp only[e2]
   have qe2:=fact e2;refine .k 3 [(6,9)] ?_;refine .spl 12 rfl rfl (fun e3=>?_) (fun e3=>?_)
   ·try simp only[e3]
    have qe3:=fact e3;refine .k 5 [(6,9),(9,12)] ?_;refine .spl 17 rfl rfl (fun e4=>?_) (fun e4=>?_)
    ·try simp only[e4]
     have qe4:=fact e4;refine c221z ?_;exact ⟨[],_,(List.append_nil _).symm,t40,t41⟩
    try simp only[e4]
    have qe4:=fact e4;refine c221z ?_;exact ⟨[],_,(List.append_nil _).symm,t40,t41⟩
   try simp only[e3]
   have qe3:=fact e3;refine .k 8 [(6,9),(9,12),(14,17)] ?_;refine c102z ?_;exact ⟨[],_,(List.append_nil _).symm,t40,t41⟩
  try simp only[e1]
  have qe1:=fact e1;refine .k 7 [(2,5),(6,9)] ?_;refine .spl 12 rfl rfl (fun e5=>?_) (fun e5=>?_)
  ·try simp only[e5]
   have qe5:=fact e5;refine .k 5 [(6,9),(9,12)] ?_;refine .spl 17 rfl rfl (fun e6=>?_) (fun e6=>?_)
   ·try simp only[e6]
    have qe6:=fact e6;refine c221z ?_;exact ⟨[],_,(List.append_nil _).symm,t40,t41⟩
   try simp only[e6]
   have qe6:=fact e6;refine c221z ?_;exact ⟨[],_,(List.append_nil _).symm,t40,t41⟩
  try simp only[e5]
  have qe5:=fact e5;refine .k 8 [(6,9),(9,12),(14,17)] ?_;refine c102z ?_;exact ⟨[],_,(List.append_nil _).symm,t40,t41⟩
theorem A2 (c:UInt8):CB 139 [.int .u8 ((c.toNat:Nat):Int)] h (.bool (isD c)):=by
  refine .bz Tryz.f139 9 ?_;refine c91z ?_;refine .spl 5 rfl rfl (fun e1=>?_) (fun e1=>?_)
  ·try simp only[e1]
   have qe1:=fact e1;refine .m [(2,5)] ?_;refine c3z ?_;exact ⟨[],_,(List.append_nil _).symm,t40,t129⟩
  try simp only[e1]
  have qe1:=fact e1;refine .m [(2,5)] ?_;refine c3z ?_;exact ⟨[],_,(List.append_nil _).symm,t40,t129⟩
section
attribute [local go_sem] mB
theorem c_has (l:List BA)(s:BA)(hl:l.length<1000):CB 170 [.vec l.length (aH l),.str s] h (.bool (hasB l s)):=by
  refine .bz Tryz.f170 18 ?_;refine c18z ?_;refine .bX (fun m st=>∃(i:Nat),(m=l.length-i∧(∀d,d<i→((l.getD d ByteArray.empty).toList==s.toList)=false)∧i≤l.length)∧st=⟨mkS 18 [(0,AV.vec l.length (aH l)),(1,AV.str s),(5,AV.int .i64 ((i:Nat):Int))],h⟩) _ (.v ⟨0,⟨rfl,t105,by omega⟩,rfl⟩) ?_;rintro m sl h' ⟨i,⟨hm,hI,hi⟩,hst⟩;obtain ⟨rfl,rfl⟩:=St.mk.inj hst;refine c0z ?_;refine u2z ?_ ?_
  ·intro e1 qe1;refine c58z ?_;refine u2z ?_ ?_
   ·intro e2 qe2;refine c154z ?_;exact ⟨[],_,(List.append_nil _).symm,t40,t135⟩
   intro e2 qe2;refine c4z ?_;refine c163z ?_;exact ⟨_,by omega,.v ⟨(i+1),⟨rfl,PV hI (by assumption),by omega⟩,rfl⟩⟩
  intro e1 qe1;refine c63z ?_;exact ⟨[],_,(List.append_nil _).symm,t40,t135⟩
end
theorem frz_n {d:Nat}:p6 (lP n H (d+1)) (aH l)=some (aH l):=(aC.map (fun _=>.str):aC (aH l)).frz _ _ _
variable {g:Nat}
theorem Z1 {β:Nat}(l:List BA)(s:BA)(hb:H[β]?=some ⟨g,false,9,1,aH l,0⟩)(hl:l.length<1000):CallA Tryz.prog cfg 170 [.own β g 0 l.length,.str s] H (fun y h'=>y=.bool (hasB l s)∧h'=H):=by
  have e:OM 0 H (.own β g 0 l.length)=some (.vec l.length (aH l)):=by show lP 0 H 6 (.own β g 0 l.length)=_;rw[gH,hb];simp only[Nat.zero_le,and_self,if_true,Bool.false_eq_true,if_false,Nat.zero_add,Nat.mul_one,aL,Nat.le_refl,List.drop_zero];rw[List.take_of_length_le t164,frz_n]
  have ha:ON 0 H [.vec l.length (aH l),.str s] [.own β g 0 l.length,.str s]:=And.intro (.inr e) (And.intro (.inr rfl) trivial);exact CallA.borrow ha ((c_has l s hl).mono fun _ _ h=>h.1)
theorem c_res0 (s:BA):CB 140 [.str s] [] (.bool (tQ s)):=by refine .bz Tryz.f140 6 ?_;refine c181z ?_;refine .ca rfl rfl (Z1 VN s rfl (by decide)) ?_;refine .n ?_;exact .ret (.ex (hq:=by rfl))
theorem ZI (s:BA):CallA Tryz.prog cfg 140 [.str s] h (fun y h'=>y=.bool (tQ s)∧h'=h):=J5 rfl ((c_res0 s).mono fun _ _ h=>by rw[h.1];rfl) h
theorem c_resF (hr:tQ s=false):CallA Tryz.prog cfg 140 [.str s] h (fun y h'=>y=.bool false∧h'=h):=by rw[←hr];exact ZI s
theorem mL (s:BA)(hs:isName (L8 s))(hr:tQ s=false):CB 130 [.str s] h (.bool true):=by
  refine .bz Tryz.f130 39 ?_;have hsz:=eO hs;refine c18z ?_;refine .bX (fun m st=>∃(i:Nat),(m=s.size-i∧i≤s.size)∧st=⟨mkS 39 [(0,AV.str s),(3,AV.int .i64 ((i:Nat):Int))],h⟩) _ (.v ⟨0,⟨rfl,by omega⟩,rfl⟩) ?_;rintro m sl h' ⟨i,⟨hm,hi⟩,hst⟩;obtain ⟨rfl,rfl⟩:=St.mk.inj hst;refine c0z ?_;refine u2z ?_ ?_
  ·intro e1 qe1;refine c2z ?_;have hna:=name_at hs (i:=i) (by omega);refine c14z ?_;refine .ca rfl rfl (A1 _) ?_;refine .e 2 ?_;refine .spl 15 rfl rfl (fun e2=>?_) (fun e2=>?_)
   ·try simp only[e2]
    have qe2:=fact e2;refine .k 3 [(5,15)] ?_;refine .spl 18 rfl rfl (fun e3=>?_) (fun e3=>?_)
    ·try simp only[e3]
     have qe3:=fact e3;refine .m [(5,15),(8,18)] ?_;refine c72z ?_;refine c3z ?_;exact ⟨[],_,(List.append_nil _).symm,t40,t95⟩
    try simp only[e3]
    have qe3:=fact e3;refine .k 3 [(8,18)] ?_;refine .ca rfl rfl (A2 _) ?_;refine .m [(5,15),(8,18)] ?_;refine u2z ?_ ?_
    ·intro e4 qe4;refine c154z ?_;exact ⟨[],_,(List.append_nil _).symm,t40,t95⟩
    intro e4 qe4;refine c4z ?_;refine .c6 [0,3] ?_;refine .rz ?_;exact ⟨_,by omega,.v ⟨(i+1),⟨rfl,by omega⟩,rfl⟩⟩
   try simp only[e2]
   have qe2:=fact e2;refine .k 8 [(5,15),(8,18)] ?_;refine .m [(5,15)] ?_;refine c34z ?_;refine .c6 [0,3] ?_;refine .rz ?_;exact ⟨_,by omega,.v ⟨(i+1),⟨rfl,by omega⟩,rfl⟩⟩
  intro e1 qe1;refine c6z ?_;refine c25z ?_;refine .spl 29 rfl rfl (fun e5=>?_) (fun e5=>by exfalso;simp only[decide_eq_false_iff_not]at e5;omega);try simp only[e5]
  have qe5:=fact e5;refine .k 5 [(3,29)] ?_;refine .spl 34 rfl rfl (fun e6=>?_) (fun e6=>by exfalso;simp only[decide_eq_false_iff_not]at e6;omega);try simp only[e6]
  have qe6:=fact e6;refine .k 1 [(8,34)] ?_;refine .ca rfl rfl (c_resF hr) ?_;refine .m [(8,34)] ?_;refine c3z ?_;exact ⟨[],_,(List.append_nil _).symm,t40,t95⟩
theorem VR (L:Bs)(i n:Nat)(hx:LX (L.drop i) n)(hi:i≤L.length)(hl:L.length<1000000):CB 137 [.vec L.length (tP L),.int .i64 (i:Int)] h (.int .i64 ((sk L i:Nat):Int)):=by
  refine .bz Tryz.f137 74 ?_;refine .z ?_;refine .sb ?_;refine .bX (fun m st=>∃(j:Nat),(m=L.length-j∧(LX (L.drop j) n∧j≤L.length∧sk L j=sk L i))∧st=⟨mkS 74 [(0,AV.vec L.length (tP L)),(1,AV.int .i64 ((j:Nat):Int))],h⟩) _ (.v ⟨i,⟨rfl,⟨hx,hi,rfl⟩⟩,rfl⟩) ?_;rintro m sl h' ⟨j,⟨hm,⟨hX,hj,hk⟩⟩,hst⟩;obtain ⟨rfl,rfl⟩:=St.mk.inj hst;refine c0z ?_;refine u2z ?_ ?_
  ·intro e1 qe1;refine c125z ?_;refine .block ?_;refine c132z ?_;refine .spl 16 rfl rfl (fun e2=>?_) (fun e2=>?_)
   ·try simp only[e2]
    have qe2:=fact e2;refine .k 8 [(5,16),(12,23)] ?_;refine .k 8 [(12,23),(19,30)] ?_;refine .m [(19,30)] ?_;refine .T ?_;refine .c6 [0,1] ?_;refine .rz ?_;exact ⟨_,by omega,.v ⟨(j+1),⟨rfl,⟨hX.HI (by omega) (J6 (by omega)),by omega,(vI (by omega) (J6 (by omega))).symm.trans hk⟩⟩,rfl⟩⟩
   try simp only[e2]
   have qe2:=fact e2;refine .k 7 [(5,16)] ?_;refine .spl 23 rfl rfl (fun e3=>?_) (fun e3=>?_)
   ·try simp only[e3]
    have qe3:=fact e3;refine .k 8 [(12,23),(19,30)] ?_;refine .m [(19,30)] ?_;refine .T ?_;refine .c6 [0,1] ?_;refine .rz ?_;exact ⟨_,by omega,.v ⟨(j+1),⟨rfl,⟨hX.HI (by omega) (J6 (by omega)),by omega,(vI (by omega) (J6 (by omega))).symm.trans hk⟩⟩,rfl⟩⟩
   try simp only[e3]
   have qe3:=fact e3;refine .k 7 [(12,23)] ?_;refine .spl 30 rfl rfl (fun e4=>?_) (fun e4=>?_)
   ·try simp only[e4]
    have qe4:=fact e4;refine .m [(19,30)] ?_;refine .T ?_;refine .c6 [0,1] ?_;refine .rz ?_;exact ⟨_,by omega,.v ⟨(j+1),⟨rfl,⟨hX.HI (by omega) (J6 (by omega)),by omega,(vI (by omega) (J6 (by omega))).symm.trans hk⟩⟩,rfl⟩⟩
   try simp only[e4]
   have qe4:=fact e4;refine .m [(19,30)] ?_;refine u2z ?_ ?_
   ·intro e5 qe5;refine .c6 [0,1] ?_;refine .rz ?_;exact ⟨_,by omega,.v ⟨(j+1),⟨rfl,⟨hX.HI (by omega) (J6 (by omega)),by omega,(vI (by omega) (J6 (by omega))).symm.trans hk⟩⟩,rfl⟩⟩
   intro e5 qe5;refine .c6 [0,1] ?_;refine c132z ?_;refine .spl 45 rfl rfl (fun e6=>?_) (fun e6=>?_)
   ·try simp only[e6]
    have qe6:=fact e6;refine .k 7 [(5,45)] ?_;refine .spl 52 rfl rfl (fun e7=>?_) (fun e7=>?_)
    ·try simp only[e7]
     have qe7:=fact e7;refine .m [(12,52)] ?_;refine .spl 39 rfl rfl (fun e8=>by exfalso;simp only[beq_iff_eq]at *;exact hX.DD (by omega) (by omega) (by omega)) (fun e8=>?_);try simp only[e8]
     have qe8:=fact e8;refine .F ?_;refine .c6 [1] ?_;refine c29z ?_;exact ⟨[],_,(List.append_nil _).symm,t40,t84⟩
    try simp only[e7]
    have qe7:=fact e7;refine .m [(12,52)] ?_;refine .F ?_;refine .c6 [1] ?_;refine c29z ?_;exact ⟨[],_,(List.append_nil _).symm,t40,t84⟩
   try simp only[e6]
   have qe6:=fact e6;refine .k 8 [(5,45),(12,52)] ?_;refine .m [(12,52)] ?_;refine .F ?_;refine .c6 [1] ?_;refine c29z ?_;exact ⟨[],_,(List.append_nil _).symm,t40,t84⟩
  intro e1 qe1;refine .exit ?_;have hje:j=L.length:=by omega
  change c8 ..;refine c29z ?_;exact ⟨[],_,(List.append_nil _).symm,t40,t84⟩
theorem fill6L:(twoN).length=6:=rfl
theorem fill6M:(6≤maxLen)=True:=by simp;decide
theorem fill17L:(Lj).length=17:=rfl
theorem fill17M:(17≤maxLen)=True:=by simp;decide
section
attribute [local go_sem] uA dW Option.bind_eq_bind VM VP VQ takeL Q3 Nat.add_sub_cancel_left V3 take_one lB lC fill6L fill6M fill17L fill17M
theorem c_sign0 (L:Bs)(i:Nat)(hi:i<L.length)(hl:L.length<1000000):CB 142 [.vec L.length (tP L),.int .i64 (i:Int)] [] (.int .i64 ((sgn L i:Nat):Int)):=by
  refine .bz Tryz.f142 28 ?_;refine c13z ?_;refine c132z ?_;refine .spl 10 rfl rfl (fun e1=>?_) (fun e1=>?_)
  ·try simp only[e1]
   have qe1:=fact e1;try simp only[lC,lB,decide_eq_true_eq,decide_eq_false_iff_not]at qe1
   refine .k 7 [(5,10)] ?_;refine .ca rfl rfl (Z1 twoN _ rfl (by decide)) ?_;refine .n ?_;refine .spl 19 rfl rfl (fun e2=>?_) (fun e2=>?_)
   ·try simp only[e2]
    have qe2:=fact e2;try simp only[lC,lB,decide_eq_true_eq,decide_eq_false_iff_not]at qe2
    refine c72z ?_;exact .ret (.ex (hq:=t26))
   try simp only[e2]
   have qe2:=fact e2;try simp only[lC,lB,decide_eq_true_eq,decide_eq_false_iff_not]at qe2
   refine c70z ?_;refine .c6 [0,1] ?_;refine .s ?_;refine .e 7 ?_;refine .ca rfl rfl (Z1 Lj _ (by first | rfl | simp) (by decide)) ?_;refine .nil ?_;refine .spl 27 rfl rfl (fun e3=>?_) (fun e3=>?_)
   ·try simp only[e3]
    have qe3:=fact e3;try simp only[lC,lB,decide_eq_true_eq,decide_eq_false_iff_not]at qe3
    refine c72z ?_;exact .ret (.ex (hq:=t26))
   try simp only[e3]
   have qe3:=fact e3;try simp only[lC,lB,decide_eq_true_eq,decide_eq_false_iff_not]at qe3
   refine c17z ?_;refine c10z ?_;exact .ret (.ex (hq:=t26))
  try simp only[e1]
  have qe1:=fact e1;try simp only[lC,lB,decide_eq_true_eq,decide_eq_false_iff_not]at qe1
  refine .k 8 [(5,10)] ?_;refine .n ?_;refine c70z ?_;refine .c6 [0,1] ?_;refine .s ?_;refine .e 7 ?_;refine .ca rfl rfl (Z1 Lj _ (by first | rfl | simp) (by decide)) ?_;refine .nil ?_;refine .spl 27 rfl rfl (fun e4=>?_) (fun e4=>?_)
  ·try simp only[e4]
   have qe4:=fact e4;try simp only[lC,lB,decide_eq_true_eq,decide_eq_false_iff_not]at qe4
   refine c72z ?_;exact .ret (.ex (hq:=t26))
  try simp only[e4]
  have qe4:=fact e4;try simp only[lC,lB,decide_eq_true_eq,decide_eq_false_iff_not]at qe4
  refine c17z ?_;refine c10z ?_;exact .ret (.ex (hq:=t26))
end
theorem c_sign (L:Bs)(i:Nat)(hi:i<L.length)(hl:L.length<1000000):CallA Tryz.prog cfg 142 [.vec L.length (tP L),.int .i64 (i:Int)] h (fun y h'=>y=.int .i64 ((sgn L i:Nat):Int)∧h'=h):=J5 rfl ((c_sign0 L i hi hl).mono fun _ _ h=>by rw[h.1];rfl) h
theorem c_numv (l:Bs)(hd:∀d∈l,isD d=true)(hv:wU l<9223372036854775808)(hl:l.length<1000000):CB 141 [.vec l.length (tP l)] h (.int .i64 ((wU l:Nat):Int)):=by
  refine CallA.body (Q:=fun y'=>y'=.int .i64 ((wU l:Nat):Int)) v9 fn141 rfl ?_;simp only[ntm141,List.length_cons,List.length_nil,Nat.reduceAdd,Nat.reduceSub,List.replicate,List.cons_append,List.nil_append];refine c8z ?_;refine n5.pre 1 t14 ?_;refine c7z ?_;refine c8z ?_;refine n5.pre 1 t14 ?_;refine c140z ?_;refine c8z ?_;refine n5.pre 1 t14 ?_;refine c7z ?_;refine c8.block ?_;refine c8.bX (fun m st=>∃(i:Nat),(m=l.length-i∧i≤l.length)∧st=⟨[.vec l.length (tP l),.any,.any,.int .i64 ((wU (l.take i):Nat):Int),.int .i64 ((i:Nat):Int),.any,.any,.any,.any,.any,.any,.any,.any,.any,.any,.any,.any,.any,.any,.any,.any,.any,.any,.any,.any,.any,.any,.any],h⟩) _ ⟨[.vec l.length (tP l),.any,.any,.int .i64 ((wU (l.take 0):Nat):Int),.int .i64 ((0:Nat):Int),.any,.any,.any,.any,.any,.any,.any,.any,.any,.any,.any,.any,.any,.any,.any,.any,.any,.any,.any,.any,.any,.any,.any],⟨(.inl t88),(.inr rfl),(.inr rfl),(.inl t88),(.inl t88),(.inr rfl),(.inr rfl),(.inr rfl),(.inr rfl),(.inr rfl),(.inr rfl),(.inr rfl),(.inr rfl),(.inr rfl),(.inr rfl),(.inr rfl),(.inr rfl),(.inr rfl),(.inr rfl),(.inr rfl),(.inr rfl),(.inr rfl),(.inr rfl),(.inr rfl),(.inr rfl),(.inr rfl),(.inr rfl),(.inr rfl),trivial⟩,0,⟨rfl,by omega⟩,rfl⟩ ?_;rintro m sl h' ⟨i,⟨hm,hi⟩,hst⟩;obtain ⟨rfl,rfl⟩:=St.mk.inj hst;refine c8.seq ?_;refine c8z ?_;refine n5.pre 4 t14 ?_;refine c7z ?_;refine c8.split 9 rfl (fun e1=>?_) (fun e1=>?_)
  · try simp only[e1]
    have qe1:=e1;try replace qe1:=s10z qe1
    refine c8.yZ rfl ?_;refine c73z ?_;refine c8.seq ?_;refine c8.block ?_;refine c8.seq ?_;have hdd:=valD_nn (i:=i) (by omega) hd;have hvt:=J4 (l:=l) (k:=i) (by omega);have hvm:=HL (l:=l) (k:=i+1) (m:=l.length) (by omega);rw[List.take_length]at hvm;have htd:(9223372036854775807-(((bat l i).toNat:Int)-48)).tdiv 10=(9223372036854775807-(((bat l i).toNat:Int)-48)) / 10:=Int.tdiv_eq_ediv_of_nonneg (by omega);have htd2:((9223372036854775807-(((bat l i).toNat:Int)-48)).tdiv 10:Int)<9223372036854775808∧0≤(9223372036854775807-(((bat l i).toNat:Int)-48)).tdiv 10:=by rw[htd];omega
    refine c8.region v9 ?_;refine n5.pre 7 t14 ?_;refine c140z ?_;refine c8z ?_;refine n5.pre 5 t14 ?_;refine c7z ?_;refine c8.split 22 rfl (fun e2=>?_) (fun e2=>?_)
    · exfalso;rw[htd]at e2;simp only[decide_eq_true_eq,gt_iff_lt]at e2;omega
    · try simp only[e2]
      have qe2:=e2;try replace qe2:=s10z qe2
      refine c105z ?_;refine c8.region v9 ?_;refine n5.pre 5 t14 ?_;refine c7z ?_;refine c8.region v9 ?_;refine n5.pre 3 t14 ?_;refine n5.nil ?_;exact ⟨l.length-(i+1),by omega,[.vec l.length (tP l),.any,.any,.int .i64 ((wU (l.take (i+1)):Nat):Int),.int .i64 (((i+1):Nat):Int),.any,.any,.any,.any,.any,.any,.any,.any,.any,.any,.any,.any,.any,.any,.any,.any,.any,.any,.any,.any,.any,.any,.any],⟨(.inl t88),(.inr rfl),(.inr rfl),(.inl t88),(.inl t88),(.inr rfl),(.inr rfl),(.inr rfl),(.inr rfl),(.inr rfl),(.inr rfl),(.inr rfl),(.inr rfl),(.inr rfl),(.inr rfl),(.inr rfl),(.inr rfl),(.inr rfl),(.inr rfl),(.inr rfl),(.inr rfl),(.inr rfl),(.inr rfl),(.inr rfl),(.inr rfl),(.inr rfl),(.inr rfl),(.inr rfl),trivial⟩,(i+1),⟨rfl,by omega⟩,rfl⟩
  · try simp only[e1]
    have qe1:=e1;try replace qe1:=s10z qe1
    refine c8.CF rfl ?_;refine c8.exit ?_;obtain rfl:i=l.length:=by omega
    rw[List.take_length] at*;change c8 _ _ _ _ _;refine c8z ?_;refine n5.pre 2 t14 ?_;refine c68z ?_;refine Ends.mk (by simp only[UY,wW,kC,lT];first | rfl | (simp (maxSteps:=2000000) (disch:=omega) only [go_sem,Nat.reduceBEq,Nat.reduceAdd,Nat.reduceSub,Nat.reduceLeDiff,Nat.reduceMul,reduceIte,reduceCtorEq,Int.reduceNeg,Int.reduceToNat,Nat.reduceLT,Int.reduceLE,Int.reduceLT,Int.reduceAdd,Int.reduceSub,Int.reduceMul,rZ,if_false,show ((10:Int)=0)=False from by simp,if_pos,if_neg];rfl)) ?_;exact ⟨[],_,(List.append_nil _).symm,t40,by rfl⟩
theorem app_tok {a:Blk}{l:c5}{zs:List AV}{x y z u:AV}(hz:zs.length=n*4)(hn:n<10000):j6 cfg 168 (o9 168 4 g zs::a::⟨0,false,168,4,[x,y,z,u],0⟩::l) (.own 0 g 0 n) (.own 2 0 0 1)=some (.own 0 (g+1) 0 (n+1),o9 168 4 (g+1) (zs++[x,y,z,u])::a::⟨0,false,168,4,[x,y,z,u],0⟩::l):=by rw[u9 (C:=cfg) (K:=4) (m:=1) (new:=[x,y,z,u]) (zs:=zs) rfl rfl (by omega) hz rfl (by omega) t106 rfl (by decide) (by omega)];rfl
theorem PW {l:c5}{zs:List AV}{x y z u:AV}(hz:zs.length=n*4)(hn:n<10000):j6 cfg 168 (o9 168 4 g zs::⟨0,false,168,4,[x,y,z,u],0⟩::l) (.own 0 g 0 n) (.own 1 0 0 1)=some (.own 0 (g+1) 0 (n+1),o9 168 4 (g+1) (zs++[x,y,z,u])::⟨0,false,168,4,[x,y,z,u],0⟩::l):=by rw[u9 (C:=cfg) (K:=4) (m:=1) (new:=[x,y,z,u]) (zs:=zs) rfl rfl (by omega) hz rfl (by omega) t106 rfl (by decide) (by omega)];rfl
theorem pY {k n p:Int}:aC [.int .i64 k,.str s,.int .i64 n,.int .i64 p]:=aC.cons .int (aC.cons .str (aC.cons .int (aC.cons .int .nil)))
theorem lD {a b:List AV}(h:aC a)(h':aC b):aC (a++b):=fun x hx=>(List.mem_append.1 hx).elim (h x) (h' x)
theorem VS (hs:Span L isD i e)(hv:wU ((L.drop i).take (e-i))<9223372036854775808)(hl:L.length<1000000):CallA Tryz.prog cfg 141 [.vec (e-i) (tP ((L.drop i).take (e-i)))] h (fun y h'=>y=.int .i64 ((wU ((L.drop i).take (e-i)):Nat):Int)∧h'=h):=by
  have hle:=hs.le;have e1:e-i=((L.drop i).take (e-i)).length:=by rw[List.length_take,List.length_drop];omega
  have:=c_numv (h:=h) _ (spanD hs) hv (by omega);rwa[←e1]at this
section
attribute [local go_sem] uA dW Option.bind_eq_bind VM VP VQ takeL Q3 Nat.add_sub_cancel_left app_tok PW take_one J0 zY wrap64 wV
theorem c_lex0 (L:Bs)(N:Nat)(hx:LX (L.drop 0) N)(hN:N≤4000)(hl:L.length≤262144):CallA Tryz.prog cfg 95 [.vec L.length (tP L)] [] (fun y' h'=>YD y'=.tup [.any,.int .i64 L.length,.int .i64 0]∧h'=[]):=by
  refine .bz Tryz.f95 124 ?_;have hs0:=A0 rfl hx (by omega);refine c69z ?_;refine .spl 11 rfl rfl (fun e1=>by exfalso;simp only[decide_eq_true_eq,gt_iff_lt]at e1;omega) (fun e1=>?_);try simp only[e1]
  have qe1:=fact e1;refine c17z ?_;refine c164z ?_;refine .ca rfl rfl (VR L 0 N hx (by omega) (by omega)) ?_;refine c119z ?_;refine c8.rC 5 rfl ?_;refine .u6 (fun m st=>∃(q:Nat) (k:Nat) (n:Nat) (zs:List AV),(m=L.length-q∧(k+n≤4000∧LX (L.drop q) n∧q≤L.length∧(q<L.length→wT (bat L q)=false)∧zs.length=k*4∧aC zs))∧st=⟨mkS 124 [(0,AV.vec L.length (tP L)),(5,AV.own 0 k 0 k),(6,AV.int .i64 ((q:Nat):Int))],[o9 168 4 k zs]⟩) (.v ⟨(sk L 0),0,N,[],⟨rfl,⟨by omega,hs0.2.2.1,hs0.2.1,hs0.2.2.2,rfl,aC.nil⟩⟩,rfl⟩) ?_;rintro m sl h' ⟨q,k,n,zs,⟨hm,⟨hkn,hX,hq,hsp,hz,hpl⟩⟩,hst⟩;obtain ⟨rfl,rfl⟩:=St.mk.inj hst;clear hst;refine .sb ?_;refine c0z ?_;refine u2z ?_ ?_
  ·intro e2 qe2;refine c47z ?_;refine c102z ?_;exact ⟨_,_,rfl,by (show iQ 0 _ 6 (.tup [.own 0 (k+1) 0 (k+1),.int .i64 ((q:Nat):Int),.int .i64 0])=_;simp only[mX,dK,pP,p6,Nat.not_lt_zero,if_false];rw[iR (e:=168) (K:=4) (g:=k+1) (zs:=zs++_) rfl (by decide) t86 (by omega) (aC.frz (lD hpl pY) _ _ _)];rfl),by rw[show q=L.length from by omega];rfl⟩
  intro e2 qe2;refine .sk ?_;refine c210z ?_;refine .sb ?_;have hsp':=hsp (by omega);refine c25z ?_;refine .ca rfl rfl (A1 _) ?_;refine .n ?_;refine u2z ?_ ?_
  ·intro e3 qe3;refine .sb ?_;obtain ⟨ee,mm,hspn,hle16,hnm,hX2⟩:=hX.HJ (by omega) (by assumption);have hlt:=hspn.lt;refine .u6 (fun m st=>∃(j:Nat),(m=ee-j∧(q≤j∧j≤ee))∧st=⟨mkS 124 [(0,AV.vec L.length (tP L)),(5,AV.own 0 k 0 k),(6,AV.int .i64 ((q:Nat):Int)),(7,AV.ptr 1 0 0),(8,AV.int .i64 ((j:Nat):Int))],[o9 168 4 k zs,⟨0,false,168,4,[.int .i64 0,.str ByteArray.empty,.int .i64 0,.int .i64 ((q:Nat):Int)],0⟩]⟩) (.v ⟨q,⟨rfl,⟨Nat.le_refl _,Nat.le_of_lt hspn.lt⟩⟩,rfl⟩) ?_;rintro m sl h' ⟨j,⟨hm,⟨hj1,hj2⟩⟩,hst⟩;obtain ⟨rfl,rfl⟩:=St.mk.inj hst;clear hst;have hle:=hspn.le;refine .seq ?_;refine c24z ?_;refine .spl 50 rfl rfl (fun e4=>?_) (fun e4=>?_)
   ·try simp only[e4]
    have qe4:=fact e4;refine .k 4 [(4,50)] ?_;refine .ca rfl rfl (A1 _) ?_;refine .k 1 [(4,50)] ?_;refine .spl 56 rfl rfl (fun e5=>?_) (fun e5=>?_)
    ·try simp only[e5]
     have qe5:=fact e5;refine .m [(4,50),(10,56)] ?_;refine .T ?_;refine c125z ?_;refine .c6 [0,5,6,7,8] ?_;refine .rz ?_;have hje:=Q4 hspn hj2 (by omega) t194;exact ⟨_,by omega,.v ⟨(j+1),⟨rfl,⟨by omega,by omega⟩⟩,rfl⟩ (he:=t175)⟩
    try simp only[e5]
    have qe5:=fact e5;refine .k 4 [(10,56)] ?_;refine .ca rfl rfl (A2 _) ?_;refine .m [(4,50)] ?_;refine u2z ?_ ?_
    ·intro e6 qe6;refine c125z ?_;refine .c6 [0,5,6,7,8] ?_;refine .rz ?_;have hje:=Q4 hspn hj2 (by omega) t194;exact ⟨_,by omega,.v ⟨(j+1),⟨rfl,⟨by omega,by omega⟩⟩,rfl⟩ (he:=t175)⟩
    intro e6 qe6;refine .exit ?_;have hje:ee=j:=(tR hspn hj1 hj2 (fun hlt=>by first | omega | assumption | simp_all [isW])).symm;subst hje;change c8 ..;refine c87z ?_;refine c24z ?_;refine .ca rfl rfl (ZI _) ?_;refine .nil ?_;refine u2z ?_ ?_
    ·intro e7 qe7;refine c1z ?_;refine .seq ?_;refine c87z ?_;refine .spl 111 rfl rfl (fun e8=>by exfalso;simp only[beq_iff_eq]at e8;omega) (fun e8=>?_);try simp only[e8]
     have qe8:=fact e8;refine c225z ?_;have hs1:=A0 rfl hX2 (by omega);exact ⟨_,by omega,.v ⟨(sk L ee),(k+1),mm,(zs++[.int .i64 _,.str _,.int .i64 _,.int .i64 ((q:Nat):Int)]),⟨rfl,⟨by omega,hs1.2.2.1,hs1.2.1,hs1.2.2.2,t86,lD hpl pY⟩⟩,rfl⟩ (he:=by rfl) (hk:=t55)⟩
    intro e7 qe7;refine .z ?_;refine .spl 77 rfl rfl (fun e9=>by exfalso;simp only[decide_eq_true_eq,gt_iff_lt]at e9;omega) (fun e9=>?_);try simp only[e9]
    have qe9:=fact e9;refine c214z ?_;refine c87z ?_;refine .spl 111 rfl rfl (fun e10=>by exfalso;simp only[beq_iff_eq]at e10;omega) (fun e10=>?_);try simp only[e10]
    have qe10:=fact e10;refine c225z ?_;have hs1:=A0 rfl hX2 (by omega);exact ⟨_,by omega,.v ⟨(sk L ee),(k+1),mm,(zs++[.int .i64 _,.str _,.int .i64 _,.int .i64 ((q:Nat):Int)]),⟨rfl,⟨by omega,hs1.2.2.1,hs1.2.1,hs1.2.2.2,t86,lD hpl pY⟩⟩,rfl⟩ (he:=by rfl) (hk:=t55)⟩
   try simp only[e4]
   have qe4:=fact e4;refine .k 8 [(4,50),(10,56)] ?_;refine .m [(4,50),(10,56)] ?_;refine .F ?_;refine .exit ?_;have hje:ee=j:=(tR hspn hj1 hj2 (fun hlt=>by first | omega | assumption | simp_all [isW])).symm;subst hje;change c8 ..;refine c87z ?_;refine c24z ?_;refine .ca rfl rfl (ZI _) ?_;refine .nil ?_;refine u2z ?_ ?_
   ·intro e11 qe11;refine c1z ?_;refine .seq ?_;refine c87z ?_;refine .spl 111 rfl rfl (fun e12=>by exfalso;simp only[beq_iff_eq]at e12;omega) (fun e12=>?_);try simp only[e12]
    have qe12:=fact e12;refine c225z ?_;have hs1:=A0 rfl hX2 (by omega);exact ⟨_,by omega,.v ⟨(sk L ee),(k+1),mm,(zs++[.int .i64 _,.str _,.int .i64 _,.int .i64 ((q:Nat):Int)]),⟨rfl,⟨by omega,hs1.2.2.1,hs1.2.1,hs1.2.2.2,t86,lD hpl pY⟩⟩,rfl⟩ (he:=by rfl) (hk:=t55)⟩
   intro e11 qe11;refine .z ?_;refine .spl 77 rfl rfl (fun e13=>by exfalso;simp only[decide_eq_true_eq,gt_iff_lt]at e13;omega) (fun e13=>?_);try simp only[e13]
   have qe13:=fact e13;refine c214z ?_;refine c87z ?_;refine .spl 111 rfl rfl (fun e14=>by exfalso;simp only[beq_iff_eq]at e14;omega) (fun e14=>?_);try simp only[e14]
   have qe14:=fact e14;refine c225z ?_;have hs1:=A0 rfl hX2 (by omega);exact ⟨_,by omega,.v ⟨(sk L ee),(k+1),mm,(zs++[.int .i64 _,.str _,.int .i64 _,.int .i64 ((q:Nat):Int)]),⟨rfl,⟨by omega,hs1.2.2.1,hs1.2.1,hs1.2.2.2,t86,lD hpl pY⟩⟩,rfl⟩ (he:=by rfl) (hk:=t55)⟩
  intro e3 qe3;refine .c6 [0,5,6,7,8] ?_;refine c25z ?_;refine .ca rfl rfl (A2 _) ?_;refine .n ?_;refine u2z ?_ ?_
  ·intro e15 qe15;refine .sb ?_;obtain ⟨ee,mm,hspn,hvv,hnm,hX2⟩:=hX.PU (by omega) (by assumption);have hlt:=hspn.lt;refine .u6 (fun m st=>∃(j:Nat),(m=ee-j∧(q≤j∧j≤ee))∧st=⟨mkS 124 [(0,AV.vec L.length (tP L)),(5,AV.own 0 k 0 k),(6,AV.int .i64 ((q:Nat):Int)),(7,AV.ptr 1 0 0),(8,AV.int .i64 ((j:Nat):Int))],[o9 168 4 k zs,⟨0,false,168,4,[.int .i64 0,.str ByteArray.empty,.int .i64 0,.int .i64 ((q:Nat):Int)],0⟩]⟩) (.v ⟨q,⟨rfl,⟨Nat.le_refl _,Nat.le_of_lt hspn.lt⟩⟩,rfl⟩) ?_;rintro m sl h' ⟨j,⟨hm,⟨hj1,hj2⟩⟩,hst⟩;obtain ⟨rfl,rfl⟩:=St.mk.inj hst;clear hst;have hle:=hspn.le;refine .seq ?_;refine c24z ?_;refine .spl 89 rfl rfl (fun e16=>?_) (fun e16=>?_)
   ·try simp only[e16]
    have qe16:=fact e16;refine .k 4 [(4,89)] ?_;refine .ca rfl rfl (A2 _) ?_;refine .n ?_;refine u2z ?_ ?_
    ·intro e17 qe17;refine c125z ?_;refine .c6 [0,5,6,7,8] ?_;refine .rz ?_;have hje:=Q4 hspn hj2 (by omega) t194;exact ⟨_,by omega,.v ⟨(j+1),⟨rfl,⟨by omega,by omega⟩⟩,rfl⟩ (he:=t175)⟩
    intro e17 qe17;refine .exit ?_;have hje:ee=j:=(tR hspn hj1 hj2 (fun hlt=>by first | omega | assumption | simp_all [isW])).symm;subst hje;change c8 ..;refine .c6 [0,5,6,7,8] ?_;refine c25z ?_;refine .ca rfl rfl (VS hspn hvv (by omega)) ?_;refine .n ?_;refine .z ?_;refine .spl 107 rfl rfl (fun e18=>by exfalso;simp only[decide_eq_true_eq]at e18;omega) (fun e18=>?_);try simp only[e18]
    have qe18:=fact e18;refine c214z ?_;refine c87z ?_;refine .spl 111 rfl rfl (fun e19=>by exfalso;simp only[beq_iff_eq]at e19;omega) (fun e19=>?_);try simp only[e19]
    have qe19:=fact e19;refine c225z ?_;have hs1:=A0 rfl hX2 (by omega);exact ⟨_,by omega,.v ⟨(sk L ee),(k+1),mm,(zs++[.int .i64 _,.str _,.int .i64 _,.int .i64 ((q:Nat):Int)]),⟨rfl,⟨by omega,hs1.2.2.1,hs1.2.1,hs1.2.2.2,t86,lD hpl pY⟩⟩,rfl⟩ (he:=by rfl) (hk:=t55)⟩
   try simp only[e16]
   have qe16:=fact e16;refine .m [(4,89)] ?_;refine .F ?_;refine .exit ?_;have hje:ee=j:=(tR hspn hj1 hj2 (fun hlt=>by first | omega | assumption | simp_all [isW])).symm;subst hje;change c8 ..;refine .c6 [0,5,6,7,8] ?_;refine c25z ?_;refine .ca rfl rfl (VS hspn hvv (by omega)) ?_;refine .n ?_;refine .z ?_;refine .spl 107 rfl rfl (fun e20=>by exfalso;simp only[decide_eq_true_eq]at e20;omega) (fun e20=>?_);try simp only[e20]
   have qe20:=fact e20;refine c214z ?_;refine c87z ?_;refine .spl 111 rfl rfl (fun e21=>by exfalso;simp only[beq_iff_eq]at e21;omega) (fun e21=>?_);try simp only[e21]
   have qe21:=fact e21;refine c225z ?_;have hs1:=A0 rfl hX2 (by omega);exact ⟨_,by omega,.v ⟨(sk L ee),(k+1),mm,(zs++[.int .i64 _,.str _,.int .i64 _,.int .i64 ((q:Nat):Int)]),⟨rfl,⟨by omega,hs1.2.2.1,hs1.2.1,hs1.2.2.2,t86,lD hpl pY⟩⟩,rfl⟩ (he:=by rfl) (hk:=t55)⟩
  intro e15 qe15;obtain ⟨hsg1,hsg2,mm,hnm,hX2⟩:=hX.HK (by omega) hsp' (by first | assumption | simp_all) (by first | assumption | simp_all);refine c14z ?_;refine .ca rfl rfl (c_sign L q (by omega) (by omega)) ?_;refine .n ?_;refine c87z ?_;refine .z ?_;refine .spl 38 rfl rfl (fun e22=>by exfalso;simp only[beq_iff_eq]at e22;omega) (fun e22=>?_);try simp only[e22]
  have qe22:=fact e22;refine c34z ?_;refine c0z ?_;refine .spl 111 rfl rfl (fun e23=>by exfalso;simp only[beq_iff_eq]at e23;omega) (fun e23=>?_);try simp only[e23]
  have qe23:=fact e23;refine c225z ?_;have hs1:=A0 rfl hX2 (by omega);exact ⟨_,by omega,.v ⟨(sk L (q+sgn L q)),(k+1),mm,(zs++[.int .i64 _,.str _,.int .i64 _,.int .i64 ((q:Nat):Int)]),⟨rfl,⟨by omega,hs1.2.2.1,hs1.2.1,hs1.2.2.2,t86,lD hpl pY⟩⟩,rfl⟩ (he:=by rfl) (hk:=t55)⟩
end
end Go.Proofs.YtonbocmibeikmaaGreat
end
section
namespace Go.Proofs.YtonbocmibeikmaaGreat
open Go.Ab Go.Un
theorem wrapU {n:Int}(h1:0≤n)(h2:n<18446744073709551616):IntKind.wrap .u64 n=n:=by rw[IntKind.wrap_u64];omega
theorem J7:∀(f n:Nat),n<10^f→0<f→wZ (f+1) n=wZ f n
  | 0,n,h,hf=>by omega
  | f+1,n,h,_=>by
    have e:wZ (f+1+1) n=if n<10 then [dig n] else wZ (f+1) (n / 10)++[dig n]:=rfl
    have e2:wZ (f+1) n=if n<10 then [dig n] else wZ f (n / 10)++[dig n]:=rfl
    rw[e,e2];split
    · rfl
    · rename_i hn
      have h1:n / 10<10^f:=by rw[Nat.pow_succ]at h;omega
      cases f with
      | zero=>simp at h1;omega
      | succ f=>rw[J7 (f+1) (n / 10) h1 (by omega)]
theorem J8 {n:Nat}(h:n<10000000000000000000)(h0:0<n / 10):xN n=xN (n / 10)++[dig n]:=by
  have e2:xN n=if n<10 then [dig n] else wZ 19 (n / 10)++[dig n]:=rfl
  rw[e2,if_neg (by omega)];unfold xN;rw[J7 19 (n / 10) (by omega) (by omega)]
theorem xT {n:Nat}(h:n<10):xN n=[dig n]:=by
  have e2:xN n=if n<10 then [dig n] else wZ 19 (n / 10)++[dig n]:=rfl
  rw[e2,if_pos h]
def Ep (n:Nat)(s:Bs):Bs:=if n=0 then s else xN n++s
theorem DF {n:Nat}(h:n<10000000000000000000):Ep (n / 10) [dig n]=xN n:=by
  unfold Ep;split
  · rw[xT (by omega)]
  · rw[J8 h (by omega)]
variable {s:Bs}
theorem HO {n:Nat}(h:n<10000000000000000000)(h0:0<n):Ep (n / 10) (dig n::s)=Ep n s:=by
  unfold Ep;rw[if_neg (by omega:¬n=0)];split
  · rw[xT (by omega)];rfl
  · rw[J8 h (by omega)];simp
theorem HP {n:Nat}:UInt8.ofNat (((48:Int)+(((n%10:Nat)):Int)).toNat)=dig n:=by unfold dig;congr 1
theorem VT {n:Nat}:((n:Int)).tmod 10=((n%10:Nat):Int):=rfl
theorem VU {n:Nat}:((n:Int)).tdiv 10=((n / 10:Nat):Int):=rfl
theorem VV {a:UInt8}:(⟨#[a]⟩:BA)++(⟨s.toArray⟩:BA)=⟨(a::s).toArray⟩:=by apply ByteArray.ext;simp[ByteArray.data_append]
theorem HQ:(⟨s.toArray⟩:BA).size=s.length:=by rw[kX];rfl
attribute [local go_sem] nC aL n8 bD l6 Int.natCast_nonneg Int.natCast_inj List.length_map wrap64 DE wrapU gA Y7 J0 Q0 Y8 zY max2 mB
theorem PX {n m:Nat}(h:n*10^s.length≤m):n / 10*10^(dig n::s).length≤m:=by rw[List.length_cons,Nat.pow_succ,Nat.mul_comm (10^s.length),←Nat.mul_assoc];exact Nat.le_trans (Nat.mul_le_mul_right _ (Nat.div_mul_le_self n 10)) h
theorem PY {n m:Nat}(h0:0<n)(h:n*10^s.length≤m)(hm:m<10000000000000000000):(dig n::s).length≤20:=by
  rw[List.length_cons];by_cases hs:s.length+1≤20
  · exact hs
  · have h1:10^20≤10^s.length:=Nat.pow_le_pow_right (by omega) (by omega)
    have h2:1*10^s.length≤n*10^s.length:=Nat.mul_le_mul_right _ h0;omega
theorem c_dig0 (m0:Nat)(hm0:m0<10000000000000000000):CB 181 [.int .u64 (m0:Int)] [] (.str ⟨(xN m0).toArray⟩):=by
  refine CallA.body (Q:=fun y'=>y'=.str ⟨(xN m0).toArray⟩) v9 fn181 rfl ?_;simp only[ntm181,List.length_cons,List.length_nil,Nat.reduceAdd,Nat.reduceSub,List.replicate,List.cons_append,List.nil_append];refine c8z ?_;refine n5.pre 1 t15 ?_;refine c7z ?_;refine c8z ?_;refine n5.pre 7 t15 ?_;refine c140z ?_;refine c8z ?_;refine n5.pre 3 t15 ?_;refine c7z ?_;refine c8.block ?_;refine c8.aI ([⟨0,false,5,1,[.int .u8 (48+((m0%10:Nat):Int))],0⟩]) t178 ?_;refine c8.loopW (fun m st=>∃(n:Nat) (s:Bs),(m=n∧(n<10000000000000000000∧Ep n s=xN m0∧s.length≤20∧n*10^s.length≤m0))∧st=⟨[.int .u64 ((n:Nat):Int),.any,.any,.str ⟨s.toArray⟩,.any,.any,.any,.any,.any,.any,.any,.any,.any,.any,.any,.any,.any,.any,.any,.any,.any,.any,.any,.any,.any],[⟨0,false,5,1,[.int .u8 (48+((m0%10:Nat):Int))],0⟩]⟩) ((m0 / 10)) ⟨[.int .u64 (((m0 / 10):Nat):Int),.any,.any,.str ⟨[dig m0].toArray⟩,.any,.any,.any,.any,.any,.any,.any,.any,.any,.any,.any,.any,.any,.any,.any,.any,.any,.any,.any,.any,.any],[⟨0,false,5,1,[.int .u8 (48+((m0%10:Nat):Int))],0⟩],[],(List.append_nil _).symm,Nat.le_refl _,y0.refl _,⟨(.inl t174),(.inr rfl),(.inr rfl),(.inl t174),(.inr rfl),(.inr rfl),(.inr rfl),(.inr rfl),(.inr rfl),(.inr rfl),(.inr rfl),(.inr rfl),(.inr rfl),(.inr rfl),(.inr rfl),(.inr rfl),(.inr rfl),(.inr rfl),(.inr rfl),(.inr rfl),(.inr rfl),(.inr rfl),(.inr rfl),(.inr rfl),(.inr rfl),trivial⟩,gN.get ⟨t3,t3,t3,t3,t3,t3,t3,t3,t3,t3,t3,t3,t3,t3,t3,t3,t3,t3,t3,t3,t3,t3,t3,t3,t3,trivial⟩,(m0 / 10),[dig m0],⟨rfl,⟨by omega,DF hm0,by simp,t60⟩⟩,rfl⟩ ?_;rintro m sl h' ⟨n,s,⟨hm,⟨hn,hP,hs,hM⟩⟩,hst⟩;obtain ⟨rfl,rfl⟩:=St.mk.inj hst;clear hst;refine c8.seq ?_;refine c8z ?_;refine n5.pre 2 t15 ?_;refine c7z ?_;refine c8.split 13 rfl (fun e1=>?_) (fun e1=>?_)
  · try simp only[e1]
    have qe1:=e1;try replace qe1:=s10z qe1
    refine c8.yZ rfl ?_;refine c73z ?_;refine c8.seq ?_;refine c8.block ?_;refine c8.region v9 ?_;refine n5.pre 9 t15 ?_;refine c7z ?_;refine c8.region v9 ?_;refine n5.pre 3 t15 ?_;refine n5.nil ?_;have hP2:=(HO (s:=s) hn (by omega)).trans hP;exact ⟨(n / 10),by omega,[.int .u64 (((n / 10):Nat):Int),.any,.any,.str ⟨(dig n::s).toArray⟩,.any,.any,.any,.any,.any,.any,.any,.any,.any,.any,.any,.any,.any,.any,.any,.any,.any,.any,.any,.any,.any],[⟨0,false,5,1,[.int .u8 (48+((m0%10:Nat):Int))],0⟩],_,by rfl,by simp,by exact y0.refl _,⟨(.inl t174),(.inr rfl),(.inr rfl),(.inl t174),(.inr rfl),(.inr rfl),(.inr rfl),(.inr rfl),(.inr rfl),(.inr rfl),(.inr rfl),(.inr rfl),(.inr rfl),(.inr rfl),(.inr rfl),(.inr rfl),(.inr rfl),(.inr rfl),(.inr rfl),(.inr rfl),(.inr rfl),(.inr rfl),(.inr rfl),(.inr rfl),(.inr rfl),trivial⟩,gN.get ⟨t3,t3,t3,t3,t3,t3,t3,t3,t3,t3,t3,t3,t3,t3,t3,t3,t3,t3,t3,t3,t3,t3,t3,t3,t3,trivial⟩,(n / 10),(dig n::s),⟨rfl,⟨by omega,hP2,PY (by omega) hM hm0,PX hM⟩⟩,rfl⟩
  · try simp only[e1]
    have qe1:=e1;try replace qe1:=s10z qe1
    refine c8.CF rfl ?_;refine c8.exit ?_;change c8 _ _ _ _ _;refine c8z ?_;refine n5.pre 2 t15 ?_;refine c68z ?_;refine Ends.mk (by simp only[VC,wW,kC,lT];first | rfl | (simp (maxSteps:=2000000) (disch:=omega) only [go_sem,Nat.reduceBEq,Nat.reduceAdd,Nat.reduceSub,Nat.reduceLeDiff,Nat.reduceMul,reduceIte,reduceCtorEq,Int.reduceNeg,Int.reduceToNat,Nat.reduceLT,Int.reduceLE,Int.reduceLT,Int.reduceAdd,Int.reduceSub,Int.reduceMul,VT,VU,HP,jC,rd,VV,HQ,show ((10:Int)=0)=False from by simp,show (⟨#[dig m0]⟩:BA)=⟨[dig m0].toArray⟩ from rfl,rZ,if_pos,if_neg];rfl)) ?_;exact ⟨_,_,(by first | rfl | exact (List.append_nil _).symm | (simp only[List.append_assoc,List.cons_append,List.nil_append];rfl)),by first | rfl | (simp only[iQ,lP,p6,p8,jG];rfl),by (rw[←hP,show n=0 from by omega];rfl)⟩
variable {h:c5}
theorem PZ (n:Nat)(hn:n<10000000000000000000):CallA Tryz.prog cfg 181 [.int .u64 (n:Int)] h (fun y h'=>y=.str ⟨(xN n).toArray⟩∧h'=h):=J5 rfl ((c_dig0 n hn).mono fun _ _ h=>by rw[h.1];rfl) h
theorem J9 (n:Int)(h0:0≤n)(hn:n<10000000000000000000):CallA Tryz.prog cfg 181 [.int .u64 n] h (fun y h'=>y=.str ⟨(xN n.toNat).toArray⟩∧h'=h):=by have:=PZ (h:=h) n.toNat (by omega);rwa[Int.toNat_of_nonneg h0]at this
theorem c_num (n:Int)(h1:-9000000000000000000≤n)(h2:n<9000000000000000000):CB 163 [.int .i64 n] h (.str (CW n)):=by
  refine CallA.body (Q:=fun y'=>y'=.str (CW n)) v9 fn163 rfl ?_;simp only[ntm163,List.length_cons,List.length_nil,Nat.reduceAdd,Nat.reduceSub,List.replicate,List.cons_append,List.nil_append];have hs1:(xN (-(n+1)+1).toNat).length≤20:=tG 20 _;refine c8z ?_;refine n5.pre 1 t18 ?_;refine c140z ?_;refine c8z ?_;refine n5.pre 2 t18 ?_;refine c7z ?_;refine c8.split 4 rfl (fun e1=>?_) (fun e1=>?_)
  · try simp only[e1]
    have qe1:=e1;try replace qe1:=s10z qe1
    refine c8.yZ rfl ?_;refine c8z ?_;refine n5.pre 5 t18 ?_;refine n5.XV rfl rfl rfl hb181 (J9 _ (by omega) (by omega)) ?_;refine n5.pre 2 t18 ?_;refine c68z ?_;refine Ends.mk t68 ?_;exact ⟨[],_,(List.append_nil _).symm,t40,t132⟩
  · try simp only[e1]
    have qe1:=e1;try replace qe1:=s10z qe1
    refine c187z ?_;refine n5.pre 2 t18 ?_;refine n5.XV rfl rfl rfl hb181 (J9 _ (by omega) (by omega)) ?_;refine n5.pre 1 t18 ?_;refine c68z ?_;refine Ends.mk t68 ?_;exact ⟨[],_,(List.append_nil _).symm,t40,t132⟩
theorem strE1:s4 cfg kU 20 188 [.int .i64 1] []=some (.int .i64 6,[]):=by kernel_rfl
theorem strE2:s4 cfg kU 20 188 [.int .i64 2] []=some (.int .i64 6,[]):=by kernel_rfl
theorem strE3:s4 cfg kU 20 188 [.int .i64 3] []=some (.int .i64 5,[]):=by kernel_rfl
theorem strE4:s4 cfg kU 20 188 [.int .i64 4] []=some (.int .i64 5,[]):=by kernel_rfl
theorem strE5:s4 cfg kU 20 188 [.int .i64 5] []=some (.int .i64 4,[]):=by kernel_rfl
theorem strE6:s4 cfg kU 20 188 [.int .i64 6] []=some (.int .i64 4,[]):=by kernel_rfl
theorem strE7:s4 cfg kU 20 188 [.int .i64 7] []=some (.int .i64 4,[]):=by kernel_rfl
theorem strE8:s4 cfg kU 20 188 [.int .i64 8] []=some (.int .i64 3,[]):=by kernel_rfl
theorem strE9:s4 cfg kU 20 188 [.int .i64 9] []=some (.int .i64 3,[]):=by kernel_rfl
theorem strE10:s4 cfg kU 20 188 [.int .i64 10] []=some (.int .i64 2,[]):=by kernel_rfl
theorem strE11:s4 cfg kU 20 188 [.int .i64 11] []=some (.int .i64 2,[]):=by kernel_rfl
theorem strE12:s4 cfg kU 20 188 [.int .i64 12] []=some (.int .i64 2,[]):=by kernel_rfl
theorem strE13:s4 cfg kU 20 188 [.int .i64 13] []=some (.int .i64 2,[]):=by kernel_rfl
theorem strE14:s4 cfg kU 20 188 [.int .i64 14] []=some (.int .i64 2,[]):=by kernel_rfl
theorem strE15:s4 cfg kU 20 188 [.int .i64 15] []=some (.int .i64 2,[]):=by kernel_rfl
theorem strE16:s4 cfg kU 20 188 [.int .i64 16] []=some (.int .i64 1,[]):=by kernel_rfl
theorem strE17:s4 cfg kU 20 188 [.int .i64 17] []=some (.int .i64 0,[]):=by kernel_rfl
theorem rK (o:Int)(h1:1≤o)(h2:o≤17):CallA Tryz.prog cfg 188 [.int .i64 o] h (fun y h'=>y=.int .i64 (gT o)∧h'=h):=by
  have key:∀(k v:Int),s4 cfg kU 20 188 [.int .i64 k] []=some (.int .i64 v,[])→gT k=v→CallA Tryz.prog cfg 188 [.int .i64 k] h (fun y h'=>y=.int .i64 (gT k)∧h'=h):=fun k v he hv=>by rw[hv];exact J5 rfl ((zG v9 CQ 20 _ _ _ _ _ he).mono fun _ _ h=>by rw[h.1];rfl) h
  have hcases:o=1∨o=2∨o=3∨o=4∨o=5∨o=6∨o=7∨o=8∨o=9∨o=10∨o=11∨o=12∨o=13∨o=14∨o=15∨o=16∨o=17:=by omega
  rcases hcases with rfl | rfl | rfl | rfl | rfl | rfl | rfl | rfl | rfl | rfl | rfl | rfl | rfl | rfl | rfl | rfl | rfl
  · exact key _ _ strE1 rfl
  · exact key _ _ strE2 rfl
  · exact key _ _ strE3 rfl
  · exact key _ _ strE4 rfl
  · exact key _ _ strE5 rfl
  · exact key _ _ strE6 rfl
  · exact key _ _ strE7 rfl
  · exact key _ _ strE8 rfl
  · exact key _ _ strE9 rfl
  · exact key _ _ strE10 rfl
  · exact key _ _ strE11 rfl
  · exact key _ _ strE12 rfl
  · exact key _ _ strE13 rfl
  · exact key _ _ strE14 rfl
  · exact key _ _ strE15 rfl
  · exact key _ _ strE16 rfl
  · exact key _ _ strE17 rfl
theorem QA {l:List Ex}{i:Nat}(h:i<l.length):List.take 1 (List.drop (i*4) (n4 l))=[AV.int .i64 (l.getD i l4).op]:=by have:=congrArg (fun x=>x.take 1) (read_es h);simp only[List.take_take,bN]at this;simpa using this
variable {o:Int}
theorem pZ (h1:1≤o)(h2:o≤17):0≤gT o∧gT o≤6∧(gT o=6↔o=1∨o=2)∧(gT o=5↔o=3∨o=4):=by
  have hcases:o=1∨o=2∨o=3∨o=4∨o=5∨o=6∨o=7∨o=8∨o=9∨o=10∨o=11∨o=12∨o=13∨o=14∨o=15∨o=16∨o=17:=by omega
  rcases hcases with rfl | rfl | rfl | rfl | rfl | rfl | rfl | rfl | rfl | rfl | rfl | rfl | rfl | rfl | rfl | rfl | rfl<;>decide
variable {vars:List BA}
theorem GE.op:∀{d:Nat} {e:Ex},GE vars d e→1≤e.op∧e.op≤17
  | d,.leaf o n s,h=>by have h':=jX.1 h;simp only[Ex.op];omega
  | 0,.un o a,h=>h.elim
  | 0,.bin o a b,h=>h.elim
  | d+1,.un o a,h=>by have:=h.1;simp only[Ex.op];omega
  | d+1,.bin o a b,h=>by have:=h.1;simp only[Ex.op];omega
section
attribute [local go_sem] QA
theorem Q5 (e:Ex)(k:Nat)(hk:k<e.args.length)(h1:1≤e.op∧e.op≤17)(h2:1≤(e.args.getD k l4).op∧(e.args.getD k l4).op≤17)(hl:e.args.length≤2):CB 189 [.agg [.int .i64 e.op,.int .i64 e.num,.str e.name,.vec e.args.length (n4 e.args)],.int .i64 (k:Int)] h (.bool (lV e k)):=by
  refine .bz Tryz.f189 29 ?_;refine .z ?_;refine .ss v9 (mkP 12 [0,1,0,7,15,31,63,0,128,511,1023,2047] []) ?_;refine .k 6 [] ?_;refine .ca rfl rfl (rK _ h2.1 h2.2) ?_;refine .k 2 [] ?_;refine .ca rfl rfl (rK _ h1.1 h1.2) ?_;refine .n [] ?_;refine .c6 [1,5,6] ?_;refine c25z ?_;refine .spl 20 rfl rfl (fun e1=>?_) (fun e1=>?_)
  ·try simp only[e1]
   have qe1:=fact e1;refine .k 8 [(3,20),(7,24)] ?_;refine .n ?_;exact .ret (.ex (hq:=t79))
  try simp only[e1]
  have qe1:=fact e1;refine .k 4 [(3,20)] ?_;refine .spl 24 rfl rfl (fun e2=>?_) (fun e2=>?_)
  ·try simp only[e2]
   have qe2:=fact e2;refine .m [(3,20),(7,24)] ?_;exact .ret (.ex (hq:=t79))
  try simp only[e2]
  have qe2:=fact e2;refine .m [(3,20),(7,24)] ?_;exact .ret (.ex (hq:=t79))
end
variable {a:Ex}
theorem Z2 (h1:1≤o∧o≤17)(h2:1≤a.op∧a.op≤17):CB 189 [.agg [.int .i64 o,.int .i64 0,.str ByteArray.empty,.vec 1 (s9 a)],.int .i64 0] h (.bool (lV (.un o a) 0)):=by have:=Q5 (h:=h) (.un o a) 0 t201 h1 h2 t201;simpa only[Ex.op,Ex.num,Ex.name,Ex.args,n4,List.flatMap_cons,List.flatMap_nil,List.append_nil,List.length_cons,List.length_nil,Nat.zero_add,Int.natCast_zero,Int.cast_ofNat_Int] using this
variable {b:Ex}
theorem K0 (h1:1≤o∧o≤17)(h2:1≤a.op∧a.op≤17):CB 189 [.agg [.int .i64 o,.int .i64 0,.str ByteArray.empty,.vec 2 (s9 a++s9 b)],.int .i64 0] h (.bool (lV (.bin o a b) 0)):=by have:=Q5 (h:=h) (.bin o a b) 0 t201 h1 h2 t201;simpa only[Ex.op,Ex.num,Ex.name,Ex.args,n4,List.flatMap_cons,List.flatMap_nil,List.append_nil,List.length_cons,List.length_nil,Nat.zero_add,Nat.reduceAdd,Int.natCast_zero,Int.cast_ofNat_Int] using this
theorem vJ (h1:1≤o∧o≤17)(h2:1≤b.op∧b.op≤17):CB 189 [.agg [.int .i64 o,.int .i64 0,.str ByteArray.empty,.vec 2 (s9 a++s9 b)],.int .i64 1] h (.bool (lV (.bin o a b) 1)):=by have:=Q5 (h:=h) (.bin o a b) 1 t201 h1 h2 t201;simpa only[Ex.op,Ex.num,Ex.name,Ex.args,n4,List.flatMap_cons,List.flatMap_nil,List.append_nil,List.length_cons,List.length_nil,Nat.zero_add,Nat.reduceAdd,Int.natCast_one,Int.cast_ofNat_Int] using this
theorem eZ:s9 (.un o a)=[.int .i64 o,.int .i64 0,.str ByteArray.empty,.vec 1 (s9 a)]:=rfl
theorem cR:s9 (.bin o a b)=[.int .i64 o,.int .i64 0,.str ByteArray.empty,.vec 2 (s9 a++s9 b)]:=rfl
theorem bH {n:Int}{s:BA}:s9 (.leaf o n s)=[.int .i64 o,.int .i64 n,.str s,.vec 0 []]:=rfl
theorem jL {l:List AV}:List.take 4 (s9 a++l)=s9 a:=by rw[←n8 a,List.take_left]
theorem jM {l:List AV}:List.drop 4 (s9 a++l)=l:=by rw[←n8 a,List.drop_left]
theorem mM {s:BA}:(s.toList==ByteArray.empty.toList)=decide (s.size=0):=by
  rw[ByteArray.toList_eq,ByteArray.toList_eq,Bool.eq_iff_iff];simp only[beq_iff_eq,decide_eq_true_eq];constructor
  · intro h
    have:=congrArg List.length h;simpa using this
  · intro h
    exact List.length_eq_zero_iff.1 t188
theorem eq_mk {s:BA}:(⟨#[]⟩:BA)=ByteArray.empty:=rfl
theorem mN:ByteArray.empty.size=0:=rfl
section
attribute [local go_sem] eZ cR bH jL jM gA mM eq_mk mN
theorem QB {vars:List BA}(n:Int)(hn:0≤n):CB 179 [.agg (s9 (.leaf 1 n ByteArray.empty))] h (.bool true):=by
  refine .bz Tryz.f179 77 ?_;have hst:gT 1=6:=rfl;refine c182z ?_;refine c20z ?_;refine .nil ?_;refine c92z ?_;refine .spl 10 rfl rfl (fun e1=>?_) (fun e1=>by exfalso;first | omega | (replace e1:=s11z e1;omega) | (simp at e1;omega) | (simp at e1;done));try simp only[e1]
  have qe1:=fact e1;refine .T ?_;refine c246z ?_;refine .ss v9 (mkP 28 [0,1,3,7,15,31,63,127,255,511,1023,2047,4095,0,8192,24576,57855,123391,254463,516607,1040895,2089471,4186623,8380927,16769535,33546751,33554431,134217727] []) ?_;refine .k 4 [] ?_;refine .spl 15 rfl rfl (fun e2=>?_) (fun e2=>by exfalso;first | omega | (replace e2:=s11z e2;omega) | (simp at e2;omega) | (simp at e2;done));try simp only[e2]
  have qe2:=fact e2;refine .k 5 [(3,15)] ?_;refine .spl 20 rfl rfl (fun e3=>?_) (fun e3=>by exfalso;first | omega | (replace e3:=s11z e3;omega) | (simp at e3;omega) | (simp at e3;done));try simp only[e3]
  have qe3:=fact e3;refine .k 8 [(8,20)] ?_;refine .spl 28 rfl rfl (fun e4=>by exfalso;first | omega | (replace e4:=s11z e4;omega) | (simp at e4;omega) | (simp at e4;done)) (fun e4=>?_);try simp only[e4]
  have qe4:=fact e4;refine .k 8 [(16,28),(21,33)] ?_;refine .n [] ?_;refine .c6 [1,3,4,5] ?_;refine c14z ?_;refine .spl 40 rfl rfl (fun e5=>by exfalso;first | omega | (replace e5:=s11z e5;omega) | (simp at e5;omega) | (simp at e5;done)) (fun e5=>?_);try simp only[e5]
  have qe5:=fact e5;refine .m [(2,40)] ?_;refine c214z ?_;refine .c6 [1,3] ?_;refine c132z ?_;refine .spl 51 rfl rfl (fun e6=>by exfalso;first | omega | (replace e6:=s11z e6;omega) | (simp at e6;omega) | (simp at e6;done)) (fun e6=>?_);try simp only[e6]
  have qe6:=fact e6;refine .k 3 [(5,51)] ?_;refine .spl 54 rfl rfl (fun e7=>by exfalso;first | omega | (replace e7:=s11z e7;omega) | (simp at e7;omega) | (simp at e7;done)) (fun e7=>?_);try simp only[e7]
  have qe7:=fact e7;refine .k 8 [(8,54),(12,58)] ?_;refine .m [(5,51)] ?_;refine c70z ?_;refine .c6 [1,3] ?_;refine c142z ?_;refine .z ?_;exact .ret (.ex (hq:=by rfl))
end
section
attribute [local go_sem] eZ cR bH jL jM gA mM eq_mk mN
theorem QC {vars:List BA}(s:BA)(hn:isName (L8 s))(hr:tQ s=false):CB 179 [.agg (s9 (.leaf 2 0 s))] h (.bool true):=by
  refine .bz Tryz.f179 77 ?_;have hst:gT 2=6:=rfl;have hsz:=(eO hn).1;refine c182z ?_;refine c20z ?_;refine .nil ?_;refine c92z ?_;refine .spl 10 rfl rfl (fun e1=>?_) (fun e1=>by exfalso;first | omega | (replace e1:=s11z e1;omega) | (simp at e1;omega) | (simp at e1;done));try simp only[e1]
  have qe1:=fact e1;refine .T ?_;refine c246z ?_;refine .ss v9 (mkP 28 [0,1,3,7,15,31,63,127,255,511,1023,2047,4095,0,8192,24576,57855,123391,254463,516607,1040895,2089471,4186623,8380927,16769535,33546751,33554431,134217727] []) ?_;refine .k 4 [] ?_;refine .spl 15 rfl rfl (fun e2=>by exfalso;first | omega | (replace e2:=s11z e2;omega) | (simp at e2;omega) | (simp at e2;done)) (fun e2=>?_);try simp only[e2]
  have qe2:=fact e2;refine .k 8 [(3,15),(8,20)] ?_;refine .k 5 [] ?_;refine .spl 28 rfl rfl (fun e3=>?_) (fun e3=>by exfalso;first | omega | (replace e3:=s11z e3;omega) | (simp at e3;omega) | (simp at e3;done));try simp only[e3]
  have qe3:=fact e3;refine .k 5 [(16,28)] ?_;refine .spl 33 rfl rfl (fun e4=>?_) (fun e4=>by exfalso;first | omega | (replace e4:=s11z e4;omega) | (simp at e4;omega) | (simp at e4;done));try simp only[e4]
  have qe4:=fact e4;refine .k 2 [(21,33)] ?_;refine .ca rfl rfl (mL _ hn hr) ?_;refine .n [] ?_;refine .c6 [1,3,4,5] ?_;refine .zm [(2,40)] ?_;refine .spl 43 rfl rfl (fun e5=>by exfalso;first | omega | (replace e5:=s11z e5;omega) | (simp at e5;omega) | (simp at e5;done)) (fun e5=>?_);try simp only[e5]
  have qe5:=fact e5;refine c214z ?_;refine .c6 [1,3] ?_;refine c132z ?_;refine .spl 51 rfl rfl (fun e6=>by exfalso;first | omega | (replace e6:=s11z e6;omega) | (simp at e6;omega) | (simp at e6;done)) (fun e6=>?_);try simp only[e6]
  have qe6:=fact e6;refine .k 3 [(5,51)] ?_;refine .spl 54 rfl rfl (fun e7=>by exfalso;first | omega | (replace e7:=s11z e7;omega) | (simp at e7;omega) | (simp at e7;done)) (fun e7=>?_);try simp only[e7]
  have qe7:=fact e7;refine .k 8 [(8,54),(12,58)] ?_;refine .m [(5,51)] ?_;refine c70z ?_;refine .c6 [1,3] ?_;refine c142z ?_;refine .z ?_;exact .ret (.ex (hq:=by rfl))
end
section
attribute [local go_sem] eZ cR bH jL jM gA mM eq_mk mN
theorem QD {vars:List BA}(o:Int)(a:Ex)(ho:o=3∨o=4)(iha:∀(h:c5),CB 179 [.agg (s9 a)] h (.bool true)):CB 179 [.agg (s9 (.un o a))] h (.bool true):=by
  refine .bz Tryz.f179 77 ?_;have hst:=(pZ (o:=o) (by omega) (by omega)).2.2.2.2 ho;refine c182z ?_;refine c20z ?_;refine .nil ?_;refine c92z ?_;refine .spl 10 rfl rfl (fun e1=>by exfalso;first | omega | (replace e1:=s11z e1;omega) | (simp at e1;omega) | (simp at e1;done)) (fun e1=>?_);try simp only[e1]
  have qe1:=fact e1;refine c153z ?_;refine .spl 44 rfl rfl (fun e2=>?_) (fun e2=>by exfalso;first | omega | (replace e2:=s11z e2;omega) | (simp at e2;omega) | (simp at e2;done));try simp only[e2]
  have qe2:=fact e2;refine .T ?_;refine .c6 [1] ?_;refine c1z ?_;refine .seq ?_;refine c132z ?_;refine .spl 51 rfl rfl (fun e3=>by exfalso;first | omega | (replace e3:=s11z e3;omega) | (simp at e3;omega) | (simp at e3;done)) (fun e3=>?_);try simp only[e3]
  have qe3:=fact e3;refine .k 3 [(5,51)] ?_;refine .spl 54 rfl rfl (fun e4=>?_) (fun e4=>by exfalso;first | omega | (replace e4:=s11z e4;omega) | (simp at e4;omega) | (simp at e4;done));try simp only[e4]
  have qe4:=fact e4;refine .k 4 [(8,54)] ?_;refine .spl 58 rfl rfl (fun e5=>by exfalso;first | omega | (replace e5:=s11z e5;omega) | (simp at e5;omega) | (simp at e5;done)) (fun e5=>?_);try simp only[e5]
  have qe5:=fact e5;refine .m [(5,51),(8,54),(12,58)] ?_;refine .spl 64 rfl rfl (fun e6=>by exfalso;first | omega | (replace e6:=s11z e6;omega) | (simp at e6;omega) | (simp at e6;done)) (fun e6=>?_);try simp only[e6]
  have qe6:=fact e6;refine c70z ?_;refine .c6 [1,3] ?_;refine c19z ?_;refine c215z ?_;refine c90z ?_;refine .n ?_;refine .spl 76 rfl rfl (fun e7=>by exfalso;first | omega | (replace e7:=s11z e7;omega) | (simp at e7;omega) | (simp at e7;done)) (fun e7=>?_);try simp only[e7]
  have qe7:=fact e7;refine c34z ?_;refine .c6 [1,3,6] ?_;refine .rz ?_;refine c43z ?_;refine c10z ?_;exact .ret (.ex (hq:=by rfl))
end
section
attribute [local go_sem] eZ cR bH jL jM gA mM eq_mk mN
theorem QE {vars:List BA}(o:Int)(a b:Ex)(ho:5≤o∧o≤17)(iha:∀(h:c5),CB 179 [.agg (s9 a)] h (.bool true))(ihb:∀(h:c5),CB 179 [.agg (s9 b)] h (.bool true)):CB 179 [.agg (s9 (.bin o a b))] h (.bool true):=by
  refine .bz Tryz.f179 77 ?_;have hst:=pZ (o:=o) (by omega) (by omega);refine c182z ?_;refine c20z ?_;refine .nil ?_;refine c92z ?_;refine .spl 10 rfl rfl (fun e1=>by exfalso;first | omega | (replace e1:=s11z e1;omega) | (simp at e1;omega) | (simp at e1;done)) (fun e1=>?_);try simp only[e1]
  have qe1:=fact e1;refine c153z ?_;refine .spl 44 rfl rfl (fun e2=>by exfalso;first | omega | (replace e2:=s11z e2;omega) | (simp at e2;omega) | (simp at e2;done)) (fun e2=>?_);try simp only[e2]
  have qe2:=fact e2;refine c214z ?_;refine .c6 [1,3] ?_;refine c132z ?_;refine .spl 51 rfl rfl (fun e3=>by exfalso;first | omega | (replace e3:=s11z e3;omega) | (simp at e3;omega) | (simp at e3;done)) (fun e3=>?_);try simp only[e3]
  have qe3:=fact e3;refine .k 3 [(5,51)] ?_;refine .spl 54 rfl rfl (fun e4=>?_) (fun e4=>by exfalso;first | omega | (replace e4:=s11z e4;omega) | (simp at e4;omega) | (simp at e4;done));try simp only[e4]
  have qe4:=fact e4;refine .k 4 [(8,54)] ?_;refine .spl 58 rfl rfl (fun e5=>by exfalso;first | omega | (replace e5:=s11z e5;omega) | (simp at e5;omega) | (simp at e5;done)) (fun e5=>?_);try simp only[e5]
  have qe5:=fact e5;refine .m [(5,51),(8,54),(12,58)] ?_;refine .spl 64 rfl rfl (fun e6=>by exfalso;first | omega | (replace e6:=s11z e6;omega) | (simp at e6;omega) | (simp at e6;done)) (fun e6=>?_);try simp only[e6]
  have qe6:=fact e6;refine c70z ?_;refine .c6 [1,3] ?_;refine c19z ?_;refine c235z ?_;refine .n ?_;refine .spl 76 rfl rfl (fun e7=>by exfalso;first | omega | (replace e7:=s11z e7;omega) | (simp at e7;omega) | (simp at e7;done)) (fun e7=>?_);try simp only[e7]
  have qe7:=fact e7;refine c34z ?_;refine .c6 [1,3,6] ?_;refine .rz ?_;refine c236z ?_;refine .n ?_;refine .spl 76 rfl rfl (fun e8=>by exfalso;first | omega | (replace e8:=s11z e8;omega) | (simp at e8;omega) | (simp at e8;done)) (fun e8=>?_);try simp only[e8]
  have qe8:=fact e8;refine c34z ?_;refine .c6 [1,3,6] ?_;refine .rz ?_;refine c43z ?_;refine c10z ?_;exact .ret (.ex (hq:=by rfl))
end
def aE (vars:List BA):Prop:=∀x∈vars,isName (L8 x)∧tQ x=false
theorem aE.n (h:aE vars):Names vars:=fun x hx=>(h x hx).1
theorem A3 {vars:List BA}(hv:aE vars):∀{d:Nat} {e:Ex},GE vars d e→∀(h:c5),CB 179 [.agg (s9 e)] h (.bool true)
  | d,.leaf o n s,hg,h=>by
    rcases jX.1 hg with ⟨rfl,h1,_,rfl⟩ | ⟨rfl,rfl,h1⟩
    · exact QB (vars:=vars) n h1
    · exact QC (vars:=vars) s (hv s h1).1 (hv s h1).2
  | 0,.un o a,hg,h=>hg.elim
  | 0,.bin o a b,hg,h=>hg.elim
  | d+1,.un o a,hg,h=>QD (vars:=vars) o a hg.1 (A3 hv hg.2)
  | d+1,.bin o a b,hg,h=>QE (vars:=vars) o a b hg.1 (A3 hv hg.2.1) (A3 hv hg.2.2)
def mx (a b:Int):Int:=if b > a then b else a
def hgt:Ex→Int
  | .leaf ..=>0
  | .un o a=>mx 0 (if lV (.un o a) 0 then hgt a+1 else hgt a)+1
  | .bin o a b=>mx (mx 0 (if lV (.bin o a b) 0 then hgt a+1 else hgt a)) (if lV (.bin o a b) 1 then hgt b+1 else hgt b)
theorem vK:∀e:Ex,0≤hgt e∧hgt e≤2*(e.dep:Int)
  | .leaf ..=>⟨Int.le_refl _,by simp[hgt,Ex.dep]⟩
  | .un o a=>by have:=vK a;simp only[hgt,mx,Ex.dep];constructor<;>(repeat' split)<;>omega
  | .bin o a b=>by have:=vK a;have:=vK b;simp only[hgt,mx,Ex.dep];constructor<;>(repeat' split)<;>omega
section
attribute [local go_sem] eZ cR bH jL jM gA mM eq_mk mN
theorem HR (o n:Int)(s:BA)(ho:o=1∨o=2):CB 180 [.agg (s9 (.leaf o n s))] h (.int .i64 (hgt (.leaf o n s))):=by
  refine .bz Tryz.f180 34 ?_;have hst:=(pZ (o:=o) (by omega) (by omega)).2.2.1.2 ho;refine c59z ?_;refine c60z ?_;refine .seq ?_;refine c126z ?_;refine .n ?_;refine .spl 30 rfl rfl (fun e1=>by exfalso;first | omega | (replace e1:=s11z e1;omega) | (simp at e1;omega) | (simp at e1;done)) (fun e1=>?_);try simp only[e1]
  have qe1:=fact e1;refine c144z ?_;exact .ret (.ex (hq:=by rfl))
end
section
attribute [local go_sem] eZ cR bH jL jM gA mM eq_mk mN
theorem HS (o:Int)(a:Ex)(ho:o=3∨o=4)(hd:a.dep≤1000)(hga:1≤a.op∧a.op≤17)(iha:∀(h:c5),CB 180 [.agg (s9 a)] h (.int .i64 (hgt a))):CB 180 [.agg (s9 (.un o a))] h (.int .i64 (hgt (.un o a))):=by
  refine .bz Tryz.f180 34 ?_;have hst:=(pZ (o:=o) (by omega) (by omega)).2.2.2.2 ho;have hha:=vK a;refine c59z ?_;refine c215z ?_;refine c90z ?_;refine c111z ?_;refine .ca rfl rfl (Z2 (by omega) hga) ?_;refine .nil ?_;refine u2z ?_ ?_
  ·intro e1 qe1;refine c1z ?_;refine c165z ?_;refine .seq ?_;refine c126z ?_;refine .n ?_;refine .spl 30 rfl rfl (fun e2=>?_) (fun e2=>by exfalso;first | omega | (replace e2:=s11z e2;omega) | (simp at e2;omega) | (simp at e2;done));try simp only[e2]
   have qe2:=fact e2;refine .T ?_;refine c1z ?_;refine .z ?_;exact .ret (.ex (hq:=t63))
  intro e1 qe1;refine .sk ?_;refine c48z ?_;change c8 _ _ _ _ _;refine c242z ?_;refine c9z ?_;refine c6z ?_;refine .seq ?_;refine c20z ?_;refine .n ?_;refine .spl 30 rfl rfl (fun e3=>?_) (fun e3=>by exfalso;first | omega | (replace e3:=s11z e3;omega) | (simp at e3;omega) | (simp at e3;done));try simp only[e3]
  have qe3:=fact e3;refine .T ?_;refine .c6 [3] ?_;refine c1z ?_;refine .z ?_;exact .ret (.ex (hq:=t63))
end
section
attribute [local go_sem] eZ cR bH jL jM gA mM eq_mk mN
theorem HT (o:Int)(a b:Ex)(ho:5≤o∧o≤17)(hd:a.dep≤1000)(hd2:b.dep≤1000)(hga:1≤a.op∧a.op≤17)(hgb:1≤b.op∧b.op≤17)(iha:∀(h:c5),CB 180 [.agg (s9 a)] h (.int .i64 (hgt a)))(ihb:∀(h:c5),CB 180 [.agg (s9 b)] h (.int .i64 (hgt b))):CB 180 [.agg (s9 (.bin o a b))] h (.int .i64 (hgt (.bin o a b))):=by
  refine .bz Tryz.f180 34 ?_;have hst:=pZ (o:=o) (by omega) (by omega);have hha:=vK a;have hhb:=vK b;refine c59z ?_;refine c235z ?_;refine c111z ?_;refine .ca rfl rfl (K0 (by omega) hga) ?_;refine .nil ?_;refine u2z ?_ ?_
  ·intro e1 qe1;refine c1z ?_;refine c97z ?_;refine c236z ?_;refine c111z ?_;refine .ca rfl rfl (vJ (by omega) hgb) ?_;refine .nil ?_;refine u2z ?_ ?_
   ·intro e2 qe2;refine c1z ?_;refine c165z ?_;refine .seq ?_;refine c126z ?_;refine .n ?_;refine .spl 30 rfl rfl (fun e3=>by exfalso;first | omega | (replace e3:=s11z e3;omega) | (simp at e3;omega) | (simp at e3;done)) (fun e3=>?_);try simp only[e3]
    have qe3:=fact e3;refine c144z ?_;exact .ret (.ex (hq:=t63))
   intro e2 qe2;refine .sk ?_;refine c48z ?_;change c8 _ _ _ _ _;refine c242z ?_;refine c9z ?_;refine c6z ?_;refine .seq ?_;refine c20z ?_;refine .n ?_;refine .spl 30 rfl rfl (fun e4=>by exfalso;first | omega | (replace e4:=s11z e4;omega) | (simp at e4;omega) | (simp at e4;done)) (fun e4=>?_);try simp only[e4]
   have qe4:=fact e4;refine c17z ?_;refine c178z ?_;exact .ret (.ex (hq:=t63))
  intro e1 qe1;refine .sk ?_;refine c48z ?_;change c8 _ _ _ _ _;refine c242z ?_;refine c106z ?_;refine c2z ?_;refine c120z ?_;refine c111z ?_;refine .ca rfl rfl (vJ (by omega) hgb) ?_;refine .nil ?_;refine u2z ?_ ?_
  ·intro e5 qe5;refine c1z ?_;refine c165z ?_;refine .seq ?_;refine c126z ?_;refine .n ?_;refine .spl 30 rfl rfl (fun e6=>by exfalso;first | omega | (replace e6:=s11z e6;omega) | (simp at e6;omega) | (simp at e6;done)) (fun e6=>?_);try simp only[e6]
   have qe6:=fact e6;refine c144z ?_;exact .ret (.ex (hq:=t63))
  intro e5 qe5;refine .sk ?_;refine c48z ?_;change c8 _ _ _ _ _;refine c242z ?_;refine c9z ?_;refine c6z ?_;refine .seq ?_;refine c20z ?_;refine .n ?_;refine .spl 30 rfl rfl (fun e7=>by exfalso;first | omega | (replace e7:=s11z e7;omega) | (simp at e7;omega) | (simp at e7;done)) (fun e7=>?_);try simp only[e7]
  have qe7:=fact e7;refine c17z ?_;refine c178z ?_;exact .ret (.ex (hq:=t63))
end
theorem tS {vars:List BA}:∀{d:Nat} {e:Ex},d≤100→GE vars d e→∀(h:c5),CB 180 [.agg (s9 e)] h (.int .i64 (hgt e))
  | d,.leaf o n s,hd,hg,h=>by have h':=jX.1 hg;exact HR o n s (by omega)
  | 0,.un o a,hd,hg,h=>hg.elim
  | 0,.bin o a b,hd,hg,h=>hg.elim
  | d+1,.un o a,hd,hg,h=>HS o a hg.1 (by have:=hg.2.dep;omega) (GE.op hg.2) (tS (by omega) hg.2)
  | d+1,.bin o a b,hd,hg,h=>HT o a b hg.1 (by have:=hg.2.1.dep;omega) (by have:=hg.2.2.dep;omega) (GE.op hg.2.1) (GE.op hg.2.2) (tS (by omega) hg.2.1) (tS (by omega) hg.2.2)
theorem Z3 (hv:aE vars){d:Nat}(hd:d≤12)(e:Ex)(hg:GE vars d e):CB 159 [.agg (s9 e)] h (.bool true):=by refine .bz Tryz.f159 10 ?_;have hh:=vK e;have hdp:=hg.dep;refine c164z ?_;refine .ca rfl rfl (A3 hv hg _) ?_;refine .k 2 [(2,5)] ?_;refine .ca rfl rfl (tS (by omega) hg _) ?_;refine .m [(2,5)] ?_;exact .ret (.ex (hq:=by (exact congrArg AV.bool (decide_eq_true (by omega)))))
end Go.Proofs.YtonbocmibeikmaaGreat
end
section
namespace Go.Proofs.YtonbocmibeikmaaGreat
open Go.Ab Go.Un
theorem mx6:(6≤maxLen)=True:=by simp;decide
theorem mx3:(3≤maxLen)=True:=by simp;decide
def sgS (k:Int):List BA:=if k=0 then [(⟨#[124,124]⟩:BA)] else if k=1 then [(⟨#[38,38]⟩:BA)] else if k=2 then [(⟨#[61,61]⟩:BA),(⟨#[33,61]⟩:BA),(⟨#[60]⟩:BA),(⟨#[60,61]⟩:BA),(⟨#[62]⟩:BA),(⟨#[62,61]⟩:BA)] else if k=3 then [(⟨#[43]⟩:BA),(⟨#[45]⟩:BA)] else [(⟨#[42]⟩:BA),(⟨#[47]⟩:BA),(⟨#[37]⟩:BA)]
def sgO (k:Int):List Int:=if k=0 then [17] else if k=1 then [16] else if k=2 then [14,15,10,11,12,13] else if k=3 then [8,9] else [5,6,7]
theorem QF {k:Int}(h0:0≤k)(h4:k≤4):(sgS k).length=(sgO k).length∧(sgO k).length≤6:=by
  have hc:k=0∨k=1∨k=2∨k=3∨k=4:=by omega
  rcases hc with rfl | rfl | rfl | rfl | rfl<;>decide
variable {o:Int}
theorem QG (h:5≤o∧o≤17):∀i,i<(sgO (gT o)).length→(sgO (gT o)).getD i 0=o→(sgS (gT o)).getD i ByteArray.empty=P6 o:=by
  have hcases:o=5∨o=6∨o=7∨o=8∨o=9∨o=10∨o=11∨o=12∨o=13∨o=14∨o=15∨o=16∨o=17:=by omega
  rcases hcases with rfl | rfl | rfl | rfl | rfl | rfl | rfl | rfl | rfl | rfl | rfl | rfl | rfl<;>decide
theorem QH (h:5≤o∧o≤17):¬∀i,i<(sgO (gT o)).length→(sgO (gT o)).getD i 0≠o:=by
  have hcases:o=5∨o=6∨o=7∨o=8∨o=9∨o=10∨o=11∨o=12∨o=13∨o=14∨o=15∨o=16∨o=17:=by omega
  rcases hcases with rfl | rfl | rfl | rfl | rfl | rfl | rfl | rfl | rfl | rfl | rfl | rfl | rfl<;>decide
theorem tT (h:5≤o∧o≤17):0≤gT o∧gT o≤4:=by
  have hcases:o=5∨o=6∨o=7∨o=8∨o=9∨o=10∨o=11∨o=12∨o=13∨o=14∨o=15∨o=16∨o=17:=by omega
  rcases hcases with rfl | rfl | rfl | rfl | rfl | rfl | rfl | rfl | rfl | rfl | rfl | rfl | rfl<;>decide
variable {i:Nat}
theorem Z4 {l:List Int}(h:∀d,d<i→l.getD d 0≠o)(e:l.getD i 0≠o):∀d,d<i+1→l.getD d 0≠o:=fun d hd=>by
  by_cases hdi:d=i
  · rw[hdi];exact e
  · exact h d (by omega)
theorem A4 {a:Array UInt8}:(⟨a⟩:BA).size=a.size:=rfl
variable {h:c5}{a:Ex}{p:Bool}
theorem c_innU (hp:lV (.un o a) 0=p)(h1:1≤o∧o≤17)(h2:1≤a.op∧a.op≤17):CB 189 [.agg [.int .i64 o,.int .i64 0,.str ByteArray.empty,.vec 1 (s9 a)],.int .i64 0] h (.bool p):=by subst hp;exact Z2 h1 h2
theorem c_inn0 {b:Ex}(hp:lV (.bin o a b) 0=p)(h1:1≤o∧o≤17)(h2:1≤a.op∧a.op≤17):CB 189 [.agg [.int .i64 o,.int .i64 0,.str ByteArray.empty,.vec 2 (s9 a++s9 b)],.int .i64 0] h (.bool p):=by subst hp;exact K0 h1 h2
theorem c_inn1 {b:Ex}(hp:lV (.bin o a b) 1=p)(h1:1≤o∧o≤17)(h2:1≤b.op∧b.op≤17):CB 189 [.agg [.int .i64 o,.int .i64 0,.str ByteArray.empty,.vec 2 (s9 a++s9 b)],.int .i64 1] h (.bool p):=by subst hp;exact vJ h1 h2
attribute [local go_sem] j6 rd nC aL n8 bD cM l6 Int.natCast_nonneg Int.natCast_inj List.length_map wrap64 DE wrapU gA Y7 J0 Q0 Y8 zY max2 mB mx6 mx3 A4 aK eZ cR bH jL jM mM eq_mk mN sI xR Nat.reduceMul
theorem c_signs (k:Int):CB 186 [.int .i64 k] h (.tup [.vec (sgS k).length (aH (sgS k)),.vec (sgO k).length (g5 (sgO k))]):=by
  refine .bz Tryz.f186 23 ?_;refine c18z ?_;refine .z ?_;refine u2z ?_ ?_
  ·intro e1 qe1;refine .z ?_;exact .ret (.ex (hf:=t34) (hq:=t123))
  intro e1 qe1;refine .z ?_;refine u2z ?_ ?_
  ·intro e2 qe2;refine c10z ?_;exact .ret (.ex (hf:=t34) (hq:=t123))
  intro e2 qe2;refine .z ?_;refine u2z ?_ ?_
  ·intro e3 qe3;refine c10z ?_;exact .ret (.ex (hf:=t34) (hq:=t123))
  intro e3 qe3;refine .c6 [4] ?_;refine .z ?_;refine u2z ?_ ?_
  ·intro e4 qe4;refine .z ?_;exact .ret (.ex (hf:=t34) (hq:=t123))
  intro e4 qe4;refine c4z ?_;refine .z ?_;exact .ret (.ex (hf:=t34) (hq:=t123))
theorem c_text1 (n:Int)(h0:0≤n)(h1:n<4611686018427387904):CB 182 [.agg (s9 (.leaf 1 n ByteArray.empty))] h (.str (cD (.leaf 1 n ByteArray.empty))):=by refine .bz Tryz.f182 95 ?_;refine c59z ?_;refine c60z ?_;refine c226z ?_;refine .T ?_;refine c15z ?_;refine .ca rfl rfl (c_num _ (by omega) (by omega)) ?_;refine .n ?_;exact .ret (.ex (hq:=by (rw[CW,if_neg (by omega)];rfl)))
theorem c_text2 (n:Int)(s:BA):CB 182 [.agg (s9 (.leaf 2 n s))] h (.str (cD (.leaf 2 n s))):=by refine .bz Tryz.f182 95 ?_;refine c59z ?_;refine c60z ?_;refine .sb ?_;refine .c6 [1,3] ?_;refine c9z ?_;refine c106z ?_;refine c246z ?_;exact .ret (.ex (hq:=by rfl))
theorem c_textU (o:Int)(a:Ex)(ho:o=3∨o=4)(hga:1≤a.op∧a.op≤17)(iha:∀(h:c5),CB 182 [.agg (s9 a)] h (.str (cD a)))(hsa:(cD a).size<1000000):CB 182 [.agg (s9 (.un o a))] h (.str (cD (.un o a))):=by
  refine .bz Tryz.f182 95 ?_;refine c59z ?_;refine c215z ?_;refine c90z ?_;refine c111z ?_;refine .ca rfl rfl (c_innU rfl (by omega) hga) ?_;refine .nil ?_;refine u2z ?_ ?_
  ·intro e1 qe1;refine c1z ?_;refine c228z ?_;refine .spl 32 rfl rfl (fun e2=>by exfalso;first | omega | (replace e2:=s11z e2;omega) | (simp at e2;omega) | (simp at e2;done)) (fun e2=>?_);try simp only[e2]
   have qe2:=fact e2;refine c153z ?_;refine .spl 39 rfl rfl (fun e3=>by exfalso;first | omega | (replace e3:=s11z e3;omega) | (simp at e3;omega) | (simp at e3;done)) (fun e3=>?_);try simp only[e3]
   have qe3:=fact e3;refine .F ?_;refine c74z ?_;refine u2z ?_ ?_
   ·intro e4 qe4;refine .z ?_;exact .ret (.ex (hq:=t167))
   intro e4 qe4;refine .z ?_;refine .spl 53 rfl rfl (fun e5=>?_) (fun e5=>by exfalso;first | omega | (replace e5:=s11z e5;omega) | (simp at e5;omega) | (simp at e5;done));try simp only[e5]
   have qe5:=fact e5;refine .T ?_;refine c178z ?_;exact .ret (.ex (hq:=t167))
  intro e1 qe1;refine .sk ?_;refine c228z ?_;refine .spl 32 rfl rfl (fun e6=>by exfalso;first | omega | (replace e6:=s11z e6;omega) | (simp at e6;omega) | (simp at e6;done)) (fun e6=>?_);try simp only[e6]
  have qe6:=fact e6;refine c153z ?_;refine .spl 39 rfl rfl (fun e7=>by exfalso;first | omega | (replace e7:=s11z e7;omega) | (simp at e7;omega) | (simp at e7;done)) (fun e7=>?_);try simp only[e7]
  have qe7:=fact e7;refine .F ?_;refine c74z ?_;refine u2z ?_ ?_
  ·intro e8 qe8;refine .z ?_;exact .ret (.ex (hq:=t167))
  intro e8 qe8;refine .z ?_;refine .spl 53 rfl rfl (fun e9=>?_) (fun e9=>by exfalso;first | omega | (replace e9:=s11z e9;omega) | (simp at e9;omega) | (simp at e9;done));try simp only[e9]
  have qe9:=fact e9;refine .T ?_;refine c178z ?_;exact .ret (.ex (hq:=t167))
theorem HU (o:Int)(a b:Ex)(ho:5≤o∧o≤17)(hga:1≤a.op∧a.op≤17)(hgb:1≤b.op∧b.op≤17)(hp:lV (.bin o a b) 0=true)(hq:lV (.bin o a b) 1=true)(iha:∀(h:c5),CB 182 [.agg (s9 a)] h (.str (cD a)))(hsa:(cD a).size<1000000)(ihb:∀(h:c5),CB 182 [.agg (s9 b)] h (.str (cD b)))(hsb:(cD b).size<1000000):CB 182 [.agg (s9 (.bin o a b))] h (.str (cD (.bin o a b))):=by
  refine .bz Tryz.f182 95 ?_;have hst:=tT ho;have hsg:=QF hst.1 hst.2;have hsa2:=QG ho;have hse:=(uX ho).2;refine c59z ?_;refine c235z ?_;refine c148z ?_;refine .nil ?_;refine .T ?_;refine c1z ?_;refine c97z ?_;refine c236z ?_;refine c149z ?_;refine .nil ?_;refine .T ?_;refine c1z ?_;refine c228z ?_;refine .spl 32 rfl rfl (fun e1=>by exfalso;first | omega | (replace e1:=s11z e1;omega) | (simp at e1;omega) | (simp at e1;done)) (fun e1=>?_);try simp only[e1]
  have qe1:=fact e1;refine c153z ?_;refine .spl 39 rfl rfl (fun e2=>by exfalso;first | omega | (replace e2:=s11z e2;omega) | (simp at e2;omega) | (simp at e2;done)) (fun e2=>?_);try simp only[e2]
  have qe2:=fact e2;refine .F ?_;refine c74z ?_;refine .spl 45 rfl rfl (fun e3=>by exfalso;first | omega | (replace e3:=s11z e3;omega) | (simp at e3;omega) | (simp at e3;done)) (fun e3=>?_);try simp only[e3]
  have qe3:=fact e3;refine c153z ?_;refine .spl 53 rfl rfl (fun e4=>by exfalso;first | omega | (replace e4:=s11z e4;omega) | (simp at e4;omega) | (simp at e4;done)) (fun e4=>?_);try simp only[e4]
  have qe4:=fact e4;refine c34z ?_;refine c200z ?_;refine .n ?_;refine c5z ?_;refine .bX (fun m st=>∃(i:Nat),(m=(sgO (gT o)).length-i∧((∀d,d<i→(sgO (gT o)).getD d 0≠o)∧i≤(sgO (gT o)).length))∧st=⟨mkS 95 [(1,AV.ptr h.length 0 0),(3,AV.own (h.length+2) 1 0 2),(6,AV.vec (sgS (gT o)).length (aH (sgS (gT o)))),(7,AV.vec (sgO (gT o)).length (g5 (sgO (gT o)))),(8,AV.int .i64 ((i:Nat):Int))],h++[⟨0,false,49,4,[.int .i64 o,.int .i64 0,.str ByteArray.empty,.vec 2 (s9 a++s9 b)],0⟩,⟨0,false,9,1,[.str (⟨#[40]⟩++cD a++⟨#[41]⟩)],0⟩,⟨1,false,9,1,[.str (⟨#[40]⟩++cD a++⟨#[41]⟩),.str (⟨#[40]⟩++cD b++⟨#[41]⟩)],0⟩,⟨0,false,9,1,[.str (⟨#[40]⟩++cD b++⟨#[41]⟩)],0⟩]⟩) _ (.v ⟨0,⟨rfl,⟨t105,by omega⟩⟩,rfl⟩) ?_;rintro m sl h' ⟨i,⟨hm,⟨hI,hi⟩⟩,hst⟩;obtain ⟨rfl,rfl⟩:=St.mk.inj hst;refine c0z ?_;refine u2z ?_ ?_
  ·intro e5 qe5;refine c2z ?_;refine c133z ?_;refine u2z ?_ ?_
   ·intro e6 qe6;refine .c6 [3,6,8] ?_;have hsi:=hsa2 i (by omega) (by assumption);have hss:((sgS (gT o)).getD i ByteArray.empty).size≤2:=by rw[hsi];exact hse
    refine c75z ?_;exact .ret (.ex (hq:=t148))
   intro e6 qe6;refine c218z ?_;refine .rz ?_;exact ⟨_,by omega,.v ⟨(i+1),⟨rfl,⟨Z4 hI (by assumption),by omega⟩⟩,rfl⟩⟩
  intro e5 qe5;refine .exit ?_;exfalso;exact QH ho (fun d hd=>hI d (by omega))
theorem HV (o:Int)(a b:Ex)(ho:5≤o∧o≤17)(hga:1≤a.op∧a.op≤17)(hgb:1≤b.op∧b.op≤17)(hp:lV (.bin o a b) 0=true)(hq:lV (.bin o a b) 1=false)(iha:∀(h:c5),CB 182 [.agg (s9 a)] h (.str (cD a)))(hsa:(cD a).size<1000000)(ihb:∀(h:c5),CB 182 [.agg (s9 b)] h (.str (cD b)))(hsb:(cD b).size<1000000):CB 182 [.agg (s9 (.bin o a b))] h (.str (cD (.bin o a b))):=by
  refine .bz Tryz.f182 95 ?_;have hst:=tT ho;have hsg:=QF hst.1 hst.2;have hsa2:=QG ho;have hse:=(uX ho).2;refine c59z ?_;refine c235z ?_;refine c148z ?_;refine .nil ?_;refine .T ?_;refine c1z ?_;refine c97z ?_;refine c236z ?_;refine c149z ?_;refine .nil ?_;refine c17z ?_;refine c228z ?_;refine .spl 32 rfl rfl (fun e1=>by exfalso;first | omega | (replace e1:=s11z e1;omega) | (simp at e1;omega) | (simp at e1;done)) (fun e1=>?_);try simp only[e1]
  have qe1:=fact e1;refine c153z ?_;refine .spl 39 rfl rfl (fun e2=>by exfalso;first | omega | (replace e2:=s11z e2;omega) | (simp at e2;omega) | (simp at e2;done)) (fun e2=>?_);try simp only[e2]
  have qe2:=fact e2;refine .F ?_;refine c74z ?_;refine .spl 45 rfl rfl (fun e3=>by exfalso;first | omega | (replace e3:=s11z e3;omega) | (simp at e3;omega) | (simp at e3;done)) (fun e3=>?_);try simp only[e3]
  have qe3:=fact e3;refine c153z ?_;refine .spl 53 rfl rfl (fun e4=>by exfalso;first | omega | (replace e4:=s11z e4;omega) | (simp at e4;omega) | (simp at e4;done)) (fun e4=>?_);try simp only[e4]
  have qe4:=fact e4;refine c34z ?_;refine c200z ?_;refine .n ?_;refine c5z ?_;refine .bX (fun m st=>∃(i:Nat),(m=(sgO (gT o)).length-i∧((∀d,d<i→(sgO (gT o)).getD d 0≠o)∧i≤(sgO (gT o)).length))∧st=⟨mkS 95 [(1,AV.ptr h.length 0 0),(3,AV.own (h.length+2) 1 0 2),(6,AV.vec (sgS (gT o)).length (aH (sgS (gT o)))),(7,AV.vec (sgO (gT o)).length (g5 (sgO (gT o)))),(8,AV.int .i64 ((i:Nat):Int))],h++[⟨0,false,49,4,[.int .i64 o,.int .i64 0,.str ByteArray.empty,.vec 2 (s9 a++s9 b)],0⟩,⟨0,false,9,1,[.str (⟨#[40]⟩++cD a++⟨#[41]⟩)],0⟩,⟨1,false,9,1,[.str (⟨#[40]⟩++cD a++⟨#[41]⟩),.str (cD b)],0⟩,⟨0,false,9,1,[.str (cD b)],0⟩]⟩) _ (.v ⟨0,⟨rfl,⟨t105,by omega⟩⟩,rfl⟩) ?_;rintro m sl h' ⟨i,⟨hm,⟨hI,hi⟩⟩,hst⟩;obtain ⟨rfl,rfl⟩:=St.mk.inj hst;refine c0z ?_;refine u2z ?_ ?_
  ·intro e5 qe5;refine c2z ?_;refine c133z ?_;refine u2z ?_ ?_
   ·intro e6 qe6;refine .c6 [3,6,8] ?_;have hsi:=hsa2 i (by omega) (by assumption);have hss:((sgS (gT o)).getD i ByteArray.empty).size≤2:=by rw[hsi];exact hse
    refine c75z ?_;exact .ret (.ex (hq:=t148))
   intro e6 qe6;refine c218z ?_;refine .rz ?_;exact ⟨_,by omega,.v ⟨(i+1),⟨rfl,⟨Z4 hI (by assumption),by omega⟩⟩,rfl⟩⟩
  intro e5 qe5;refine .exit ?_;exfalso;exact QH ho (fun d hd=>hI d (by omega))
theorem HW (o:Int)(a b:Ex)(ho:5≤o∧o≤17)(hga:1≤a.op∧a.op≤17)(hgb:1≤b.op∧b.op≤17)(hp:lV (.bin o a b) 0=false)(hq:lV (.bin o a b) 1=true)(iha:∀(h:c5),CB 182 [.agg (s9 a)] h (.str (cD a)))(hsa:(cD a).size<1000000)(ihb:∀(h:c5),CB 182 [.agg (s9 b)] h (.str (cD b)))(hsb:(cD b).size<1000000):CB 182 [.agg (s9 (.bin o a b))] h (.str (cD (.bin o a b))):=by
  refine .bz Tryz.f182 95 ?_;have hst:=tT ho;have hsg:=QF hst.1 hst.2;have hsa2:=QG ho;have hse:=(uX ho).2;refine c59z ?_;refine c235z ?_;refine c148z ?_;refine .nil ?_;refine c17z ?_;refine c97z ?_;refine c236z ?_;refine c149z ?_;refine .nil ?_;refine .T ?_;refine c1z ?_;refine c228z ?_;refine .spl 32 rfl rfl (fun e1=>by exfalso;first | omega | (replace e1:=s11z e1;omega) | (simp at e1;omega) | (simp at e1;done)) (fun e1=>?_);try simp only[e1]
  have qe1:=fact e1;refine c153z ?_;refine .spl 39 rfl rfl (fun e2=>by exfalso;first | omega | (replace e2:=s11z e2;omega) | (simp at e2;omega) | (simp at e2;done)) (fun e2=>?_);try simp only[e2]
  have qe2:=fact e2;refine .F ?_;refine c74z ?_;refine .spl 45 rfl rfl (fun e3=>by exfalso;first | omega | (replace e3:=s11z e3;omega) | (simp at e3;omega) | (simp at e3;done)) (fun e3=>?_);try simp only[e3]
  have qe3:=fact e3;refine c153z ?_;refine .spl 53 rfl rfl (fun e4=>by exfalso;first | omega | (replace e4:=s11z e4;omega) | (simp at e4;omega) | (simp at e4;done)) (fun e4=>?_);try simp only[e4]
  have qe4:=fact e4;refine c34z ?_;refine c200z ?_;refine .n ?_;refine c5z ?_;refine .bX (fun m st=>∃(i:Nat),(m=(sgO (gT o)).length-i∧((∀d,d<i→(sgO (gT o)).getD d 0≠o)∧i≤(sgO (gT o)).length))∧st=⟨mkS 95 [(1,AV.ptr h.length 0 0),(3,AV.own (h.length+2) 1 0 2),(6,AV.vec (sgS (gT o)).length (aH (sgS (gT o)))),(7,AV.vec (sgO (gT o)).length (g5 (sgO (gT o)))),(8,AV.int .i64 ((i:Nat):Int))],h++[⟨0,false,49,4,[.int .i64 o,.int .i64 0,.str ByteArray.empty,.vec 2 (s9 a++s9 b)],0⟩,⟨0,false,9,1,[.str (cD a)],0⟩,⟨1,false,9,1,[.str (cD a),.str (⟨#[40]⟩++cD b++⟨#[41]⟩)],0⟩,⟨0,false,9,1,[.str (⟨#[40]⟩++cD b++⟨#[41]⟩)],0⟩]⟩) _ (.v ⟨0,⟨rfl,⟨t105,by omega⟩⟩,rfl⟩) ?_;rintro m sl h' ⟨i,⟨hm,⟨hI,hi⟩⟩,hst⟩;obtain ⟨rfl,rfl⟩:=St.mk.inj hst;refine c0z ?_;refine u2z ?_ ?_
  ·intro e5 qe5;refine c2z ?_;refine c133z ?_;refine u2z ?_ ?_
   ·intro e6 qe6;refine .c6 [3,6,8] ?_;have hsi:=hsa2 i (by omega) (by assumption);have hss:((sgS (gT o)).getD i ByteArray.empty).size≤2:=by rw[hsi];exact hse
    refine c75z ?_;exact .ret (.ex (hq:=t148))
   intro e6 qe6;refine c218z ?_;refine .rz ?_;exact ⟨_,by omega,.v ⟨(i+1),⟨rfl,⟨Z4 hI (by assumption),by omega⟩⟩,rfl⟩⟩
  intro e5 qe5;refine .exit ?_;exfalso;exact QH ho (fun d hd=>hI d (by omega))
theorem HX (o:Int)(a b:Ex)(ho:5≤o∧o≤17)(hga:1≤a.op∧a.op≤17)(hgb:1≤b.op∧b.op≤17)(hp:lV (.bin o a b) 0=false)(hq:lV (.bin o a b) 1=false)(iha:∀(h:c5),CB 182 [.agg (s9 a)] h (.str (cD a)))(hsa:(cD a).size<1000000)(ihb:∀(h:c5),CB 182 [.agg (s9 b)] h (.str (cD b)))(hsb:(cD b).size<1000000):CB 182 [.agg (s9 (.bin o a b))] h (.str (cD (.bin o a b))):=by
  refine .bz Tryz.f182 95 ?_;have hst:=tT ho;have hsg:=QF hst.1 hst.2;have hsa2:=QG ho;have hse:=(uX ho).2;refine c59z ?_;refine c235z ?_;refine c148z ?_;refine .nil ?_;refine c17z ?_;refine c97z ?_;refine c236z ?_;refine c149z ?_;refine .nil ?_;refine c17z ?_;refine c228z ?_;refine .spl 32 rfl rfl (fun e1=>by exfalso;first | omega | (replace e1:=s11z e1;omega) | (simp at e1;omega) | (simp at e1;done)) (fun e1=>?_);try simp only[e1]
  have qe1:=fact e1;refine c153z ?_;refine .spl 39 rfl rfl (fun e2=>by exfalso;first | omega | (replace e2:=s11z e2;omega) | (simp at e2;omega) | (simp at e2;done)) (fun e2=>?_);try simp only[e2]
  have qe2:=fact e2;refine .F ?_;refine c74z ?_;refine .spl 45 rfl rfl (fun e3=>by exfalso;first | omega | (replace e3:=s11z e3;omega) | (simp at e3;omega) | (simp at e3;done)) (fun e3=>?_);try simp only[e3]
  have qe3:=fact e3;refine c153z ?_;refine .spl 53 rfl rfl (fun e4=>by exfalso;first | omega | (replace e4:=s11z e4;omega) | (simp at e4;omega) | (simp at e4;done)) (fun e4=>?_);try simp only[e4]
  have qe4:=fact e4;refine c34z ?_;refine c200z ?_;refine .n ?_;refine c5z ?_;refine .bX (fun m st=>∃(i:Nat),(m=(sgO (gT o)).length-i∧((∀d,d<i→(sgO (gT o)).getD d 0≠o)∧i≤(sgO (gT o)).length))∧st=⟨mkS 95 [(1,AV.ptr h.length 0 0),(3,AV.own (h.length+2) 1 0 2),(6,AV.vec (sgS (gT o)).length (aH (sgS (gT o)))),(7,AV.vec (sgO (gT o)).length (g5 (sgO (gT o)))),(8,AV.int .i64 ((i:Nat):Int))],h++[⟨0,false,49,4,[.int .i64 o,.int .i64 0,.str ByteArray.empty,.vec 2 (s9 a++s9 b)],0⟩,⟨0,false,9,1,[.str (cD a)],0⟩,⟨1,false,9,1,[.str (cD a),.str (cD b)],0⟩,⟨0,false,9,1,[.str (cD b)],0⟩]⟩) _ (.v ⟨0,⟨rfl,⟨t105,by omega⟩⟩,rfl⟩) ?_;rintro m sl h' ⟨i,⟨hm,⟨hI,hi⟩⟩,hst⟩;obtain ⟨rfl,rfl⟩:=St.mk.inj hst;refine c0z ?_;refine u2z ?_ ?_
  ·intro e5 qe5;refine c2z ?_;refine c133z ?_;refine u2z ?_ ?_
   ·intro e6 qe6;refine .c6 [3,6,8] ?_;have hsi:=hsa2 i (by omega) (by assumption);have hss:((sgS (gT o)).getD i ByteArray.empty).size≤2:=by rw[hsi];exact hse
    refine c75z ?_;exact .ret (.ex (hq:=t148))
   intro e6 qe6;refine c218z ?_;refine .rz ?_;exact ⟨_,by omega,.v ⟨(i+1),⟨rfl,⟨Z4 hI (by assumption),by omega⟩⟩,rfl⟩⟩
  intro e5 qe5;refine .exit ?_;exfalso;exact QH ho (fun d hd=>hI d (by omega))
theorem c_textB (o:Int)(a b:Ex)(ho:5≤o∧o≤17)(hga:1≤a.op∧a.op≤17)(hgb:1≤b.op∧b.op≤17)(iha:∀(h:c5),CB 182 [.agg (s9 a)] h (.str (cD a)))(hsa:(cD a).size<1000000)(ihb:∀(h:c5),CB 182 [.agg (s9 b)] h (.str (cD b)))(hsb:(cD b).size<1000000):CB 182 [.agg (s9 (.bin o a b))] h (.str (cD (.bin o a b))):=by
  cases hp:lV (.bin o a b) 0<;>cases hq:lV (.bin o a b) 1
  · exact HX o a b ho hga hgb hp hq iha hsa ihb hsb
  · exact HW o a b ho hga hgb hp hq iha hsa ihb hsb
  · exact HV o a b ho hga hgb hp hq iha hsa ihb hsb
  · exact HU o a b ho hga hgb hp hq iha hsa ihb hsb
theorem Q6:∀{d:Nat},d≤3→D6 d<1000000
  | 0,_=>by decide
  | 1,_=>by decide
  | 2,_=>by decide
  | 3,_=>by decide
theorem vL {vars:List BA}(hv:Names vars):∀{d:Nat} {e:Ex},d≤3→GE vars d e→∀(h:c5),CB 182 [.agg (s9 e)] h (.str (cD e))
  | d,.leaf o n s,hd,hg,h=>by
    rcases jX.1 hg with ⟨rfl,h1,h2,rfl⟩ | ⟨rfl,rfl,h1⟩
    · exact c_text1 n h1 h2
    · exact c_text2 0 s
  | 0,.un o a,hd,hg,h=>hg.elim
  | 0,.bin o a b,hd,hg,h=>hg.elim
  | d+1,.un o a,hd,hg,h=>c_textU o a hg.1 (GE.op hg.2) (vL hv (by omega) hg.2) (Nat.lt_of_le_of_lt (cH hv hg.2).2 (Q6 (by omega)))
  | d+1,.bin o a b,hd,hg,h=>c_textB o a b hg.1 (GE.op hg.2.1) (GE.op hg.2.2) (vL hv (by omega) hg.2.1) (Nat.lt_of_le_of_lt (cH hv hg.2.1).2 (Q6 (by omega))) (vL hv (by omega) hg.2.2) (Nat.lt_of_le_of_lt (cH hv hg.2.2).2 (Q6 (by omega)))
theorem HY {e:Ex}:n4 [e]=s9 e:=by simp[n4]
theorem HZ (x:BA):CB 184 [.agg [.str x,.vec 0 []]] h (.str x):=by refine .bz Tryz.f184 19 ?_;refine c69z ?_;refine .T ?_;refine .z ?_;exact .ret (.ex (hq:=by rfl))
variable {vars:List BA}
theorem c_refT1 (hv:Names vars)(x:BA)(e:Ex)(hg:GE vars 1 e)(hx:x.size≤16):CB 184 [.agg [.str x,.vec 1 (s9 e)]] h (.str (x++MW++cD e++MX)):=by refine .bz Tryz.f184 19 ?_;have hse:=(cH hv hg).2;have hb:D6 1=48:=rfl;refine c69z ?_;refine c17z ?_;refine .ss v9 (mkP 11 [0,1,3,0,8,24,56,120,255,511,1023] []) ?_;refine .k 7 [] ?_;refine .ca rfl rfl (vL hv (by omega) hg _) ?_;refine .n [] ?_;exact .ret (.ex (hq:=by rfl))
variable {E:Env}
theorem Z5 (hE:tH E)(hv:Names vars){r:Rf}(g:GR E vars r):CB 184 [.agg (X7 r)] h (.str (MY r)):=by
  obtain ⟨x,idx⟩:=r;rcases g with ⟨m,hm,hn,⟨_,e,hi,he⟩ | ⟨_,hi⟩⟩ | ⟨p,hp,_,hn,hi⟩
  · have hx:=z9 (hE.mn m hm)
    simp only at hn hi;rw[←hn]at hx;subst hi;have:=c_refT1 (h:=h) hv x e he hx;simp only[X7,List.length_singleton,HY];exact this
  · simp only at hi
    subst hi;exact HZ x
  · simp only at hi
    subst hi;exact HZ x
variable {xs:List Ar}
theorem QI (h:(xs.getD i dP).mu=true)(h0:0<i):eU xs (i+1)=eU xs i++lW++bO++MY (xs.getD i dP).r:=by rw[eU,if_pos h,if_pos h0]
theorem QJ (h:(xs.getD i dP).mu=true)(h0:¬0<i):eU xs (i+1)=eU xs i++bO++MY (xs.getD i dP).r:=by rw[eU,if_pos h,if_neg h0]
theorem QK (h:(xs.getD i dP).mu=false)(h0:0<i):eU xs (i+1)=eU xs i++lW++cD (xs.getD i dP).e:=by rw[eU,if_neg t202,if_pos h0]
theorem QL (h:(xs.getD i dP).mu=false)(h0:¬0<i):eU xs (i+1)=eU xs i++cD (xs.getD i dP).e:=by rw[eU,if_neg t202,if_neg h0]
theorem vM {a:Ar}:ED a=[.bool a.mu,.str a.r.name,.vec a.r.idx.length (n4 a.r.idx),.int .i64 a.e.op,.int .i64 a.e.num,.str a.e.name,.vec a.e.args.length (n4 a.e.args)]:=by rw[ED,bN]
variable {l:List Ar}
theorem QM (h:i<l.length):List.take 1 (List.drop (i*7) (bE l))=[AV.bool (l.getD i dP).mu]:=by have:=congrArg (fun x=>x.take 1) (uU h);simp only[List.take_take,vM]at this;simpa using this
theorem read_ar (h:i<l.length):List.take 2 (List.drop (i*7+1) (bE l))=X7 (l.getD i dP).r:=by have:=congrArg (fun x=>(x.drop 1).take 2) (uU h);simp only[vM,List.drop_take,List.take_take,List.drop_drop]at this;simpa [X7] using this
theorem read_ae (h:i<l.length):List.take 4 (List.drop (i*7+3) (bE l))=s9 (l.getD i dP).e:=by have:=congrArg (fun x=>(x.drop 3).take 4) (uU h);simp only[vM,List.drop_take,List.take_take,List.drop_drop]at this;rw[bN];simpa using this
theorem DH (hE:tH E)(hv:Names vars)(h:∀a∈xs,(a.mu=true∧GR E vars a.r)∨(a.mu=false∧GE vars 2 a.e))(i:Nat)(hi:i≤xs.length):(eU xs i).size≤1+112*i:=(zU hE hv h i hi).2.1
theorem VW (h:∀a∈xs,(a.mu=true∧GR E vars a.r)∨(a.mu=false∧GE vars 2 a.e))(hi:i<xs.length):((xs.getD i dP).mu=true→GR E vars (xs.getD i dP).r)∧((xs.getD i dP).mu=false→GE vars 2 (xs.getD i dP).e):=by
  have hm:=h _ (g8 (d:=dP) hi);rcases hm with ⟨h1,h2⟩ | ⟨h1,h2⟩
  · exact ⟨fun _=>h2,fun h=>absurd (h1.symm.trans h) (by decide)⟩
  · exact ⟨fun h=>absurd (h1.symm.trans h) (by decide),fun _=>h2⟩
section
attribute [local go_sem] QM read_ar read_ae
theorem IA (hE:tH E)(hv:Names vars)(xs:List Ar)(ha:∀a∈xs,(a.mu=true∧GR E vars a.r)∨(a.mu=false∧GE vars 2 a.e))(hl:xs.length≤100):CB 183 [.vec xs.length (bE xs)] h (.str (VG xs)):=by
  refine .bz Tryz.f183 39 ?_;refine c59z ?_;refine .bX (fun m st=>∃(i:Nat),(m=xs.length-i∧i≤xs.length)∧st=⟨mkS 39 [(0,AV.vec xs.length (bE xs)),(3,AV.str (eU xs i)),(4,AV.int .i64 ((i:Nat):Int))],h⟩) _ (.v ⟨0,⟨rfl,by omega⟩,rfl⟩ (hs:=t28)) ?_;rintro m sl h' ⟨i,⟨hm,hi⟩,hst⟩;obtain ⟨rfl,rfl⟩:=St.mk.inj hst;have hsz:=DH hE hv ha i hi;refine c0z ?_;refine u2z ?_ ?_
  ·intro e1 qe1;refine c2z ?_;refine c0z ?_;refine u2z ?_ ?_
   ·intro e2 qe2;refine c1z ?_;refine .c6 [0,3,4] ?_;have har:=VW ha (i:=i) (by omega);refine .z ?_;refine u2z ?_ ?_
    ·intro e3 qe3;have hrs:=((har.1 (by assumption)).pw hE hv).2;refine .r ?_;refine .e 7 ?_;refine .ca rfl rfl (Z5 hE hv (har.1 (by assumption))) ?_;refine c243z ?_;refine .rz ?_;exact ⟨_,by omega,.v ⟨(i+1),⟨rfl,by omega⟩,rfl⟩ (hs:=t28)⟩
    intro e3 qe3;have hes:=(cH hv (har.2 (by assumption))).2;have hb:D6 2=104:=rfl;refine .r ?_;refine .e 6 ?_;refine .ca rfl rfl (vL hv (by omega) (har.2 (by assumption)) _) ?_;refine c243z ?_;refine .rz ?_;exact ⟨_,by omega,.v ⟨(i+1),⟨rfl,by omega⟩,rfl⟩ (hs:=t28)⟩
   intro e2 qe2;refine .sk ?_;have har:=VW ha (i:=i) (by omega);refine .z ?_;refine u2z ?_ ?_
   ·intro e4 qe4;refine .c6 [0,3,4] ?_;have hrs:=((har.1 (by assumption)).pw hE hv).2;refine .r ?_;refine .e 7 ?_;refine .ca rfl rfl (Z5 hE hv (har.1 (by assumption))) ?_;refine c243z ?_;refine .rz ?_;exact ⟨_,by omega,.v ⟨(i+1),⟨rfl,by omega⟩,rfl⟩ (hs:=t28)⟩
   intro e4 qe4;refine .c6 [0,3,4] ?_;have hes:=(cH hv (har.2 (by assumption))).2;have hb:D6 2=104:=rfl;refine .r ?_;refine .e 6 ?_;refine .ca rfl rfl (vL hv (by omega) (har.2 (by assumption)) _) ?_;refine c243z ?_;refine .rz ?_;exact ⟨_,by omega,.v ⟨(i+1),⟨rfl,by omega⟩,rfl⟩ (hs:=t28)⟩
  intro e1 qe1;refine .exit ?_;obtain rfl:i=xs.length:=by omega
  change c8 ..;refine c29z ?_;exact ⟨[],_,(List.append_nil _).symm,t40,by rfl⟩
end
section
attribute [local go_sem] l4
theorem c_noE:CB 160 [.agg (s9 l4)] h (.bool true):=by refine .bz Tryz.f160 22 ?_;refine c67z ?_;refine .k 8 [(3,6)] ?_;refine .k 8 [(8,11),(13,16)] ?_;refine .m [(13,16)] ?_;exact .ret (.ex (hq:=by rfl))
end
theorem c_noR:CB 162 [.agg (X7 l9)] h (.bool true):=by show CallA _ _ _ [.agg [.str ByteArray.empty,.vec 0 []]] _ _;refine .bz Tryz.f162 12 ?_;refine c67z ?_;refine .k 8 [(3,6)] ?_;refine .n ?_;exact .ret (.ex (hq:=by rfl))
theorem VX (x:BA)(hx:isName (L8 x))(hr:tQ x=false):CB 161 [.agg [.str x,.vec 0 []]] h (.bool true):=by refine .bz Tryz.f161 25 ?_;refine c181z ?_;refine .ca rfl rfl (mL _ hx hr) ?_;refine .k 8 [(3,6),(8,11)] ?_;refine .k 8 [(8,11),(13,16)] ?_;refine .m [(3,6),(8,11)] ?_;exact .ret (.ex (hq:=by rfl))
theorem c_okR1 (hv:aE vars)(x:BA)(hx:isName (L8 x))(hr:tQ x=false)(e:Ex)(hg:GE vars 1 e):CB 161 [.agg [.str x,.vec 1 (s9 e)]] h (.bool true):=by refine .bz Tryz.f161 25 ?_;refine c181z ?_;refine .ca rfl rfl (mL _ hx hr) ?_;refine .k 8 [(3,6),(8,11)] ?_;refine .k 7 [(8,11),(13,16)] ?_;refine .ca rfl rfl (Z3 hv (by omega) e hg) ?_;refine .m [(3,6),(8,11)] ?_;exact .ret (.ex (hq:=by rfl))
structure GRes (E:Env):Prop where
  mn:∀m∈E.mutexes,tQ m.name=false
  pn:∀p∈E.params,tQ p.name=false
theorem QN (hE:tH E)(hR:GRes E)(hv:aE vars){r:Rf}(g:GR E vars r):CB 161 [.agg (X7 r)] h (.bool true):=by
  obtain ⟨x,idx⟩:=r;rcases g with ⟨m,hm,hn,⟨_,e,hi,he⟩ | ⟨_,hi⟩⟩ | ⟨p,hp,_,hn,hi⟩
  · have h1:=hE.mn m hm
    have h2:=hR.mn m hm;simp only at hn hi;rw[←hn]at h1 h2;subst hi;have:=c_okR1 (h:=h) hv x h1 h2 e he;simp only[X7,List.length_singleton,HY];exact this
  · have h1:=hE.mn m hm
    have h2:=hR.mn m hm;simp only at hn hi;rw[←hn]at h1 h2;subst hi;exact VX x h1 h2
  · have h1:=hE.pn p hp
    have h2:=hR.pn p hp;simp only at hn hi;rw[←hn]at h1 h2;subst hi;exact VX x h1 h2
end Go.Proofs.YtonbocmibeikmaaGreat
end
section
namespace Go.Un
open Go.Ab
theorem dC:∀s:Sl,s.len≤s.wt
 | .nil=>Nat.le_refl _
 | .cons k n e r as1 th el rest=>by have:=dC rest;simp only[Sl.len,Sl.wt];omega
section
variable {c:Core}{ps:List Pm}{blk:List BA→Int→Int→Int→Int→BR}{vs:List BA}{deep J l:Int}
theorem r_lock (h:(c4 c.L J 14).1<4):q9 c ps blk vs deep J l=(row 5 ByteArray.empty l4 (u4 c ps vs (c4 c.L J 14).2).1 [] .nil .nil,vs,(u4 c ps vs (c4 c.L J 14).2).2,l):=by unfold q9 jK;rw[if_pos h]
theorem QO (h0:¬(c4 c.L J 14).1<4)(h:(c4 c.L J 14).1<7):q9 c ps blk vs deep J l=(row 6 ByteArray.empty l4 (u4 c ps vs (c4 c.L J 14).2).1 [] .nil .nil,vs,(u4 c ps vs (c4 c.L J 14).2).2,l):=by unfold q9 jK;rw[if_neg h0,if_pos h]
theorem r_var (h:(c4 c.L J 14).1=7):q9 c ps blk vs deep J l=(row 1 (vnm l.toNat) (g9 c vs (c4 c.L J 14).2).1 l9 [] .nil .nil,vs++[vnm l.toNat],(g9 c vs (c4 c.L J 14).2).2,l):=by unfold q9 jK;rw[if_neg (by omega),if_neg (by omega),if_pos h]
theorem QP (h:(c4 c.L J 14).1=8)(h2:0<vs.length):q9 c ps blk vs deep J l=(row 2 (vs.getD (c4 c.L (c4 c.L J 14).2 vs.length).1.toNat ByteArray.empty) (g9 c vs (c4 c.L (c4 c.L J 14).2 vs.length).2).1 l9 [] .nil .nil,vs,(g9 c vs (c4 c.L (c4 c.L J 14).2 vs.length).2).2,l):=by unfold q9 jK;rw[if_neg (by omega),if_neg (by omega),if_neg (by omega),if_pos ⟨h,h2⟩]
theorem r_call (h:(c4 c.L J 14).1=9):q9 c ps blk vs deep J l=(row 3 (c.fs.getD (c4 c.L (c4 c.L J 14).2 c.fs.length).1.toNat j5).name l4 l9 (aB c ps vs (c.fs.getD (c4 c.L (c4 c.L J 14).2 c.fs.length).1.toNat j5).params (c4 c.L (c4 c.L J 14).2 c.fs.length).2).1 .nil .nil,vs,
   (aB c ps vs (c.fs.getD (c4 c.L (c4 c.L J 14).2 c.fs.length).1.toNat j5).params (c4 c.L (c4 c.L J 14).2 c.fs.length).2).2,l):=by
 unfold q9 jK;rw[if_neg (by omega),if_neg (by omega),if_neg (by omega),if_neg (by omega),if_pos (.inl h),if_neg (by omega)]
theorem r_go (h:(c4 c.L J 14).1=10):q9 c ps blk vs deep J l=(row 4 (c.fs.getD (c4 c.L (c4 c.L J 14).2 c.fs.length).1.toNat j5).name l4 l9 (aB c ps vs (c.fs.getD (c4 c.L (c4 c.L J 14).2 c.fs.length).1.toNat j5).params (c4 c.L (c4 c.L J 14).2 c.fs.length).2).1 .nil .nil,vs,
   (aB c ps vs (c.fs.getD (c4 c.L (c4 c.L J 14).2 c.fs.length).1.toNat j5).params (c4 c.L (c4 c.L J 14).2 c.fs.length).2).2,l):=by
 unfold q9 jK;rw[if_neg (by omega),if_neg (by omega),if_neg (by omega),if_neg (by omega),if_pos (.inr h),if_pos h]
variable {b:BR}
theorem r_if (h:(c4 c.L J 14).1=11)(h2:0<deep){d:BR}(hb:blk vs (deep-1) 3 (g9 c vs (c4 c.L J 14).2).2 l=b)(h3:(c4 c.L b.2.1 2).1=1)(hd:blk vs (deep-1) 3 (c4 c.L b.2.1 2).2 b.2.2=d):q9 c ps blk vs deep J l=(row 7 ByteArray.empty (g9 c vs (c4 c.L J 14).2).1 l9 [] b.1 d.1,vs,d.2.1,d.2.2):=by unfold q9 jK;rw[if_neg (by omega),if_neg (by omega),if_neg (by omega),if_neg (by omega),if_neg (by omega),if_pos ⟨h,h2⟩,hb];unfold ifK;rw[if_pos h3,hd]
theorem r_if2 (h:(c4 c.L J 14).1=11)(h2:0<deep)(hb:blk vs (deep-1) 3 (g9 c vs (c4 c.L J 14).2).2 l=b)(h3:¬(c4 c.L b.2.1 2).1=1):q9 c ps blk vs deep J l=(row 7 ByteArray.empty (g9 c vs (c4 c.L J 14).2).1 l9 [] b.1 .nil,vs,(c4 c.L b.2.1 2).2,b.2.2):=by unfold q9 jK;rw[if_neg (by omega),if_neg (by omega),if_neg (by omega),if_neg (by omega),if_neg (by omega),if_pos ⟨h,h2⟩,hb];unfold ifK;rw[if_neg h3]
theorem r_while (h:(c4 c.L J 14).1=12)(h2:0<deep)(hb:blk vs (deep-1) 3 (g9 c vs (c4 c.L J 14).2).2 l=b):q9 c ps blk vs deep J l=(row 8 ByteArray.empty (g9 c vs (c4 c.L J 14).2).1 l9 [] b.1 .nil,vs,b.2.1,b.2.2):=by unfold q9 jK;rw[if_neg (by omega),if_neg (by omega),if_neg (by omega),if_neg (by omega),if_neg (by omega),if_neg (by omega),if_pos ⟨h,h2⟩,hb]
theorem r_ret (h:(c4 c.L J 14).1=13)(h2:(c4 c.L (c4 c.L J 14).2 3).1=1):q9 c ps blk vs deep J l=(row 9 ByteArray.empty l4 l9 [] .nil .nil,vs,(c4 c.L (c4 c.L J 14).2 3).2,l):=by unfold q9 jK;rw[if_neg (by omega),if_neg (by omega),if_neg (by omega),if_neg (by omega),if_neg (by omega),if_neg (by omega),if_neg (by omega),if_pos ⟨h,h2⟩]
theorem QQ (h:(c4 c.L J 14).1=13)(h2:¬(c4 c.L (c4 c.L J 14).2 3).1=1)(hb:blk vs 0 2 (u4 c ps vs (c4 c.L (c4 c.L J 14).2 3).2).2 l=b):q9 c ps blk vs deep J l=prK vs (u4 c ps vs (c4 c.L (c4 c.L J 14).2 3).2).1 b:=by unfold q9 jK;rw[if_neg (by omega),if_neg (by omega),if_neg (by omega),if_neg (by omega),if_neg (by omega),if_neg (by omega),if_neg (by omega),if_neg (by omega),if_pos h,hb]
theorem IB (h7:7<(c4 c.L J 14).1)(h13:¬(c4 c.L J 14).1=13)(h8:(c4 c.L J 14).1=8→vs.length=0)(h9:¬(c4 c.L J 14).1=9)(h10:¬(c4 c.L J 14).1=10)(h11:(c4 c.L J 14).1=11→deep≤0)(h12:(c4 c.L J 14).1=12→deep≤0)(hb:blk vs 0 2 (u4 c ps vs (c4 c.L J 14).2).2 l=b):q9 c ps blk vs deep J l=prK vs (u4 c ps vs (c4 c.L J 14).2).1 b:=by unfold q9 jK;rw[if_neg (by omega),if_neg (by omega),if_neg (by omega),if_neg (by omega),if_neg (by omega),if_neg (by omega),if_neg (by omega),if_neg (by omega),if_neg h13,hb]
end
variable {out:Sl}
theorem cS {c:Core}{ps:List Pm}{blk:List BA→Int→Int→Int→Int→BR}{n:Nat}{vs vs':List BA}{deep J l J' l':Int}{S:Sl}{R:BR}(h:gX c ps blk (n+1) vs deep out J l=R)(hl:0<l)(hr:q9 c ps blk vs deep J (l-1)=(S,vs',J',l')):gX c ps blk n vs' deep (out.app S) J' l'=R:=by rw[gX,if_neg (by omega),hr]at h;exact h
theorem Z6 {c:Core}{ps:List Pm}{blk:List BA→Int→Int→Int→Int→BR}{n:Nat}{vs:List BA}{deep J l:Int}{R:BR}(h:gX c ps blk n vs deep out J l=R)(hl:n=0∨l≤0):R=(out,J,l):=by
 rw[←h];cases n with
 | zero=>rfl
 | succ n=>rw[gX,if_pos (by omega)]
theorem bI {c:Core}(hc:OkC c){ps:List Pm}{fu:Nat}(hfu:fu≤23){all vs vs':List BA}{left0 deep J l J' l':Int}{out S:Sl}(h0:left0≤fu+1)(hd:0≤deep)(ho:OkB (DB c ps) c.L all left0 (deep.toNat+1) (out,J,l))(hv:∀x∈vs,x∈aA out all)(hl:0<l)
  (hr:q9 c ps (g0 c ps fu) vs deep J (l-1)=(S,vs',J',l')):OkB (DB c ps) c.L all left0 (deep.toNat+1) (out.app S,J',l')∧l'≤l-1∧∀x∈vs',x∈aA (out.app S) all:=by
 have hl2:=ho.ol;have hw:=ho.wt;have hdp:=ho.dep;simp only at hl2 hw hdp;obtain ⟨r1,r2,r3⟩:=Y6 hc (ps:=ps) (blk:=g0 c ps fu) (vars:=vs) (all:=aA out all) (deep:=deep) (I:=J) (left:=l-1) ho.oi ⟨by omega,by omega⟩ hd hv (ho.fr.mono t89) fun d most I all' l' a1 a2 a3 a4 a5 a6 a7=>iG hc fu vs d most I all' l' a1 a2 a3 a4 (by omega) (by omega) a6 a7;rw[hr]at r1 r2 r3;have q1:=r1.ol;have q2:=r1.wt;have q3:=r1.dep;simp only at q1 q2 q3 r2 r3;refine ⟨⟨r1.oi,⟨q1.1,t89⟩,GS.app.2 ⟨ho.gs,r1.gs⟩,?_,?_,?_⟩,r2,?_⟩
 ·simp only[fZ];exact r1.fr
 ·simp only[Sl.H8];omega
 ·simp only[zX];omega
 ·rw[fZ];exact r3
def Er (l:List Mx):Prop:=∀j,j<l.length→(l.getD j v8).name=mnm j∧0≤(l.getD j v8).size∧(l.getD j v8).size≤3∧((l.getD j v8).re=true→(l.getD j v8).size=0)
def Et (l:List Gl):Prop:=∀j,j<l.length→(l.getD j lR).name=gnm j ∧ -10≤(l.getD j lR).init∧(l.getD j lR).init≤10
def QR (N n:Nat)(l:List Pm):Prop:=(n=N∧l=[])∨(N=1∧n=0∧l.map (·.name)=[pnm 1])∨(N=2∧n=1∧l.map (·.name)=[pnm 2])∨(N=2∧n=0∧l.map (·.name)=[pnm 2,pnm 1])
def QS (l:List Fu):Prop:=∀j,j<l.length→(l.getD j j5).name=fnm j∧(j=0→(l.getD j j5).params=[])∧
  ((l.getD j j5).params.map (·.name)=[]∨(l.getD j j5).params.map (·.name)=[pnm 1]∨(l.getD j j5).params.map (·.name)=[pnm 2,pnm 1])
variable {j:Nat}
theorem vN {α:Type}{l:List α}{x d:α}(h:j<(l++[x]).length):(j<l.length∧(l++[x]).getD j d=l.getD j d)∨(j=l.length∧(l++[x]).getD j d=x):=by
 simp at h;by_cases hj:j<l.length
 ·exact .inl ⟨hj,by simp[List.getD,List.getElem?_append_left hj]⟩
 ·obtain rfl:j=l.length:=by omega
  exact .inr ⟨rfl,by simp[List.getD]⟩
theorem Er.snoc {l:List Mx}(h:Er l){m:Mx}(h1:m.name=mnm l.length)(h2:0≤m.size∧m.size≤3)(h3:m.re=true→m.size=0):Er (l++[m]):=fun j hj=>by
 rcases vN (d:=v8) hj with ⟨q,e⟩ | ⟨rfl,e⟩
 ·rw[e];exact h j q
 ·rw[e];exact ⟨h1,h2.1,h2.2,h3⟩
theorem Et.snoc {l:List Gl}(h:Et l){m:Gl}(h1:m.name=gnm l.length)(h2:-10≤m.init∧m.init≤10):Et (l++[m]):=fun j hj=>by
 rcases vN (d:=lR) hj with ⟨q,e⟩ | ⟨rfl,e⟩
 ·rw[e];exact h j q
 ·rw[e];exact ⟨h1,h2⟩
theorem QS.snoc {l:List Fu}(h:QS l){f:Fu}(h1:f.name=fnm l.length)(h2:l.length=0→f.params=[])(h3:f.params.map (·.name)=[]∨f.params.map (·.name)=[pnm 1]∨f.params.map (·.name)=[pnm 2,pnm 1]):QS (l++[f]):=fun j hj=>by
 rcases vN (d:=j5) hj with ⟨q,e⟩ | ⟨rfl,e⟩
 ·rw[e];exact h j q
 ·rw[e];exact ⟨h1,h2,h3⟩
variable {N n:Nat}{l:List Pm}
theorem QR.step (h:QR N n l)(hn:0<n)(hN:N≤2){p:Pm}(hp:p.name=pnm n):QR N (n-1) (l++[p]):=by
 rcases h with ⟨rfl,rfl⟩ | ⟨_,h,_⟩ | ⟨rfl,rfl,h⟩ | ⟨_,h,_⟩
 ·have:n=1∨n=2:=by omega
  rcases this with rfl | rfl
  ·exact .inr (.inl ⟨rfl,rfl,by simp[hp]⟩)
  ·exact .inr (.inr (.inl ⟨rfl,rfl,by simp[hp]⟩))
 ·omega
 ·exact .inr (.inr (.inr ⟨rfl,rfl,by simp[h,hp]⟩))
 ·omega
theorem QR.fin (h:QR N n l)(hn:n=0∨l=[])(hN:N≤2):l.map (·.name)=[]∨l.map (·.name)=[pnm 1]∨l.map (·.name)=[pnm 2,pnm 1]:=by
 rcases h with ⟨rfl,rfl⟩ | ⟨_,_,h⟩ | ⟨_,h1,h⟩ | ⟨_,_,h⟩
 ·exact .inl rfl
 ·exact .inr (.inl h)
 ·rcases hn with hn | hn
  ·omega
  ·subst hn;exact .inl rfl
 ·exact .inr (.inr h)
theorem QR.len (h:QR N n l):l.length≤2:=by
 have:l.length=(l.map (·.name)).length:=by simp
 rcases h with ⟨rfl,rfl⟩ | ⟨_,_,h⟩ | ⟨_,_,h⟩ | ⟨_,_,h⟩
 ·simp
 all_goals rw[this,h];simp
def cU (l:List Pm):List BA:=(l.filter fun x=>! x.mu).map (·.name)
theorem K1 (h:j<l.length):cU (l.take (j+1))=cU (l.take j)++(if (l.getD j iE).mu then [] else [(l.getD j iE).name]):=by unfold cU;rw[List.take_add_one,List.filter_append,List.map_append];congr 1;simp only[List.getD_eq_getElem?_getD,List.getElem?_eq_getElem h,Option.toList_some,Option.getD_some,List.filter_cons,List.filter_nil];cases l[j].mu<;>rfl
def setBody (fs:List Fu)(i:Nat)(B:Sl):List Fu:=fs.set i { fs.getD i j5 with body:=B }
def nW (fs:List Fu):List (BA×List Pm):=fs.map fun f=>(f.name,f.params)
variable {fs:List Fu}{i:Nat}{B:Sl}
theorem lE:(setBody fs i B).length=fs.length:=by simp[setBody]
theorem lF (h:i<fs.length):(setBody fs i B).getD j j5=if j=i then { fs.getD i j5 with body:=B } else fs.getD j j5:=by
 unfold setBody;by_cases e:j=i
 ·subst e;simp[List.getD,h]
 ·rw[if_neg e];simp[List.getD,List.getElem?_set_ne (Ne.symm e)]
theorem qA (h:i<fs.length):nW (setBody fs i B)=nW fs:=by
 refine List.ext_getElem (by simp[nW,setBody]) fun j h1 h2=>?_;have hj:j<fs.length:=by simpa [nW] using h2
 have e:=lF (j:=j) (B:=B) h;have e1:(setBody fs i B).getD j j5=(setBody fs i B)[j]'(by rw[lE];exact hj):=by simp[List.getD,lE,hj]
 have e2:fs.getD j j5=fs[j]:=by simp[List.getD,hj]
 simp only[nW,List.getElem_map];rw[←e1,←e2,e];split
 ·rename_i q;subst q;rfl
 ·rfl
theorem QS.nW {l l':List Fu}(h:QS l)(e:nW l'=nW l):QS l':=fun j hj=>by
 have hl:l'.length=l.length:=by have:=congrArg List.length e;simpa [Un.nW] using this
 have e1:∀(m:List Fu),j<m.length→(Un.nW m).getD j (ByteArray.empty,[])=((m.getD j j5).name,(m.getD j j5).params):=fun m hm=>by simp[Un.nW,List.getD,hm]
 have h1:=e1 l' hj;have h2:=e1 l (by omega);rw[e,h2]at h1;injection h1 with h3 h4;have:=h j (by omega);rw[h3,h4]at this;exact this
structure Ml (gs:List Gl)(ms:List Mx)(fs:List Fu)(i:Nat)(left:Int):Prop where
 body:∀j,j<i→GS ⟨gs.map (·.name),ms,nW fs,(fs.getD j j5).params⟩ (fs.getD j j5).body (gs.map (·.name)++cU (fs.getD j j5).params)∧(fs.getD j j5).body.dep≤3
 wt:sR fs i≤2*(24-left).toNat
 ol:0≤left∧left≤24
theorem xU {l l':List Fu}:∀i,(∀j,j<i→(l.getD j j5).body=(l'.getD j j5).body)→sR l i=sR l' i
 | 0,_=>rfl
 | i+1,h=>by rw[sR,sR,xU i fun j hj=>h j (by omega),h i (by omega)]
theorem Ml.step {gs:List Gl}{ms:List Mx}{fs:List Fu}{i:Nat}{left left':Int}{L:List Int}{B:Sl}{I':Int}(h:Ml gs ms fs i left)(hi:i<fs.length)
  (hb:OkB ⟨gs.map (·.name),ms,nW fs,(fs.getD i j5).params⟩ L (gs.map (·.name)++cU (fs.getD i j5).params) left 3 (B,I',left')):Ml gs ms (setBody fs i B) (i+1) left':=by
 have hol:=hb.ol;have hwt:=hb.wt;have h1:=h.ol;have h2:=h.wt;simp only at hol hwt;refine ⟨fun j hj=>?_,?_,by omega⟩
 ·rw[qA hi,lF hi];by_cases e:j=i
  ·subst e;rw[if_pos rfl];exact ⟨hb.gs,hb.dep⟩
  ·rw[if_neg e];exact h.body j (by omega)
 ·have e1:sR (setBody fs i B) i=sR fs i:=xU i fun j hj=>by rw[lF hi,if_neg (by omega)]
  rw[sR,e1,lF hi,if_pos rfl];simp only;omega
variable {gs:List Gl}
theorem prog_ok {ms:List Mx}{left:Int}(hg:Et gs)(hgl:gs.length≤2)(hm:Er ms)(hml:1≤ms.length∧ms.length≤4)(hf:QS fs)(hfl:1≤fs.length∧fs.length≤4)(hb:Ml gs ms fs fs.length left):GP ⟨gs,ms,fs⟩:=by have hw:=hb.wt;have hl:=hb.ol;refine ⟨⟨hgl,hg,hml,hm,hfl,hf⟩,fun i hi=>?_,by show sR fs fs.length≤48;omega⟩;exact hb.body i hi
theorem DI {ps:List Pm}(hg:Et gs)(hgl:gs.length≤2)(hp:ps.map (·.name)=[]∨ps.map (·.name)=[pnm 1]∨ps.map (·.name)=[pnm 2,pnm 1]):Fr 24 (gs.map (·.name)++cU ps):=by
 intro j hj hm;refine I8 j hj ?_;rcases List.mem_append.1 hm with hm | hm
 ·obtain ⟨g,hg1,hg2⟩:=List.mem_map.1 hm;obtain ⟨k,hk,rfl⟩:=bV (d:=lR) hg1;rw[←hg2,(hg k hk).1];exact List.mem_append.2 (.inl (List.mem_map.2 ⟨k,List.mem_range.2 (by omega),rfl⟩))
 ·obtain ⟨p,hp1,hp2⟩:=List.mem_map.1 hm;have hp3:p.name∈ps.map (·.name):=List.mem_map.2 ⟨p,(List.mem_filter.1 hp1).1,rfl⟩;rw[hp2]at hp3;refine List.mem_append.2 (.inr (List.mem_append.2 (.inr (List.mem_append.2 (.inr ?_)))));rcases hp with e | e | e
  ·rw[e]at hp3;simp at hp3
  ·rw[e]at hp3;simp at hp3;rw[hp3];simp
  ·rw[e]at hp3;simpa using hp3
theorem okC_of {L:List Int}{ms:List Mx}{gF:Nat}{ar:Bool}(hm:Er ms)(hml:1≤ms.length∧ms.length≤4)(hf:QS fs)(hfl:1≤fs.length∧fs.length≤4):OkC ⟨L,gs,ms,fs,gF,ar⟩:=by
 refine ⟨hml,fun i hi=>⟨(hm i hi).2.1,(hm i hi).2.2.1⟩,hfl,fun f hff=>?_⟩;obtain ⟨k,hk,rfl⟩:=bV (d:=j5) hff;have h1:=(hf k hk).2.2;have h2:(fs.getD k j5).params.length=((fs.getD k j5).params.map (·.name)).length:=by simp
 rw[h2];rcases h1 with e | e | e<;>rw[e]<;>simp
end Go.Un
end
section
namespace Go.Proofs.YtonbocmibeikmaaGreat
open Go.Ab Go.Un
theorem vO {s:BA}:tQ s=VN.any fun x=>L8 x==L8 s:=by simp only[tQ,hasB,ByteArray.toList_eq];rfl
theorem IC:∀j,j<24→tQ (vnm j)=false:=by
  intro j hj;rw[vO];have key:∀j,j<24→(VN.any fun x=>L8 x==L8 (vnm j))=false:=by decide
  exact key j hj
theorem ID:∀j,j<2→tQ (gnm j)=false:=by
  intro j hj;rw[vO];have key:∀j,j<2→(VN.any fun x=>L8 x==L8 (gnm j))=false:=by decide
  exact key j hj
theorem IE:∀j,j<4→tQ (mnm j)=false:=by
  intro j hj;rw[vO];have key:∀j,j<4→(VN.any fun x=>L8 x==L8 (mnm j))=false:=by decide
  exact key j hj
theorem IF:∀j,j<4→tQ (fnm j)=false:=by
  intro j hj;rw[vO];have key:∀j,j<4→(VN.any fun x=>L8 x==L8 (fnm j))=false:=by decide
  exact key j hj
theorem Q7:∀j,j<3→tQ (pnm j)=false:=by
  intro j hj;rw[vO];have key:∀j,j<3→(VN.any fun x=>L8 x==L8 (pnm j))=false:=by decide
  exact key j hj
variable {pre th el rest:Sl}{k:Int}{n:BA}{e:Ex}{r:Rf}{xs:List Ar}
theorem A5:List.take 11 (List.drop (pre.len*11) (o5 (pre.app (.cons k n e r xs th el rest))))=[.int .i64 k,.str n,.int .i64 e.op,.int .i64 e.num,.str e.name,.vec e.args.length (n4 e.args),.str r.name,.vec r.idx.length (n4 r.idx),.vec xs.length (bE xs),.vec th.len (o5 th),.vec el.len (o5 el)]:=by rw[read_s rfl,rowS,bN];rfl
variable {h:c5}{vars:List BA}
theorem A6 (hv:aE vars)(hg:GE vars 2 e):CB 182 [.agg [.int .i64 e.op,.int .i64 e.num,.str e.name,.vec e.args.length (n4 e.args)]] h (.str (cD e)):=by rw[←bN];exact vL hv.n (by omega) hg h
theorem A7 (hv:aE vars)(hg:GE vars 2 e):CB 159 [.agg [.int .i64 e.op,.int .i64 e.num,.str e.name,.vec e.args.length (n4 e.args)]] h (.bool true):=by rw[←bN];exact Z3 hv (by omega) e hg
theorem aE.snoc (h:aE vars){j:Nat}(hj:j<24):aE (vars++[vnm j]):=by
  intro x hx;rcases List.mem_append.1 hx with hx | hx
  · exact h x hx
  · replace hx:=s9z hx
    subst hx;exact ⟨tI,IC j hj⟩
theorem Q8 {pre:Sl}{k:Int}{n:BA}{e:Ex}{r:Rf}{xs:List Ar}{th el rest:Sl}:(pre.app (.cons k n e r xs th el rest)).wt=pre.wt+(1+th.wt+el.wt+rest.wt):=by rw[Sl.H8,Sl.wt]
theorem z6 {pre:Sl}{k:Int}{n:BA}{e:Ex}{r:Rf}{xs:List Ar}{th el rest:Sl}:(pre.app (.cons k n e r xs th el rest)).len=pre.len+(rest.len+1):=by rw[Go.Un.Sl.bZ,Go.Un.Sl.len]
theorem fA {k:Int}{n:BA}{e:Ex}{r:Rf}{xs:List Ar}{th el rest:Sl}:(Sl.cons k n e r xs th el rest).dep=max (max th.dep el.dep+1) rest.dep:=rfl
theorem eG:pre.app (.cons k n e r xs th el rest)=(pre.app (.cons k n e r xs th el .nil)).app rest:=by rw[Sl.H7];rfl
theorem QT:(((pre.app (.cons k n e r xs th el .nil)).len:Nat):Int)=(pre.len:Int)+1:=by rw[Go.Un.Sl.bZ];simp[Go.Un.Sl.len]
theorem xV {tabs:BA}(h:Cl (L8 tabs) 0):Cl (L8 (tabs++gV)) 0:=aX h I7
attribute [local go_sem] nC aL n8 bD cM bF l6 Int.natCast_nonneg Int.natCast_inj List.length_map wrap64 DE mB A4 aK mM eq_mk mN A5 Nat.reduceMul
theorem QU {E:Env}(hE:tH E)(S:Sl)(ih:∀S':Sl,S'.wt<S.wt→∀(vars:List BA) (tabs:BA),aE vars→GS E S' vars→tabs.size+S'.dep≤10→Cl (L8 tabs) 0→∀h:c5,CB 164 [.vec S'.len (o5 S'),.str tabs] h (.str (lX S' tabs ByteArray.empty)))(vars:List BA)(tabs:BA)(hv0:aE vars)(hG0:GS E S vars)(hd:tabs.size+S.dep≤10)(ht:Cl (L8 tabs) 0)(hw:S.wt≤1000):CB 164 [.vec S.len (o5 S),.str tabs] h (.str (lX S tabs ByteArray.empty)):=by
  refine .bz Tryz.f164 133 ?_;have hlw:=dC S;have hTs:=(jW hE S vars tabs ByteArray.empty 0 hv0.n hG0 hd ht Cl.nil).2;have hse:ByteArray.empty.size=0:=rfl;refine c59z ?_;refine .u6 (fun m st=>∃(Z:Sl) (pre:Sl) (rst:Sl) (vs:List BA) (out:BA),(m=rst.len∧(Z=S∧S=pre.app rst∧GS E rst vs∧aE vs∧lX rst tabs out=lX S tabs ByteArray.empty∧tabs.size+rst.dep≤10))∧st=⟨mkS 133 [(0,AV.vec (Go.Un.Sl.len Z) (o5 Z)),(1,AV.str tabs),(5,AV.str out),(6,AV.int .i64 ((pre.len:Nat):Int))],h⟩) (.v ⟨S,Sl.nil,S,vars,ByteArray.empty,⟨rfl,⟨rfl,rfl,hG0,hv0,rfl,hd⟩⟩,rfl⟩ (hs:=t10)) ?_;rintro m sl h' ⟨Z,pre,rst,vs,out,⟨hm,⟨hZ,hS,hG,hv,hT,hdp⟩⟩,hst⟩;obtain ⟨rfl,rfl⟩:=St.mk.inj hst;clear hst;subst hZ;have hlen:=congrArg Go.Un.Sl.len hS;rw[Go.Un.Sl.bZ]at hlen;have hos:out.size≤400000:=by have:=GO rst tabs out;rw[hT]at this;omega
  refine c0z ?_;refine u2z ?_ ?_
  ·intro e1 qe1;refine c2z ?_;obtain ⟨k,n,e,r,xs,th,el,rest,rfl⟩:=Go.Un.Sl.oP (s:=rst) (by omega);subst hS;have hwc:=@Q8 pre k n e r xs th el rest;have hlc:=@z6 pre k n e r xs th el rest;have hdc:=@fA k n e r xs th el rest;rcases hG with ⟨rfl,⟨j,hj,rfl⟩,hn,he,rfl,rfl,rfl,rfl,hr⟩ | ⟨rfl,hn,he,rfl,rfl,rfl,rfl,hr⟩ | ⟨rfl | rfl,⟨f,hf,rfl,ha⟩,rfl,rfl,rfl,rfl,hr⟩ | ⟨rfl | rfl,rfl,rfl,hR,rfl,rfl,rfl,hr⟩ | ⟨rfl,rfl,he,rfl,rfl,hth,hel,hr⟩ | ⟨rfl,rfl,he,rfl,rfl,hth,rfl,hr⟩ | ⟨rfl,rfl,rfl,rfl,rfl,rfl,rfl,hr⟩
   ·have hes:=(cH hv.n he).2;have hb:D6 2=104:=rfl;have hns:=z9 (tI (j:=j));refine c183z ?_;refine c106z ?_;refine .so v9 (mkP 12 [0,1,0,4,15,31,0,64,192,511,1023,2047] []) ?_;refine .k 8 [] ?_;refine .ca rfl rfl (A6 hv he) ?_;refine .n [] ?_;change c8 ..;refine c121z ?_;have hT2:=hT;simp only[lX,show ((1:Int)=2)=False from by simp,show ((1:Int)=3)=False from by simp,show ((1:Int)=4)=False from by simp,show ((1:Int)=5)=False from by simp,show ((1:Int)=6)=False from by simp,show ((1:Int)=7)=False from by simp,show ((1:Int)=8)=False from by simp,if_true,if_false,true_or,or_true,or_false,false_or,or_self]at hT2;exact ⟨_,by omega,.v ⟨_,(pre.app (.cons 1 (vnm j) e l9 [] .nil .nil .nil)),rest,(vs++[vnm j]),_,⟨rfl,⟨rfl,eG,hr,(hv.snoc hj),hT2,by omega⟩⟩,rfl⟩ (he:=by rfl) (hs:=t10)⟩
   ·have hes:=(cH hv.n he).2;have hb:D6 2=104:=rfl;have hns:=z9 (hv _ hn).1;refine c183z ?_;refine c9z ?_;refine c106z ?_;refine .c6 [0,1,5,6,7] ?_;refine .so v9 (mkP 11 [0,0,2,7,15,0,32,96,255,511,1023] []) ?_;refine .k 7 [] ?_;refine .ca rfl rfl (A6 hv he) ?_;refine .n [] ?_;change c8 ..;refine c121z ?_;have hT2:=hT;simp only[lX,show ((2:Int)=1)=False from by simp,show ((2:Int)=3)=False from by simp,show ((2:Int)=4)=False from by simp,show ((2:Int)=5)=False from by simp,show ((2:Int)=6)=False from by simp,show ((2:Int)=7)=False from by simp,show ((2:Int)=8)=False from by simp,if_true,if_false,true_or,or_true,or_false,false_or,or_self]at hT2;exact ⟨_,by omega,.v ⟨_,(pre.app (.cons 2 n e l9 [] .nil .nil .nil)),rest,vs,_,⟨rfl,⟨rfl,eG,hr,hv,hT2,by omega⟩⟩,rfl⟩ (he:=by rfl) (hs:=t10)⟩
   ·have hns:=z9 (hE.fn f hf);have has:=(P7 hE hv.n ha (hE.fp f hf)).2.1;have hxl:=(kZ hE hv.n ha).1;have hfl:=hE.fp f hf;refine c193z ?_;refine .c6 [0,1,5,6,7,23] ?_;refine c106z ?_;refine .so v9 (mkP 10 [0,0,2,7,0,16,48,127,255,511] []) ?_;refine .k 6 [] ?_;refine .ca rfl rfl (IA hE hv.n xs (kZ hE hv.n ha).2 (by omega)) ?_;refine .n [] ?_;change c8 ..;refine c121z ?_;have hT2:=hT;simp only[lX,show ((3:Int)=1)=False from by simp,show ((3:Int)=2)=False from by simp,show ((3:Int)=4)=False from by simp,show ((3:Int)=5)=False from by simp,show ((3:Int)=6)=False from by simp,show ((3:Int)=7)=False from by simp,show ((3:Int)=8)=False from by simp,if_true,if_false,true_or,or_true,or_false,false_or,or_self]at hT2;exact ⟨_,by omega,.v ⟨_,(pre.app (.cons 3 f.1 l4 l9 xs .nil .nil .nil)),rest,vs,_,⟨rfl,⟨rfl,eG,hr,hv,hT2,by omega⟩⟩,rfl⟩ (he:=by rfl) (hs:=t10)⟩
   ·have hns:=z9 (hE.fn f hf);have has:=(P7 hE hv.n ha (hE.fp f hf)).2.1;have hxl:=(kZ hE hv.n ha).1;have hfl:=hE.fp f hf;refine c237z ?_;refine c106z ?_;refine .so v9 (mkP 11 [0,1,0,4,15,0,32,96,255,511,1023] []) ?_;refine .k 7 [] ?_;refine .ca rfl rfl (IA hE hv.n xs (kZ hE hv.n ha).2 (by omega)) ?_;refine .n [] ?_;change c8 ..;refine c121z ?_;have hT2:=hT;simp only[lX,show ((4:Int)=1)=False from by simp,show ((4:Int)=2)=False from by simp,show ((4:Int)=3)=False from by simp,show ((4:Int)=5)=False from by simp,show ((4:Int)=6)=False from by simp,show ((4:Int)=7)=False from by simp,show ((4:Int)=8)=False from by simp,if_true,if_false,true_or,or_true,or_false,false_or,or_self]at hT2;exact ⟨_,by omega,.v ⟨_,(pre.app (.cons 4 f.1 l4 l9 xs .nil .nil .nil)),rest,vs,_,⟨rfl,⟨rfl,eG,hr,hv,hT2,by omega⟩⟩,rfl⟩ (he:=by rfl) (hs:=t10)⟩
   ·have hrs:=(hR.pw hE hv.n).2;refine c237z ?_;refine c9z ?_;refine c106z ?_;refine c145z ?_;refine .ca rfl rfl (Z5 hE hv.n hR) ?_;refine c28z ?_;refine c121z ?_;have hT2:=hT;simp only[lX,show ((5:Int)=1)=False from by simp,show ((5:Int)=2)=False from by simp,show ((5:Int)=3)=False from by simp,show ((5:Int)=4)=False from by simp,show ((5:Int)=6)=False from by simp,show ((5:Int)=7)=False from by simp,show ((5:Int)=8)=False from by simp,if_true,if_false,true_or,or_true,or_false,false_or,or_self]at hT2;exact ⟨_,by omega,.v ⟨_,(pre.app (.cons 5 ByteArray.empty l4 r [] .nil .nil .nil)),rest,vs,_,⟨rfl,⟨rfl,eG,hr,hv,hT2,by omega⟩⟩,rfl⟩ (he:=by rfl) (hs:=t10)⟩
   ·have hrs:=(hR.pw hE hv.n).2;refine c237z ?_;refine c115z ?_;refine c106z ?_;refine .c6 [0,1,5,6,7] ?_;refine c145z ?_;refine .ca rfl rfl (Z5 hE hv.n hR) ?_;refine c28z ?_;refine c121z ?_;have hT2:=hT;simp only[lX,show ((6:Int)=1)=False from by simp,show ((6:Int)=2)=False from by simp,show ((6:Int)=3)=False from by simp,show ((6:Int)=4)=False from by simp,show ((6:Int)=5)=False from by simp,show ((6:Int)=7)=False from by simp,show ((6:Int)=8)=False from by simp,if_true,if_false,true_or,or_true,or_false,false_or,or_self]at hT2;exact ⟨_,by omega,.v ⟨_,(pre.app (.cons 6 ByteArray.empty l4 r [] .nil .nil .nil)),rest,vs,_,⟨rfl,⟨rfl,eG,hr,hv,hT2,by omega⟩⟩,rfl⟩ (he:=by rfl) (hs:=t10)⟩
   ·have hes:=(cH hv.n he).2;have hb:D6 2=104:=rfl;have hts:(tabs++gV).size=tabs.size+1:=by rw[aK];rfl
    have hths:=(jW hE th vs (tabs++gV) ByteArray.empty 0 hv.n hth (by omega) (xV ht) Cl.nil).2;have hels:=(jW hE el vs (tabs++gV) ByteArray.empty 0 hv.n hel (by omega) (xV ht) Cl.nil).2;refine c237z ?_;refine c115z ?_;refine c9z ?_;refine .seq ?_;refine .c6 [0,1,5,6,7,23] ?_;refine c106z ?_;refine .sk ?_;refine .T ?_;refine c69z ?_;refine c17z ?_;refine .ss v9 (mkP 18 [0,0,3,0,8,24,63,127,0,256,0,1024,3896,8191,0,32767,65535,131071] []) ?_;refine .k 5 [] ?_;refine .ca rfl rfl (A6 hv he) ?_;refine .k 6 [] ?_;refine .ca rfl rfl (ih th (by omega) vs (tabs++gV) hv hth (by omega) (xV ht) _) ?_;refine .n [] ?_;refine .c6 [0,1,5,6,7] ?_;refine .z ?_;refine u2z ?_ ?_
    ·intro e2 qe2;refine .r ?_;refine .e 6 ?_;refine .ca rfl rfl (ih el (by omega) vs (tabs++gV) hv hel (by omega) (xV ht) _) ?_;refine c28z ?_;refine c121z ?_;have hT2:=hT;have hel0:0<el.len:=by omega
     simp only[lX,show ((7:Int)=1)=False from by simp,show ((7:Int)=2)=False from by simp,show ((7:Int)=3)=False from by simp,show ((7:Int)=4)=False from by simp,show ((7:Int)=5)=False from by simp,show ((7:Int)=6)=False from by simp,show ((7:Int)=8)=False from by simp,if_true,if_false,true_or,or_true,or_false,false_or,or_self,if_pos hel0]at hT2;exact ⟨_,by omega,.v ⟨_,(pre.app (.cons 7 ByteArray.empty e l9 [] th el .nil)),rest,vs,_,⟨rfl,⟨rfl,eG,hr,hv,hT2,by omega⟩⟩,rfl⟩ (he:=by rfl) (hs:=t10)⟩
    intro e2 qe2;refine c4z ?_;refine c48z ?_;have hT2:=hT;have hel0:¬0<el.len:=by omega
    simp only[lX,show ((7:Int)=1)=False from by simp,show ((7:Int)=2)=False from by simp,show ((7:Int)=3)=False from by simp,show ((7:Int)=4)=False from by simp,show ((7:Int)=5)=False from by simp,show ((7:Int)=6)=False from by simp,show ((7:Int)=8)=False from by simp,if_true,if_false,true_or,or_true,or_false,false_or,or_self,if_neg hel0]at hT2;exact ⟨_,by omega,.v ⟨_,(pre.app (.cons 7 ByteArray.empty e l9 [] th el .nil)),rest,vs,_,⟨rfl,⟨rfl,eG,hr,hv,hT2,by omega⟩⟩,rfl⟩ (he:=by rfl) (hs:=t10)⟩
   ·have hes:=(cH hv.n he).2;have hb:D6 2=104:=rfl;have hts:(tabs++gV).size=tabs.size+1:=by rw[aK];rfl
    have hths:=(jW hE th vs (tabs++gV) ByteArray.empty 0 hv.n hth (by omega) (xV ht) Cl.nil).2;refine c237z ?_;refine c115z ?_;refine c9z ?_;refine .seq ?_;refine c85z ?_;refine c1z ?_;refine .T ?_;refine c69z ?_;refine .T ?_;refine .c6 [0,1,5,6,7] ?_;refine c1z ?_;refine .ss v9 (mkP 18 [0,0,3,0,8,24,63,127,0,256,0,1024,3896,8191,0,32767,65535,131071] []) ?_;refine .k 5 [] ?_;refine .ca rfl rfl (A6 hv he) ?_;refine .k 6 [] ?_;refine .ca rfl rfl (ih th (by omega) vs (tabs++gV) hv hth (by omega) (xV ht) _) ?_;refine .n [] ?_;refine .c6 [0,1,5,6,7] ?_;refine c9z ?_;refine c4z ?_;refine c48z ?_;have hT2:=hT;simp only[lX,show ((8:Int)=1)=False from by simp,show ((8:Int)=2)=False from by simp,show ((8:Int)=3)=False from by simp,show ((8:Int)=4)=False from by simp,show ((8:Int)=5)=False from by simp,show ((8:Int)=6)=False from by simp,show ((8:Int)=7)=False from by simp,if_true,if_false,true_or,or_true,or_false,false_or,or_self,Go.Un.Sl.len,Nat.lt_irrefl]at hT2;exact ⟨_,by omega,.v ⟨_,(pre.app (.cons 8 ByteArray.empty e l9 [] th .nil .nil)),rest,vs,_,⟨rfl,⟨rfl,eG,hr,hv,hT2,by omega⟩⟩,rfl⟩ (he:=by rfl) (hs:=t10)⟩
   ·skip;refine c237z ?_;refine c115z ?_;refine c9z ?_;refine .seq ?_;refine c85z ?_;refine c1z ?_;refine c219z ?_;refine c1z ?_;refine c146z ?_;have hT2:=hT;simp only[lX,show ((9:Int)=1)=False from by simp,show ((9:Int)=2)=False from by simp,show ((9:Int)=3)=False from by simp,show ((9:Int)=4)=False from by simp,show ((9:Int)=5)=False from by simp,show ((9:Int)=6)=False from by simp,show ((9:Int)=7)=False from by simp,show ((9:Int)=8)=False from by simp,if_true,if_false,true_or,or_true,or_false,false_or,or_self]at hT2;exact ⟨_,by omega,.v ⟨_,(pre.app (.cons 9 ByteArray.empty l4 l9 [] .nil .nil .nil)),rest,vs,_,⟨rfl,⟨rfl,eG,hr,hv,hT2,by omega⟩⟩,rfl⟩ (he:=by rfl) (hs:=t10)⟩
  intro e1 qe1;refine .exit ?_;obtain rfl:=Go.Un.Sl.zO (show rst.len=0 by omega);rw[lX]at hT;refine c211z ?_;exact .ret (.ex (hq:=by (exact congrArg AV.str hT)))
theorem IG {E:Env}(hE:tH E):∀(n:Nat) (S:Sl),S.wt≤n→n≤1000→∀(vars:List BA) (tabs:BA),aE vars→GS E S vars→tabs.size+S.dep≤10→Cl (L8 tabs) 0→∀h:c5,CB 164 [.vec S.len (o5 S),.str tabs] h (.str (lX S tabs ByteArray.empty))
  | n,S,hn,h1,vars,tabs,hv,hG,hd,ht,h=>by
    refine QU hE S (fun S' hS'=>?_) vars tabs hv hG hd ht (by omega);cases n with
    | zero=>omega
    | succ n=>exact IG hE n S' (by omega) (by omega)
end Go.Proofs.YtonbocmibeikmaaGreat
end
section
namespace Go.Proofs.YtonbocmibeikmaaGreat
open Go.Ab Go.Un
structure Frame where
  b0:Blk
  b1:Blk
  b2:Blk
  z:Blk
  m:Blk
  g:Blk
  rest:c5
def Frame.n (e:Frame):Nat:=e.rest.length+9
def hB (c:Core)(e:Frame)(I left:Int):c5:=
  e.b0::e.b1::e.b2::e.z::⟨0,false,118,2,[.vec c.L.length (g5 c.L),.int .i64 I],0⟩::
  ⟨0,false,129,6,[.ptr 4 0 0,.vec c.gs.length (r7 c.gs),.vec c.ms.length (c9 c.ms),.own 8 c.gF 0 c.fs.length,.int .i64 left,.bool c.ar],0⟩::
  e.m::e.g::⟨c.gF,false,136,3,o3 c.fs,0⟩::e.rest
section
variable {c:Core}{e:Frame}{I left k:Int}{l:c5}
theorem cE:(hB c e I left).length=e.n:=by simp[hB,Frame.n]
theorem hB_1:(hB c e I left)[4]?=some ⟨0,false,118,2,[.vec c.L.length (g5 c.L),.int .i64 I],0⟩:=rfl
theorem hB_2:(hB c e I left)[5]?=some ⟨0,false,129,6,[.ptr 4 0 0,.vec c.gs.length (r7 c.gs),.vec c.ms.length (c9 c.ms),.own 8 c.gF 0 c.fs.length,.int .i64 left,.bool c.ar],0⟩:=rfl
theorem hB_5:(hB c e I left)[8]?=some ⟨c.gF,false,136,3,o3 c.fs,0⟩:=rfl
theorem ZX:(hB c e I left++l)[4]?=some ⟨0,false,118,2,[.vec c.L.length (g5 c.L),.int .i64 I],0⟩:=rfl
theorem ZY:(hB c e I left++l)[5]?=some ⟨0,false,129,6,[.ptr 4 0 0,.vec c.gs.length (r7 c.gs),.vec c.ms.length (c9 c.ms),.own 8 c.gF 0 c.fs.length,.int .i64 left,.bool c.ar],0⟩:=rfl
theorem ZZ:(hB c e I left++l)[8]?=some ⟨c.gF,false,136,3,o3 c.fs,0⟩:=rfl
theorem Aa:(hB c e I left++l).set 5 ⟨0,false,129,6,[.ptr 4 0 0,.vec c.gs.length (r7 c.gs),.vec c.ms.length (c9 c.ms),.own 8 c.gF 0 c.fs.length,.int .i64 k,.bool c.ar],0⟩=hB c e I k++l:=rfl
variable {j:Nat}
theorem fC:(hB c e I left++l)[e.n+j]?=l[j]?:=by rw[List.getElem?_append_right (by rw[cE];omega),cE,Nat.add_sub_cancel_left]
theorem A8:(hB c e I left++l)[e.n]?=l[0]?:=by rw[List.getElem?_append_right (by rw[cE];omega),cE,Nat.sub_self]
theorem fQ {b:Blk}:(hB c e I left++l).set (e.n+j) b=hB c e I left++l.set j b:=by rw[List.set_append_right _ _ (by rw[cE];omega),cE,Nat.add_sub_cancel_left]
theorem Q9 {b:Blk}:(hB c e I left++l).set e.n b=hB c e I left++l.set 0 b:=by rw[List.set_append_right _ _ (by rw[cE];omega),cE,Nat.sub_self]
variable {left':Int}
theorem gZ {I':Int}:y0 (hB c e I left) (hB c e I' left'):=by
  refine y0.of ⟨.inl rfl,.inl rfl,.inl rfl,.inl rfl,.inr (gN.get ⟨.vec _ _,.int _ _,trivial⟩),.inr (gN.get ⟨.ptr _ _ _ ?_,.vec _ _,.vec _ _,.own _ _ _ _ ?_,.int _ _,.bool _,trivial⟩),.inl rfl,.inl rfl,.inl rfl,nT.refl _ _⟩
  · rw[cE];unfold Frame.n;omega
  · rw[cE];unfold Frame.n;omega
theorem A9 {I':Int}{l':c5}(hk:nT (e.n+l'.length) l l'):y0 (hB c e I left++l) (hB c e I' left'++l'):=
  gZ.app (by rw[cE,cE]) (by rw[cE];exact hk)
end
theorem famB (c:Core)(e:Frame)(left:Int):bG 4 c.L e.n fun I=>hB c e I left:=⟨fun _=>rfl,fun _ _=>rfl,fun _=>cE⟩
theorem gB {c:Core}{e:Frame}{left:Int}(l:c5)(I n:Int)(hI:OkI c.L I)(hL:c.L.length<4611686018427387904)(hn:0<n)(hm:n≤4611686018427387904):CH 75 [.ptr 4 0 0,.int .i64 n] (hB c e I left++l) (.int .i64 (c4 c.L I n).1) (hB c e (c4 c.L I n).2 left++l):=mK (famB c e left) l I n hI hL hn hm
theorem R2 {c:Core}{e:Frame}{left:Int}(l:c5)(I v:Int)(hI:OkI c.L I)(hL:c.L.length<4611686018427387904)(names:List BA)(hN:names.length<1000)(hv:0≤v∧v<1000):CH 158 [.ptr 4 0 0,.vec names.length (aH names),.int .i64 v] (hB c e I left++l) (.agg (s9 (dM c.L names v.toNat I).1)) (hB c e (dM c.L names v.toNat I).2 left++l):=by have h:=VK hL names hN v.toNat (by omega) ((famB c e left).app l) I hI;rw[Int.toNat_of_nonneg hv.1]at h;exact h
variable {i:Nat}
theorem qB {l:List Mx}(h:i<l.length):List.take 1 (List.drop (i*3+2) (c9 l))=[AV.int .i64 (l.getD i v8).size]:=by have:=congrArg (fun x=>x.drop 2) (zP h);simp only[List.drop_take,List.drop_drop]at this;simpa using this
theorem QV {l:List Mx}(h:i<l.length):List.take 1 (List.drop (i*3) (c9 l))=[AV.str (l.getD i v8).name]:=by have:=congrArg (fun x=>x.take 1) (zP h);simp only[List.take_take]at this;simpa using this
theorem Z7 {l:List Pm}(h:i<l.length):List.take 1 (List.drop (i*2) (w4 l))=[AV.str (l.getD i iE).name]:=by have:=congrArg (fun x=>x.take 1) (GG h);simp only[List.take_take]at this;simpa using this
theorem lG {l:List Pm}(h:i<l.length):List.take 1 (List.drop (i*2+1) (w4 l))=[AV.bool (l.getD i iE).mu]:=by have:=congrArg (fun x=>x.drop 1) (GG h);simp only[List.drop_take,List.drop_drop]at this;simpa using this
variable {vars:List BA}{size:Int}
theorem idx_pos {c:Core}{I:Int}(h:c.ar=true)(h2:(c4 c.L I 3).1=1):gR c vars size I=dM c.L vars 1 (c4 c.L I 3).2:=by rw[gR,if_pos h,if_pos h2]
theorem idx_neg {c:Core}{I:Int}(h:c.ar=true)(h2:¬(c4 c.L I 3).1=1):gR c vars size I=(.leaf 1 (c4 c.L (c4 c.L I 3).2 size).1 ByteArray.empty,(c4 c.L (c4 c.L I 3).2 size).2):=by rw[gR,if_pos h,if_neg h2]
theorem idx_no {c:Core}{I:Int}(h:c.ar=false):gR c vars size I=(.leaf 1 (c4 c.L I size).1 ByteArray.empty,(c4 c.L I size).2):=by rw[gR,if_neg t202]
theorem wex_pos {c:Core}{I:Int}(h:c.ar=true):g9 c vars I=dM c.L vars (1+(c4 c.L I 2).1).toNat (c4 c.L I 2).2:=by rw[g9,if_pos h]
theorem wex_neg {c:Core}{I:Int}(h:c.ar=false):g9 c vars I=dM c.L vars 0 I:=by rw[g9,if_neg t202]
attribute [local go_sem] l6 aL n6 aP n8 Int.natCast_nonneg Int.natCast_inj List.length_map cE hB_1 hB_2 hB_5 ZX ZY ZZ Aa fC A8 fQ Q9
theorem frz_E {n d:Nat}{H:c5}{a:Ex}:p6 (iQ n H (d+1)) (s9 a)=some (s9 a):=by rw[bN];rfl
theorem QW {r:Rf}:oX (ED ⟨true,r,l4⟩) (.bool true::(X7 r++[.int .i64 0,.int .i64 0,.str ByteArray.empty,.nils])):=⟨.inl rfl,.inl rfl,.inl rfl,.inl rfl,.inl rfl,.inl rfl,.inr ⟨rfl,rfl⟩,trivial⟩
theorem IH {x:Ex}:oX (ED ⟨false,l9,x⟩) (.bool false::.str ByteArray.empty::.nils::s9 x):=⟨.inl rfl,.inl rfl,.inr ⟨rfl,rfl⟩,oX.refl _⟩
theorem frz_A {n d:Nat}{H:c5}{l:List Ar}:p6 (lP n H (d+1)) (bE l)=some (bE l):=by
  induction l with
  | nil=>rfl
  | cons a l ih=>
    refine xS ?_ ih;simp only[ED,p6,pQ,pR,mY,DC]
section
attribute [local go_sem] gA
theorem c_index {c:Core}{e:Frame}{left I:Int}(hc:OkC c)(hI:OkI c.L I)(hL:c.L.length<4611686018427387904)(vars:List BA)(hN:vars.length<1000)(size:Int)(hs:0<size∧size≤3):CH 157 [.ptr 5 0 0,.vec vars.length (aH vars),.int .i64 size] (hB c e I left) (.agg (s9 (gR c vars size I).1)) (hB c e (gR c vars size I).2 left):=by
  refine .wz Tryz.f157 32 ?_;have h3:=l8 hI (n:=3) (by omega);refine c13z ?_;refine c24z ?_;refine .spl 11 rfl rfl (fun e1=>?_) (fun e1=>?_)
  ·try simp only[e1]
   have qe1:=fact e1;refine .k 4 [(4,11)] ?_;refine .ch rfl rfl (gB _ _ 3 hI hL (by omega) (by omega)) ?_;refine .m [(4,11)] ?_;refine u2z ?_ ?_
   ·intro e2 qe2;refine .c6 [0,1,6] ?_;refine c24z ?_;refine .ch rfl rfl (R2 _ _ 1 h3.2.2 hL vars hN (by omega)) ?_;refine c102z ?_;exact ⟨hB _ _ _ _,_,_,rfl,t74,gZ,t8,t77⟩
   intro e2 qe2;refine .sk ?_;refine .c6 [0,2,6] ?_;refine c24z ?_;refine .ch rfl rfl (gB _ _ size (by first | exact h3.2.2 | exact hI) hL (by omega) (by omega)) ?_;refine c102z ?_;exact ⟨hB _ _ _ _,_,_,rfl,t74,gZ,t8,t77⟩
  try simp only[e1]
  have qe1:=fact e1;refine .m [(4,11)] ?_;refine c17z ?_;refine .c6 [0,2,6] ?_;refine c24z ?_;refine .ch rfl rfl (gB _ _ size (by first | exact h3.2.2 | exact hI) hL (by omega) (by omega)) ?_;refine c102z ?_;exact ⟨hB _ _ _ _,_,_,rfl,t74,gZ,t8,t77⟩
end
section
attribute [local go_sem] gA wrap64
theorem c_wexpr {c:Core}{e:Frame}{left I:Int}(hc:OkC c)(hI:OkI c.L I)(hL:c.L.length<4611686018427387904)(vars:List BA)(hN:vars.length<1000):CH 128 [.ptr 5 0 0,.vec vars.length (aH vars)] (hB c e I left) (.agg (s9 (g9 c vars I).1)) (hB c e (g9 c vars I).2 left):=by
  refine .wz Tryz.f128 28 ?_;have h2:=l8 hI (n:=2) (by omega);refine c69z ?_;refine u2z ?_ ?_
  ·intro e1 qe1;refine c24z ?_;refine .ch rfl rfl (R2 _ _ 0 hI hL vars hN (by omega)) ?_;refine c102z ?_;exact ⟨hB _ _ _ _,_,_,rfl,t74,gZ,t8,t127⟩
  intro e1 qe1;refine .sk ?_;refine .sm v9 (mkP 13 [0,1,3,7,0,0,32,96,224,480,992,2047,4095] [9,11,12]) [0,1,2,3,4] ?_;refine eX.p (pd:=[]) 9 ?_;refine eX.s4 rfl rfl rfl rfl rfl wS (gB _ _ 2 hI hL (by omega) (by omega)) ?_;refine eX.p 1 ?_;refine eX.s4 rfl rfl rfl rfl rfl OV (R2 _ _ _ h2.2.2 hL vars hN (by omega)) ?_;refine eX.p 1 ?_;refine eX.nil t13 ?_;refine c3z ?_;exact ⟨hB _ _ _ _,_,_,rfl,t74,gZ,t8,t127⟩
end
theorem kG {l:List BA}{x:BA}:aH (l++[x])=aH l++[.str x]:=by simp[aH]
theorem DJ {c:Core}(h:i<c.ms.length):(c.ms.map (·.name)).take (i+1)=(c.ms.map (·.name)).take i++[(c.ms.getD i v8).name]:=by rw[List.take_add_one];simp[List.getD,h]
theorem K2 (l m:List Pm):extra (l++m)=extra l++extra m:=by
  induction l with
  | nil=>rfl
  | cons p l ih=>simp only[List.cons_append,extra];split<;>simp[ih]
variable {j:Nat}
theorem xW {l:List Pm}(h:j<l.length):l.take (j+1)=l.take j++[l.getD j iE]:=by rw[List.take_add_one];simp[List.getD,h]
variable {ps:List Pm}
theorem II {c:Core}:l3 c (ps.take 0)=c.ms.map (·.name):=by simp[l3,extra]
theorem rn_t {c:Core}(h:j<ps.length)(hm:(ps.getD j iE).mu=true):l3 c (ps.take (j+1))=l3 c (ps.take j)++[(ps.getD j iE).name]++[(ps.getD j iE).name]:=by rw[xW h];simp only[l3,K2,List.append_assoc];simp only[extra,hm,if_true];rfl
theorem rn_f {c:Core}(h:j<ps.length)(hm:(ps.getD j iE).mu=false):l3 c (ps.take (j+1))=l3 c (ps.take j):=by rw[xW h];simp only[l3,K2];simp only[extra,hm,Bool.false_eq_true,if_false,List.append_nil]
theorem ref_pos {c:Core}{I:Int}(h1:(c4 c.L I (l3 c ps).length).1<c.ms.length)(h2:0<(c.ms.getD (c4 c.L I (l3 c ps).length).1.toNat v8).size):u4 c ps vars I=
    (⟨(l3 c ps).getD (c4 c.L I (l3 c ps).length).1.toNat ByteArray.empty,[(gR c vars (c.ms.getD (c4 c.L I (l3 c ps).length).1.toNat v8).size (c4 c.L I (l3 c ps).length).2).1]⟩,(gR c vars (c.ms.getD (c4 c.L I (l3 c ps).length).1.toNat v8).size (c4 c.L I (l3 c ps).length).2).2):=if_pos ⟨h1,h2⟩
theorem ref_neg {c:Core}{I:Int}(h:¬((c4 c.L I (l3 c ps).length).1<c.ms.length∧0<(c.ms.getD (c4 c.L I (l3 c ps).length).1.toNat v8).size)):u4 c ps vars I=
    (⟨(l3 c ps).getD (c4 c.L I (l3 c ps).length).1.toNat ByteArray.empty,[]⟩,(c4 c.L I (l3 c ps).length).2):=if_neg h
theorem encN_ne {l:List BA}(h:0<l.length):aH l≠[]:=by intro e;have:=congrArg List.length e;rw[aL,List.length_nil]at this;omega
theorem IJ {x:Ex}:n4 [x]=s9 x:=by simp[n4]
theorem IK {c:Core}{e:Frame}{I left:Int}{fb rb:Blk}{g n:Nat}{zs:List BA}{x:AV}(hz:zs.length=n)(hn:n<1000) :
    j6 cfg 9 (hB c e I left++[fb,rb,o9 9 1 g (aH zs),⟨0,false,9,1,[x],0⟩]) (.own (e.n+2) g 0 n) (.own (e.n+3) 0 0 1)=some (.own (e.n+2) (g+1) 0 (n+1),hB c e I left++[fb,rb,o9 9 1 (g+1) (aH zs++[x]),⟨0,false,9,1,[x],0⟩]):=by
  have hb:(hB c e I left++[fb,rb,o9 9 1 g (aH zs),⟨0,false,9,1,[x],0⟩])[e.n+2]?=some (o9 9 1 g (aH zs)):=fC;rw[u9 (C:=cfg) (K:=1) (m:=1) (new:=[x]) hb rfl (by omega) (by rw[aL,hz,Nat.mul_one]) rfl (by omega) t138 rfl (by decide) (by omega),fQ];rfl
theorem DK {c:Core}{e:Frame}{I left:Int}{fb rb:Blk}{g n:Nat}{zs:List BA}{x y:AV}(hz:zs.length=n)(hn:n<1000) :
    j6 cfg 9 (hB c e I left++[fb,rb,o9 9 1 g (aH zs),⟨0,false,9,1,[x,y],0⟩]) (.own (e.n+2) g 0 n) (.own (e.n+3) 0 0 2)=some (.own (e.n+2) (g+1) 0 (n+2),hB c e I left++[fb,rb,o9 9 1 (g+1) (aH zs++[x,y]),⟨0,false,9,1,[x,y],0⟩]):=by
  have hb:(hB c e I left++[fb,rb,o9 9 1 g (aH zs),⟨0,false,9,1,[x,y],0⟩])[e.n+2]?=some (o9 9 1 g (aH zs)):=fC;rw[u9 (C:=cfg) (K:=1) (m:=2) (new:=[x,y]) hb rfl (by omega) (by rw[aL,hz,Nat.mul_one]) rfl (by omega) t138 rfl (by decide) (by omega),fQ];rfl
theorem VY {n:Nat}{l:List BA}:∀x∈aH l,Refs n x:=by intro x hx;obtain ⟨y,_,rfl⟩:=List.mem_map.1 hx;exact .str _
theorem Frame.n_ge (e:Frame):9≤e.n:=by unfold Frame.n;omega
theorem QX {c:Core}{e:Frame}{left I:Int}{l:c5}(hc:OkC c)(hI:OkI c.L I)(hL:c.L.length<4611686018427387904)(vars:List BA)(hN:vars.length<1000)(size:Int)(hs:0<size∧size≤3):CH 157 [.ptr 5 0 0,.vec vars.length (aH vars),.int .i64 size] (hB c e I left++l) (.agg (s9 (gR c vars size I).1)) (hB c e (gR c vars size I).2 left++l):=c_index (e:=⟨e.b0,e.b1,e.b2,e.z,e.m,e.g,e.rest++l⟩) hc hI hL vars hN size hs
theorem Z8 {c:Core}{e:Frame}{left I:Int}{l:c5}(hc:OkC c)(hI:OkI c.L I)(hL:c.L.length<4611686018427387904)(vars:List BA)(hN:vars.length<1000):CH 128 [.ptr 5 0 0,.vec vars.length (aH vars)] (hB c e I left++l) (.agg (s9 (g9 c vars I).1)) (hB c e (g9 c vars I).2 left++l):=c_wexpr (e:=⟨e.b0,e.b1,e.b2,e.z,e.m,e.g,e.rest++l⟩) hc hI hL vars hN
section
attribute [local go_sem] gA wrap64 dZ IK DK QV qB Z7 lG sI J0 Q0 zY max2
theorem c_ref {c:Core}{e:Frame}{left I:Int}(hc:OkC c)(hI:OkI c.L I)(hL:c.L.length<4611686018427387904)(vars:List BA)(hN:vars.length<1000)(f:Fu)(hp:f.params.length≤2):CH 127 [.ptr 5 0 0,.agg (dZ f),.vec vars.length (aH vars)] (hB c e I left) (.agg (X7 (u4 c f.params vars I).1)) (hB c e (u4 c f.params vars I).2 left):=by
  refine .wz Tryz.f127 107 ?_;have hml:=hc.ml;refine c59z ?_;refine c8.rC 7 rfl ?_;refine .u6 (fun m st=>∃(i:Nat),(m=c.ms.length-i∧i≤c.ms.length)∧st=⟨mkS 107 [(0,AV.ptr 5 0 0),(2,AV.vec vars.length (aH vars)),(4,AV.ptr e.n 0 0),(6,AV.ptr (e.n+1) 0 0),(7,AV.own (e.n+2) i 0 i),(8,AV.int .i64 ((i:Nat):Int))],hB c e I left++[⟨0,false,136,3,[.str f.name,.vec f.params.length (w4 f.params),.vec f.body.len (o5 f.body)],0⟩,⟨0,false,187,2,[.str ByteArray.empty,.nils],0⟩,o9 9 1 i (aH ((c.ms.map (·.name)).take i))]⟩) (.v ⟨0,⟨rfl,by omega⟩,rfl⟩ (hs:=t37) (hr:=t1)) ?_;rintro m sl h' ⟨i,⟨hm,hi⟩,hst⟩;obtain ⟨rfl,rfl⟩:=St.mk.inj hst;clear hst;have htk:((c.ms.map (·.name)).take i).length=i:=by simp;omega
  refine c0z ?_;refine u2z ?_ ?_
  ·intro e1 qe1;refine c2z ?_;refine .c6 [0,2,4,6,7,8] ?_;refine c135z ?_;refine .c6 [0,2,4,6,7,8] ?_;refine .rz ?_;exact ⟨_,by omega,.v ⟨(i+1),⟨rfl,by omega⟩,rfl⟩ (he:=by (rw[DJ (by omega),kG];simp only[List.append_assoc,List.cons_append,List.nil_append];rfl)) (hl:=t27) (hk:=t119) (hs:=t37) (hr:=t1)⟩
  intro e1 qe1;refine .exit ?_;obtain rfl:i=c.ms.length:=by omega
  change c8 ..;refine .c6 [0,2,4,6,7] ?_;refine c18z ?_;refine .u6 (fun m st=>∃(j:Nat) (g:Nat),(m=f.params.length-j∧j≤f.params.length)∧st=⟨mkS 107 [(0,AV.ptr 5 0 0),(2,AV.vec vars.length (aH vars)),(4,AV.ptr e.n 0 0),(6,AV.ptr (e.n+1) 0 0),(7,AV.own (e.n+2) g 0 (l3 c (f.params.take j)).length),(9,AV.int .i64 ((c.ms.length:Nat):Int)),(10,AV.int .i64 ((j:Nat):Int))],hB c e I left++[⟨0,false,136,3,[.str f.name,.vec f.params.length (w4 f.params),.vec f.body.len (o5 f.body)],0⟩,⟨0,false,187,2,[.str ByteArray.empty,.nils],0⟩,o9 9 1 g (aH (l3 c (f.params.take j)))]⟩) (.v ⟨0,c.ms.length,⟨rfl,by omega⟩,rfl⟩ (hs:=t58) (hr:=t1)) ?_ (he:=by (rw[II,show (c.ms.map (·.name)).take c.ms.length=c.ms.map (·.name) from List.take_of_length_le (by simp)]));rintro m sl h' ⟨j,g,⟨hm,hj⟩,hst⟩;obtain ⟨rfl,rfl⟩:=St.mk.inj hst;clear hst;have hxl:=(mJ hc (f.params.take j)).2;have hxt:(f.params.take j).length≤2:=by simp;omega
  refine c0z ?_;refine u2z ?_ ?_
  ·intro e2 qe2;refine c58z ?_;refine u2z ?_ ?_
   ·intro e3 qe3;refine .c6 [0,2,4,6,7,9,10] ?_;refine c8.kT v9 (mkP 16 [0,0,2,0,14,30,62,0,128,0,896,1920,3968,8190,16383,32767] [13,14]) [0] (by kernel_rfl) (by kernel_rfl) ?_;refine eX.p (pd:=[]) 16 ?_;refine eX.nil t13 ?_;change c8 ..;refine .c6 [0,2,4,6,7,9,10] ?_;refine .rz ?_;have hxs:=congrArg List.length (rn_t (c:=c) (j:=j) (ps:=f.params) (by omega) (by assumption));simp only[List.length_append,List.length_singleton]at hxs;exact ⟨_,by omega,.v ⟨(j+1),(g+1),⟨rfl,by omega⟩,rfl⟩ (he:=by (rw[rn_t (by omega) (by assumption),kG,kG];simp only[List.append_assoc,List.cons_append,List.nil_append];rfl)) (hl:=t27) (hk:=t119) (hs:=t58) (hr:=t1)⟩
   intro e3 qe3;refine c4z ?_;refine .c6 [0,2,4,6,7,9,10] ?_;refine .rz ?_;have hxs:=congrArg List.length (rn_f (c:=c) (j:=j) (ps:=f.params) (by omega) (by assumption));exact ⟨_,by omega,.v ⟨(j+1),g,⟨rfl,by omega⟩,rfl⟩ (he:=by (rw[rn_f (by omega) (by assumption)];exact (List.append_nil _).symm)) (hl:=t27) (hk:=t119) (hs:=t58) (hr:=t1)⟩
  intro e2 qe2;refine .exit ?_;obtain rfl:j=f.params.length:=by omega
  rw[List.take_length]at hxl ⊢;change c8 ..;have hrl:=mJ hc f.params;have hk:=l8 hI (n:=((l3 c f.params).length:Int)) (by omega);rw[dA (encN_ne hrl.1)];refine c132z ?_;refine .ch rfl rfl (gB _ _ _ hI hL (by omega) (by omega)) ?_;refine .n ?_;refine .c6 [0,2,6,7,9,11] ?_;refine c13z ?_;refine c25z ?_;refine .spl 80 rfl rfl (fun e4=>?_) (fun e4=>?_)
  ·try simp only[e4]
   have qe4:=fact e4;refine .k 8 [(3,80)] ?_;refine .m [(3,80)] ?_;refine u2z ?_ ?_
   ·intro e5 qe5;refine .c6 [0,2,6,11,12] ?_;have hsz:=hc.mx (c4 c.L I (l3 c f.params).length).1.toNat (by omega);refine c116z ?_;refine .e 3 ?_;refine .ch rfl rfl (QX hc hk.2.2 hL vars hN _ (by omega)) ?_;refine c28z ?_;refine .c6 [6,12] ?_;refine c29z ?_;exact ⟨hB _ _ _ _,_,_,rfl,t74,gZ,t8,t87⟩
   intro e5 qe5;refine .sk ?_;refine .c6 [6,12] ?_;refine c29z ?_;exact ⟨hB _ _ _ _,_,_,rfl,t74,gZ,t8,t87⟩
  try simp only[e4]
  have qe4:=fact e4;refine .k 8 [(3,80)] ?_;refine .m [(3,80)] ?_;refine c17z ?_;refine .c6 [6,12] ?_;refine c29z ?_;exact ⟨hB _ _ _ _,_,_,rfl,t74,gZ,t8,t87⟩
end
end Go.Proofs.YtonbocmibeikmaaGreat
end
section
namespace Go.Proofs.YtonbocmibeikmaaGreat
open Go.Ab Go.Un
structure Sco where
  p:Go.Un.Pg
  l:List Ent
  loc:Int
  st:Int
  code:List Ins
  sites:List Int
structure Frm where
  pre:c5
  rest:c5
def Frm.k (e:Frm):Nat:=e.pre.length
def Frm.n (e:Frm):Nat:=e.pre.length+(e.rest.length+3)
def aF (k:Nat)(s:Sco):Blk:=⟨0,false,198,10,[.vec s.p.globals.length (r7 s.p.globals),.vec s.p.mutexes.length (c9 s.p.mutexes),.vec s.p.funcs.length (o3 s.p.funcs),.vec s.l.length (j7 s.l),.int .i64 s.loc,.int .i64 s.st,.int .i64 0,.int .i64 0,.own (k+1) s.code.length 0 s.code.length,.own (k+2) s.sites.length 0 s.sites.length],0⟩
def hT (e:Frm)(b:Blk)(c:List Ins)(ss:List Int):c5:=e.pre++(b::o9 54 12 c.length (o6 c)::o9 3 1 ss.length (g5 ss)::e.rest)
section
variable {e:Frm}{b b':Blk}{c c':List Ins}{ss ss':List Int}{l:c5}{j:Nat}
theorem aM:(hT e b c ss).length=e.n:=by simp[hT,Frm.n]
theorem Frm.lt (e:Frm):e.k<e.n∧e.k+1<e.n∧e.k+2<e.n:=by unfold Frm.k Frm.n;omega
theorem hT_0:(hT e b c ss)[e.k]?=some b:=by rw[hT,Frm.k,List.getElem?_append_right (Nat.le_refl _),Nat.sub_self];rfl
theorem hT_1:(hT e b c ss)[e.k+1]?=some (o9 54 12 c.length (o6 c)):=by rw[hT,Frm.k,List.getElem?_append_right (by omega),Nat.add_sub_cancel_left];rfl
theorem hT_2:(hT e b c ss)[e.k+2]?=some (o9 3 1 ss.length (g5 ss)):=by rw[hT,Frm.k,List.getElem?_append_right (by omega),Nat.add_sub_cancel_left];rfl
theorem QY:(hT e b c ss++l)[e.k]?=some b:=by rw[List.getElem?_append_left (by rw[aM];exact e.lt.1),hT_0]
theorem QZ:(hT e b c ss++l)[e.k+1]?=some (o9 54 12 c.length (o6 c)):=by rw[List.getElem?_append_left (by rw[aM];exact e.lt.2.1),hT_1]
theorem RA:(hT e b c ss++l)[e.k+2]?=some (o9 3 1 ss.length (g5 ss)):=by rw[List.getElem?_append_left (by rw[aM];exact e.lt.2.2),hT_2]
theorem eB:(hT e b c ss++l)[e.n+j]?=l[j]?:=by rw[List.getElem?_append_right (by rw[aM];omega),aM,Nat.add_sub_cancel_left]
theorem B1:(hT e b c ss++l)[e.n]?=l[0]?:=by rw[List.getElem?_append_right (by rw[aM];omega),aM,Nat.sub_self]
theorem hY:(hT e b c ss++l).set (e.n+j) b'=hT e b c ss++l.set j b':=by rw[List.set_append_right _ _ (by rw[aM];omega),aM,Nat.add_sub_cancel_left]
theorem R3:(hT e b c ss++l).set e.n b'=hT e b c ss++l.set 0 b':=by rw[List.set_append_right _ _ (by rw[aM];omega),aM,Nat.sub_self]
theorem RC:(hT e b c ss).set e.k b'=hT e b' c ss:=by rw[hT,Frm.k,List.set_append_right _ _ (Nat.le_refl _),Nat.sub_self];rfl
theorem Z9:(hT e b c ss++l).set e.k b'=hT e b' c ss++l:=by rw[List.set_append_left _ _ (by rw[aM];exact e.lt.1),RC]
theorem hT_p1:(hT e b c ss).set (e.k+1) (o9 54 12 c'.length (o6 c'))=hT e b c' ss:=by rw[hT,Frm.k,List.set_append_right _ _ (by omega),Nat.add_sub_cancel_left];rfl
theorem hT_p2:(hT e b c ss).set (e.k+2) (o9 3 1 ss'.length (g5 ss'))=hT e b c ss':=by rw[hT,Frm.k,List.set_append_right _ _ (by omega),Nat.add_sub_cancel_left];rfl
theorem VZ:(hT e b c ss++l).set (e.k+1) (o9 54 12 c'.length (o6 c'))=hT e b c' ss++l:=by rw[List.set_append_left _ _ (by rw[aM];exact e.lt.2.1),hT_p1]
theorem hT_p2a:(hT e b c ss++l).set (e.k+2) (o9 3 1 ss'.length (g5 ss'))=hT e b c ss'++l:=by rw[List.set_append_left _ _ (by rw[aM];exact e.lt.2.2),hT_p2]
theorem WA:hT e b c ss++l=hT ⟨e.pre,e.rest++l⟩ b c ss:=by simp[hT]
end
theorem WB (l:List Ins):aC (o6 l):=aC.flat fun i=>by rw[eK,bN];exact .cons .int (.cons .int (.cons .bool (.cons .int (.cons .int (.cons .str (.cons .vec (.cons .bool (.cons .int (.cons .vec (.cons .vec (.cons .vec .nil)))))))))))
theorem xB (l:List Int):aC (g5 l):=aC.map fun _=>.int
theorem B2 {e:Frm}{b b':Blk}{c c':List Ins}{ss ss':List Int}(hb:∀x∈b'.cells,Refs e.n x):y0 (hT e b c ss) (hT e b' c' ss'):=by unfold hT;refine y0.app (y0.refl _) rfl ⟨.inr ?_,.inr (by rw[o2];exact (WB _).refs _),.inr (by rw[o2];exact (xB _).refs _),nT.refl _ _⟩;rw[show e.pre.length+(b'::o9 54 12 c'.length (o6 c')::o9 3 1 ss'.length (g5 ss')::e.rest).length=e.n from by simp[Frm.n]];exact hb
variable {s:Sco}
theorem hT_keep {e:Frm}{k:Nat}{s':Sco}:k=e.k→y0 (hT e (aF k s) s.code s.sites) (hT e (aF k s') s'.code s'.sites):=by
  rintro rfl;refine B2 (gN.get ⟨.vec _ _,.vec _ _,.vec _ _,.vec _ _,.int _ _,.int _ _,.int _ _,.int _ _,.own _ _ _ _ ?_,.own _ _ _ _ ?_,trivial⟩)
  · exact e.lt.2.1
  · exact e.lt.2.2
theorem gC {f:FuncId}{args:List AV}{x:AV}{s':Sco}{l:c5}{e:Frm}(h:CH f args (hT ⟨e.pre,e.rest++l⟩ (aF e.k s) s.code s.sites) x (hT ⟨e.pre,e.rest++l⟩ (aF e.k s') s'.code s'.sites)):CH f args (hT e (aF e.k s) s.code s.sites++l) x (hT e (aF e.k s') s'.code s'.sites++l):=by rw[WA,WA];exact h
theorem DL {α:Type}(f:α→List AV)(K j:Nat)(hK:∀a,(f a).length=K)(hj:j<K)(d:α){l:List α}{i:Nat}(h:i<l.length):List.take 1 (List.drop (i*K+j) (l.flatMap f))=List.take 1 (List.drop j (f (l.getD i d))):=by rw[←cL f K hK d h,List.drop_take,List.take_take,List.drop_drop,Nat.min_eq_left (by omega)]
theorem kH {l:List Ent}{i:Nat}(h:i<l.length):List.take 1 (List.drop (i*3) (j7 l))=[.str (l.getD i jV).name]:=DL iT 3 0 (fun _=>rfl) (by omega) jV h
variable {x:BA}
theorem find_at {l:List Ent}:∀{i:Nat},i<l.length→(∀d,d<i→((l.getD d jV).name.toList==x.toList)=false)→((l.getD i jV).name.toList==x.toList)=true→bP l x=some (l.getD i jV):=by
  have tl:∀{a b:BA},(a.toList==b.toList)=decide (a=b):=by
    intro a b;rw[ByteArray.toList_eq,ByteArray.toList_eq,Bool.eq_iff_iff];simp only[beq_iff_eq,decide_eq_true_eq];constructor
    · intro h
      exact ByteArray.ext (Array.toList_inj.1 h)
    · rintro rfl;rfl
  induction l with
  | nil=>intro i h;simp at h
  | cons e l ih=>
    intro i hi h1 h2;rw[bP,List.find?_cons];cases i with
    | zero=>
      rw[tl]at h2;simp only[List.getD_cons_zero]at h2 ⊢;rw[h2]
    | succ i=>
      have h0:=h1 0 (by omega);rw[tl]at h0;simp only[List.getD_cons_zero]at h0;rw[h0];simp only[List.getD_cons_succ]at h2 ⊢;exact ih (by simpa using hi) (fun d hd=>by have:=h1 (d+1) (by omega);simpa using this) h2
theorem find_no {l:List Ent}(h:∀d,d<l.length→((l.getD d jV).name.toList==x.toList)=false):bP l x=none:=by rw[bP,List.find?_eq_none];intro e he;obtain ⟨i,hi,rfl⟩:=bV (d:=jV) he;have:=h i hi;intro hc;simp only[decide_eq_true_eq]at hc;rw[hc]at this;simp at this
theorem find_nx {l:List Ent}{i:Nat}(h:∀d,d<i→((l.getD d jV).name.toList==x.toList)=false)(e:((l.getD i jV).name.toList==x.toList)=false):∀d,d<i+1→((l.getD d jV).name.toList==x.toList)=false:=fun d hd=>by
  by_cases hdi:d=i
  · rw[hdi];exact e
  · exact h d (by omega)
variable {v:Ent}
theorem AA {l:List Ent}(h:bP l x=some v):AV.tup [.agg [.str v.name,.int .i64 v.kind,.int .i64 v.n],.bool true]=.tup [.agg (iT (eV l x)),.bool (bP l x).isSome]:=by rw[eE h,h];rfl
theorem AB {l:List Ent}(h:bP l x=none):AV.tup [.agg [.str ByteArray.empty,.int .i64 0,.int .i64 0],.bool false]=.tup [.agg (iT (eV l x)),.bool (bP l x).isSome]:=by rw[eV,h];rfl
variable {i:Ins}
theorem lH:eK i=[.int .i64 i.op,.int .i64 i.target,.bool i.global,.int .i64 i.e.op,.int .i64 i.e.num,.str i.e.name,.vec i.e.args.length (n4 i.e.args),.bool i.pl.param,.int .i64 i.pl.index,.vec i.pl.at'.length (n4 i.pl.at'),.vec i.ints.length (n4 i.ints),.vec i.places.length (dQ i.places)]:=by rw[eK,bN];rfl
theorem R4 {l:List Ins}:o6 (l++[i])=o6 l++eK i:=by simp[o6]
theorem qC {l:List Int}{i:Int}:g5 (l++[i])=g5 l++[.int .i64 i]:=by simp[g5]
theorem Ap (l:List Ex):aC (n4 l):=aC.flat fun e=>by rw[bN];exact .cons .int (.cons .int (.cons .str (.cons .vec .nil)))
theorem IL (l:List Pl):aC (dQ l):=aC.flat fun p=>.cons .bool (.cons .int (.cons .vec .nil))
theorem vP:List.take 12 (eK i)=eK i:=List.take_of_length_le (by rw[aS];omega)
variable {b0:Blk}
theorem RD {e:Frm}{b:Blk}{c:List Ins}{ss:List Int}{l:c5}{n:Nat}(hn:c.length=n)(hl:n<100000):j6 cfg 54 (hT e b c ss++(b0::⟨1,false,54,12,eK i,0⟩::l)) (.own (e.k+1) n 0 n) (.own (e.n+1) 1 0 1)=some (.own (e.k+1) (n+1) 0 (n+1),hT e b (c++[i]) ss++(b0::⟨1,false,54,12,eK i,0⟩::l)):=by
  subst hn;have h1:(c++[i]).length=c.length+1:=by simp
  rw[u9 (C:=cfg) (K:=12) (m:=1) (new:=eK i) QZ rfl (by omega) (by rw[r8,Nat.mul_comm]) (by rw[aS]) (by omega) (by simp[rd,eB,aS,vP]) rfl (by decide) (by omega),←R4,←h1,VZ]
theorem K3 {e:Frm}{b:Blk}{c:List Ins}{ss:List Int}{l:c5}{n:Nat}(hn:c.length=n)(hl:n<100000):j6 cfg 54 (hT e b c ss++(b0::⟨1,false,54,12,[.int .i64 i.op,.int .i64 i.target,.bool i.global,.int .i64 i.e.op,.int .i64 i.e.num,.str i.e.name,.vec i.e.args.length (n4 i.e.args),.bool i.pl.param,.int .i64 i.pl.index,.vec i.pl.at'.length (n4 i.pl.at'),.vec i.ints.length (n4 i.ints),.vec i.places.length (dQ i.places)],0⟩::l)) (.own (e.k+1) n 0 n) (.own (e.n+1) 1 0 1)=some (.own (e.k+1) (n+1) 0 (n+1),hT e b (c++[i]) ss++(b0::⟨1,false,54,12,[.int .i64 i.op,.int .i64 i.target,.bool i.global,.int .i64 i.e.op,.int .i64 i.e.num,.str i.e.name,.vec i.e.args.length (n4 i.e.args),.bool i.pl.param,.int .i64 i.pl.index,.vec i.pl.at'.length (n4 i.pl.at'),.vec i.ints.length (n4 i.ints),.vec i.places.length (dQ i.places)],0⟩::l)):=by rw[←lH];exact RD hn hl
theorem AD {e:Frm}{b b1:Blk}{c:List Ins}{ss:List Int}{l:c5}{t:Int}{n:Nat}(hn:ss.length=n)(hl:n<100000):j6 cfg 3 (hT e b c ss++(b0::b1::⟨1,false,3,1,[.int .i64 t],0⟩::l)) (.own (e.k+2) n 0 n) (.own (e.n+2) 1 0 1)=some (.own (e.k+2) (n+1) 0 (n+1),hT e b c (ss++[t])++(b0::b1::⟨1,false,3,1,[.int .i64 t],0⟩::l)):=by
  subst hn;have h1:(ss++[t]).length=ss.length+1:=by simp
  rw[u9 (C:=cfg) (K:=1) (m:=1) (new:=[.int .i64 t]) RA rfl (by omega) (by rw[l6,Nat.mul_one]) rfl (by omega) (by simp[rd,eB]) rfl (by decide) (by omega),←qC,←h1,hT_p2a]
attribute [local go_sem] j6 rd s5 n8 bD cM r8 aS fT dL n6 bA aP l6 bF Int.natCast_nonneg Int.natCast_inj List.length_map wrap64 gA jL jM Y7 J0 Q0 Y8 zY max2 eZ cR bH Nat.reduceMul nA kH aF iT qB lG vP aM hT_0 hT_1 hT_2 QY QZ RA eB B1 hY R3 RC Z9
variable {h:c5}
theorem WD (l:List Ent)(x:BA)(hl:l.length<1000000):CB 89 [.vec l.length (j7 l),.str x] h (.tup [.agg (iT (eV l x)),.bool (bP l x).isSome]):=by
  refine .bz Tryz.f89 25 ?_;refine c18z ?_;refine .bX (fun m st=>∃(i:Nat),(m=l.length-i∧((∀d,d<i→((l.getD d jV).name.toList==x.toList)=false)∧i≤l.length))∧st=⟨mkS 25 [(0,AV.vec l.length (j7 l)),(1,AV.str x),(4,AV.ptr h.length 0 0),(6,AV.int .i64 ((i:Nat):Int))],h++[⟨0,false,145,3,[.str ByteArray.empty,.int .i64 0,.int .i64 0],0⟩]⟩) _ (.v ⟨0,⟨rfl,⟨t105,by omega⟩⟩,rfl⟩) ?_;rintro m sl h' ⟨i,⟨hm,⟨hI,hi⟩⟩,hst⟩;obtain ⟨rfl,rfl⟩:=St.mk.inj hst;refine c0z ?_;refine u2z ?_ ?_
  ·intro e1 qe1;refine c58z ?_;refine u2z ?_ ?_
   ·intro e2 qe2;refine .c6 [0,4,6] ?_;refine .z ?_;exact .ret (.ex (hq:=t171))
   intro e2 qe2;refine c4z ?_;refine .c6 [0,1,4,6] ?_;refine .rz ?_;exact ⟨_,by omega,.v ⟨(i+1),⟨rfl,⟨find_nx hI (by assumption),by omega⟩⟩,rfl⟩⟩
  intro e1 qe1;refine .exit ?_;obtain rfl:i=l.length:=by omega
  refine c211z ?_;exact .ret (.ex (hq:=t171))
theorem R5 {l:List Ent}(hf:bP l x=some v)(hl:l.length<1000000):CB 89 [.vec l.length (j7 l),.str x] h (.tup [.agg [.str v.name,.int .i64 v.kind,.int .i64 v.n],.bool true]):=by have:=WD (h:=h) l x hl;rw[←AA hf]at this;exact this
theorem IM {l:List Ent}(hf:bP l x=none)(hl:l.length<1000000):CB 89 [.vec l.length (j7 l),.str x] h (.tup [.agg [.str ByteArray.empty,.int .i64 0,.int .i64 0],.bool false]):=by have:=WD (h:=h) l x hl;rw[←AB hf]at this;exact this
theorem c_var {e:Frm}(hl:s.l.length<1000000)(t:Int)(hf:bP s.l x=some v)(hk:v.kind=1∨v.kind=4):CB 167 [.ptr e.k 0 0,.str x,.int .i64 t] (hT e (aF e.k s) s.code s.sites) (.agg [.str v.name,.int .i64 v.kind,.int .i64 v.n]):=by
  refine .bz Tryz.f167 37 ?_;refine .z ?_;refine c24z ?_;refine .ca rfl rfl (R5 hf hl) ?_;refine .n ?_;refine .sb ?_;refine .c6 [0,2,6,7,8] ?_;refine c9z ?_;refine c25z ?_;refine .spl 28 rfl rfl (fun e1=>?_) (fun e1=>?_)
  ·try simp only[e1]
   have qe1:=fact e1;refine .m [(3,28)] ?_;refine uFbz ?_;intro e2 qe2;refine c4z ?_;refine c229z ?_;exact .ret (.ex (hf:=t2) (hq:=by rfl))
  try simp only[e1]
  have qe1:=fact e1;refine .m [(3,28)] ?_;refine c34z ?_;refine c229z ?_;exact .ret (.ex (hf:=t2) (hq:=by rfl))
theorem c_ex1 {e:Frm}(hl:s.l.length<1000000)(t:Int)(n:Int):CB 166 [.ptr e.k 0 0,.agg (s9 (.leaf 1 n ByteArray.empty)),.int .i64 t] (hT e (aF e.k s) s.code s.sites) (.agg (s9 (fV s.l (.leaf 1 n ByteArray.empty)))):=by refine c244z ?_;refine c17z ?_;refine c13z ?_;refine .c6 [0,2,4,6,8] ?_;refine c142z ?_;refine .c6 [6,8] ?_;refine .z ?_;exact .ret (.ex (hf:=t2) (hq:=by rfl))
theorem c_ex2 {e:Frm}(hl:s.l.length<1000000)(t:Int)(n:Int)(hf:bP s.l x=some v)(hk:v.kind=1∨v.kind=4):CB 166 [.ptr e.k 0 0,.agg (s9 (.leaf 2 n x)),.int .i64 t] (hT e (aF e.k s) s.code s.sites) (.agg (s9 (fV s.l (.leaf 2 n x)))):=by
  refine c244z ?_;refine .T ?_;refine c25z ?_;refine .ca rfl rfl (gC (c_var hl t hf hk)) ?_;refine c35z ?_;refine c229z ?_;refine u2z ?_ ?_
  ·intro e1 qe1;refine .z ?_;exact .ret (.ex (hf:=t2) (hq:=t206))
  intro e1 qe1;refine .sk ?_;refine .z ?_;exact .ret (.ex (hf:=t2) (hq:=t206))
theorem c_exU {e:Frm}(hl:s.l.length<1000000)(t:Int)(o:Int)(a:Ex)(ho:o≠2)(iha:∀e:Frm,CB 166 [.ptr e.k 0 0,.agg (s9 a),.int .i64 t] (hT e (aF e.k s) s.code s.sites) (.agg (s9 (fV s.l a)))):CB 166 [.ptr e.k 0 0,.agg (s9 (.un o a)),.int .i64 t] (hT e (aF e.k s) s.code s.sites) (.agg (s9 (fV s.l (.un o a)))):=by refine c244z ?_;refine uFbz ?_;intro e1 qe1;refine .sk ?_;refine c13z ?_;refine .c6 [0,2,4,6,8] ?_;refine c19z ?_;refine c215z ?_;refine c40z ?_;refine c33z ?_;refine c64z ?_;refine c166z ?_;refine .cn [true] [512,0] [_] rfl rfl (by simp only[kQ,and_true,List.cons_append,List.nil_append];exact gC (iha _)) ?_;refine c82z ?_;refine c100z ?_;refine c53z ?_;refine c248z ?_;refine .rz ?_;refine c43z ?_;refine .c6 [6,8,49] ?_;refine .z ?_;exact .ret (.ex (hf:=t2) (hq:=by rfl))
theorem c_exB {e:Frm}(hl:s.l.length<1000000)(t:Int)(o:Int)(a b:Ex)(ho:o≠2)(iha:∀e:Frm,CB 166 [.ptr e.k 0 0,.agg (s9 a),.int .i64 t] (hT e (aF e.k s) s.code s.sites) (.agg (s9 (fV s.l a))))(ihb:∀e:Frm,CB 166 [.ptr e.k 0 0,.agg (s9 b),.int .i64 t] (hT e (aF e.k s) s.code s.sites) (.agg (s9 (fV s.l b)))):CB 166 [.ptr e.k 0 0,.agg (s9 (.bin o a b)),.int .i64 t] (hT e (aF e.k s) s.code s.sites) (.agg (s9 (fV s.l (.bin o a b)))):=by refine c244z ?_;refine uFbz ?_;intro e1 qe1;refine .sk ?_;refine c13z ?_;refine .c6 [0,2,4,6,8] ?_;refine c19z ?_;refine c143z ?_;refine c40z ?_;refine c33z ?_;refine c64z ?_;refine c166z ?_;refine .cn [true] [512,0] [_] rfl rfl (by simp only[kQ,and_true,List.cons_append,List.nil_append];exact gC (iha _)) ?_;refine c82z ?_;refine c100z ?_;refine c53z ?_;refine c248z ?_;refine .rz ?_;refine c79z ?_;refine .c6 [0,2,4,6,8,9] ?_;refine c40z ?_;refine c33z ?_;refine c64z ?_;refine c166z ?_;refine .cn [true] [512,0] [_] rfl rfl (by simp only[kQ,and_true,List.cons_append,List.nil_append];exact gC (ihb _)) ?_;refine c82z ?_;refine c100z ?_;refine c53z ?_;refine c248z ?_;refine .rz ?_;refine c43z ?_;refine .c6 [6,8,49] ?_;refine .z ?_;exact .ret (.ex (hf:=t2) (hq:=by rfl))
theorem Mr {s:Sco}(hl:s.l.length<1000000)(t:Int){vars:List BA}(hv:∀x∈vars,∃v,bP s.l x=some v∧(v.kind=1∨v.kind=4)):∀{d:Nat} {a:Ex},GE vars d a→∀e:Frm,CB 166 [.ptr e.k 0 0,.agg (s9 a),.int .i64 t] (hT e (aF e.k s) s.code s.sites) (.agg (s9 (fV s.l a)))
  | d,.leaf o n x,hg,e=>by
    rcases jX.1 hg with ⟨rfl,_,_,rfl⟩ | ⟨rfl,_,h1⟩
    · exact c_ex1 hl t n
    · obtain ⟨v,h2,h3⟩:=hv x h1
      exact c_ex2 hl t n h2 h3
  | 0,.un o a,hg,e=>hg.elim
  | 0,.bin o a b,hg,e=>hg.elim
  | d+1,.un o a,hg,e=>c_exU hl t o a (by have:=hg.1;omega) (Mr hl t hv hg.2)
  | d+1,.bin o a b,hg,e=>c_exB hl t o a b (by have:=hg.1;omega) (Mr hl t hv hg.2.1) (Mr hl t hv hg.2.2)
theorem sz_0 {m:Int}(h:m=0):decide (m > 0)=false:=by simp;omega
theorem sz_1 {m:Int}(h:0<m):decide (m > 0)=true:=by simp;omega
theorem nD {l:List Fu}{i:Nat}(h:i<l.length):List.take 1 (List.drop (i*3+1) (o3 l))=[AV.vec (l.getD i j5).params.length (w4 (l.getD i j5).params)]:=DL dZ 3 1 (fun _=>rfl) (by omega) j5 h
variable {y:BA}
theorem c_ref5 {e:Frm}(hl:s.l.length<1000000)(t:Int){n:Int}(hf:bP s.l x=some ⟨y,5,n⟩):CB 169 [.ptr e.k 0 0,.agg [.str x,.vec 0 []],.int .i64 t] (hT e (aF e.k s) s.code s.sites) (.agg [.bool true,.int .i64 n,.vec 0 []]):=by refine .bz Tryz.f169 92 ?_;refine .z ?_;refine c26z ?_;refine c118z ?_;refine c240z ?_;refine c162z ?_;refine .sb ?_;refine c9z ?_;refine .c6 [0,2,4,6,7,9] ?_;refine .s ?_;refine .k 8 [(3,63)] ?_;refine .n ?_;refine .F ?_;refine c84z ?_;refine .k 8 [(3,31)] ?_;refine .k 8 [(3,31)] ?_;refine .n [] ?_;refine .c6 [0,2,4,6,9,10] ?_;refine c9z ?_;refine c4z ?_;refine c5z ?_;refine c60z ?_;refine c230z ?_;exact .ret (.ex (hf:=t2) (hq:=by rfl))
section
attribute [local go_sem] sz_0
theorem c_ref2 {e:Frm}(hl:s.l.length<1000000)(t:Int){n:Int}(hf:bP s.l x=some ⟨y,2,n⟩)(hn:0≤n∧n<s.p.mutexes.length)(hz:(s.p.mutexes.getD n.toNat v8).size=0):CB 169 [.ptr e.k 0 0,.agg [.str x,.vec 0 []],.int .i64 t] (hT e (aF e.k s) s.code s.sites) (.agg [.bool false,.int .i64 n,.vec 0 []]):=by refine .bz Tryz.f169 92 ?_;refine .z ?_;refine c26z ?_;refine c118z ?_;refine c240z ?_;refine c162z ?_;refine .sb ?_;refine c9z ?_;refine .c6 [0,2,4,6,7,9] ?_;refine .s ?_;refine .k 8 [(3,63)] ?_;refine .n ?_;refine .F ?_;refine c84z ?_;refine .k 8 [(3,31)] ?_;refine .k 8 [(3,31)] ?_;refine .n [] ?_;refine .c6 [0,2,4,6,9,10] ?_;refine c9z ?_;refine c4z ?_;refine c5z ?_;refine c60z ?_;refine c230z ?_;exact .ret (.ex (hf:=t2) (hq:=by rfl))
end
section
attribute [local go_sem] sz_1
variable {vars:List BA}
theorem c_ref1 {e:Frm}(hl:s.l.length<1000000)(t:Int){n:Int}(hf:bP s.l x=some ⟨y,2,n⟩)(hn:0≤n∧n<s.p.mutexes.length)(hz:0<(s.p.mutexes.getD n.toNat v8).size)(hv:∀x∈vars,∃v,bP s.l x=some v∧(v.kind=1∨v.kind=4)){d:Nat}{a:Ex}(ha:GE vars d a):CB 169 [.ptr e.k 0 0,.agg [.str x,.vec 1 (s9 a)],.int .i64 t] (hT e (aF e.k s) s.code s.sites) (.agg [.bool false,.int .i64 n,.vec 1 (s9 (fV s.l a))]):=by refine .bz Tryz.f169 92 ?_;refine .z ?_;refine c26z ?_;refine c118z ?_;refine c240z ?_;refine c162z ?_;refine .sb ?_;refine c9z ?_;refine .c6 [0,2,4,6,7,9] ?_;refine .s ?_;refine .k 8 [(3,63)] ?_;refine .n ?_;refine .F ?_;refine c84z ?_;refine .k 8 [(3,31)] ?_;refine .k 8 [(3,31)] ?_;refine .n [] ?_;refine .c6 [0,2,4,6,9,10] ?_;refine c9z ?_;refine c4z ?_;refine c5z ?_;refine c215z ?_;refine .c6 [0,2,4,6,9,11] ?_;refine c40z ?_;refine c33z ?_;refine c64z ?_;refine c166z ?_;refine .cn [true] [512,0] [_] rfl rfl (by simp only[kQ,and_true,List.cons_append,List.nil_append];exact gC (Mr hl t hv ha _)) ?_;refine c82z ?_;refine c100z ?_;refine c53z ?_;change c8 ..;refine .c6 [0,2,4,6,9,11] ?_;refine .rz ?_;refine c43z ?_;refine c230z ?_;exact .ret (.ex (hf:=t2) (hq:=by rfl))
end
variable {vars:List BA}
theorem c_refL {e:Frm}(hl:s.l.length<1000000)(t:Int){E:Env}{c:Ctx}(sc:SC E c vars s.l)(hE:E.mutexes=s.p.mutexes)(hc:c.nm=s.p.mutexes.length){r:Rf}(g:GR E vars r):CB 169 [.ptr e.k 0 0,.agg [.str r.name,.vec r.idx.length (n4 r.idx)],.int .i64 t] (hT e (aF e.k s) s.code s.sites) (.agg (H9 (rH s.l r))):=by
  obtain ⟨x,idx⟩:=r;rcases g with ⟨m,hm,hn,⟨hz,a,hi,ha⟩ | ⟨hz,hi⟩⟩ | ⟨p,hp,hmu,hn,hi⟩
  · simp only at hn hi
    subst hn hi;obtain ⟨v,h1,h2,h3,h4,h5⟩:=sc.mx m hm;obtain ⟨y,k,n⟩:=v;simp only at h2 h3 h4 h5;subst h2;rw[hE]at h5;have:=c_ref1 (e:=e) hl t h1 ⟨h3,by omega⟩ (by rw[h5];exact hz) sc.var ha;simp only[rH,eE h1,H9,List.map_cons,List.map_nil,List.length_cons,List.length_nil,n4,List.flatMap_cons,List.flatMap_nil,List.append_nil];exact this
  · simp only at hn hi
    subst hn hi;obtain ⟨v,h1,h2,h3,h4,h5⟩:=sc.mx m hm;obtain ⟨y,k,n⟩:=v;simp only at h2 h3 h4 h5;subst h2;rw[hE]at h5;have:=c_ref2 (e:=e) hl t h1 ⟨h3,by omega⟩ (by rw[h5];exact hz);simp only[rH,eE h1];exact this
  · simp only at hn hi
    subst hn hi;obtain ⟨v,h1,h2,h3,h4⟩:=sc.pm p hp hmu;obtain ⟨y,k,n⟩:=v;simp only at h2 h3 h4;subst h2;have:=c_ref5 (e:=e) hl t h1;simp only[rH,eE h1];exact this
end Go.Proofs.YtonbocmibeikmaaGreat
end
