/- My own texts, put together by a program of mine. -/
import Derived.Test.YtonbocmibeikmaaGreatRS2
set_option linter.unusedSimpArgs false
set_option linter.unusedVariables false
set_option maxRecDepth 100000
set_option maxHeartbeats 4000000
section
namespace Go.Proofs.YtonbocmibeikmaaGreat
open Go.Ab Go.Un
structure bG (β:Nat)(L:List Int)(n:Nat)(S:Int→c7):Prop where
  get:∀I,(S I)[β]?=some ⟨0,false,118,2,[.vec L.length (g6 L),.int .i64 I],0⟩
  set:∀I k,(S I).set β ⟨0,false,118,2,[.vec L.length (g6 L),.int .i64 k],0⟩=S k
  len:∀I,(S I).length=n
section
variable {β n:Nat}{L:List Int}{S:Int→c7}
theorem bG.lt (F:bG β L n S):β<n:=by have h:=F.get 0;have:=(List.getElem?_eq_some_iff.1 h).1;rw[F.len]at this;exact this
theorem bG.Li (F:bG β L n S)(I:Int)(l:c7):(S I++l)[β]?=some ⟨0,false,118,2,[.vec L.length (g6 L),.int .i64 I],0⟩:=by rw[List.getElem?_append_left (by rw[F.len];exact F.lt)];exact F.get I
theorem bG.Lj (F:bG β L n S)(I k:Int)(l:c7):(S I++l).set β ⟨0,false,118,2,[.vec L.length (g6 L),.int .i64 k],0⟩=S k++l:=by rw[List.set_append_left _ _ (by rw[F.len];exact F.lt),F.set]
theorem bG.Lk (F:bG β L n S)(I:Int)(l:c7)(k:Nat):(S I++l)[n+k]?=l[k]?:=by rw[List.getElem?_append_right (by rw[F.len];omega),F.len,Nat.add_sub_cancel_left]
theorem bG.Ll (F:bG β L n S)(I:Int)(l:c7):(S I++l)[n]?=l[0]?:=by rw[List.getElem?_append_right (by rw[F.len];omega),F.len,Nat.sub_self]
theorem bG.dN (F:bG β L n S)(I:Int)(l:c7)(k:Nat)(b:Blk):(S I++l).set (n+k) b=S I++l.set k b:=by rw[List.set_append_right _ _ (by rw[F.len];omega),F.len,Nat.add_sub_cancel_left]
theorem bG.put0 (F:bG β L n S)(I:Int)(l:c7)(b:Blk):(S I++l).set n b=S I++l.set 0 b:=by rw[List.set_append_right _ _ (by rw[F.len];omega),F.len,Nat.sub_self]
theorem bG.app (F:bG β L n S)(l:c7):bG β L (n+l.length) fun I=>S I++l:=
  ⟨fun I=>F.Li I l,fun I k=>F.Lj I k l,fun I=>by simp only[List.length_append,F.len]⟩
theorem bG.kK (F:bG β L n S)(I J:Int):v5 (S I) (S J):=by
  intro γ b hb;by_cases h:γ=β
  · subst h
    rw[F.get]at hb;cases hb;refine .inr fun x hx=>?_;replace hx:=s7z hx;rcases hx with rfl | rfl
    · exact .vec _ _
    · exact .int _ _
  · rw[←F.set I J,List.getElem?_set_ne (Ne.symm h)]at hb
    exact .inl hb
end
theorem xT {l:List Int}{i:Nat}(h:i<l.length):List.take 1 (List.drop i (g6 l))=[AV.int .i64 (l.getD i 0)]:=by unfold g6;rw[←List.map_drop,←List.map_take,List.drop_eq_getElem_cons h,List.take_succ_cons,List.take_zero];simp[List.getD,h]
def aB (l:List BA):List AV:=l.map AV.str
theorem aF (l:List BA):(aB l).length=l.length:=List.length_map _
theorem rS {l:List BA}{i:Nat}(h:i<l.length):List.take 1 (List.drop i (aB l))=[AV.str (l.getD i ByteArray.empty)]:=by unfold aB;rw[←List.map_drop,←List.map_take,List.drop_eq_getElem_cons h,List.take_succ_cons,List.take_zero];simp[List.getD,h]
theorem kV:((maxLen:Nat):Int)=9223372036854775807:=rfl
theorem J4 {α:Type}{l:List α}:(List.replicate 1 l).flatten=l:=by simp
theorem R3 {α:Type}{l:List α}:(List.replicate 2 l).flatten=l++l:=by simp[List.replicate_succ]
theorem AB {α:Type}{l:List α}:(List.replicate 0 l).flatten=[]:=rfl
theorem AD:(0≤maxLen)=True:=by simp
theorem zZ:(1≤maxLen)=True:=by simp;decide
theorem max2:(2≤maxLen)=True:=by simp;decide
attribute [local go_sem] l8 aF Int.natCast_nonneg Int.natCast_inj List.length_map
variable {h:c7}
theorem mZ (x n:Int)(hn:0<n)(hm:n≤4611686018427387904):CB 27 [.int .i64 x,.int .i64 n] h (.int .i64 (within x n)):=by refine CallA.body (Q:=fun y'=>y'=.int .i64 (within x n)) u9 fn27 rfl ?_;simp only[ntm27,List.length_cons,List.length_nil,Nat.reduceAdd,Nat.reduceSub,List.replicate,List.cons_append,List.nil_append];refine c7z ?_;refine o1.pre 1 t69 ?_;refine c6z ?_;refine c7z ?_;refine o1.pre 8 t69 ?_;refine c68z ?_;refine Ends.mk (by simp only[res27,wZ,jU,lP];first | rfl | (simp +decide (maxSteps:=2000000) (disch:=omega) only [go_sem,Nat.reduceBEq,Nat.reduceAdd,Nat.reduceSub,Nat.reduceLeDiff,Nat.reduceMul,reduceIte,reduceCtorEq,Int.reduceNeg,Int.reduceToNat,Nat.reduceLT,Int.reduceLE,Int.reduceLT,Int.reduceAdd,Int.reduceSub,Int.reduceMul,wrap64 (kU hn hm).1 (kU hn hm).2,show n≠0 from by omega,show (n=0)=False from by simp;omega];rfl)) ?_;exact ⟨[],_,(List.append_nil _).symm,t43,by rfl⟩
section
attribute [local go_sem] tV dY
theorem c_cut (L:List Int)(n:Nat)(hL:L.length<9223372036854775807):CB 73 [.vec L.length (g6 L),.int .i64 (n:Int)] h (.vec (L.take n).length (g6 (L.take n))):=by
  refine .bz Tryz.f73 13 ?_;refine c89z ?_;refine u2z ?_ ?_
  ·intro e1 qe1;refine c24z ?_;exact ⟨[],_,(List.append_nil _).symm,t43,t138⟩
  intro e1 qe1;refine .sk ?_;refine c24z ?_;exact ⟨[],_,(List.append_nil _).symm,t43,t138⟩
end
def AE:cX:=⟨[[],[0],[0,1],[0,1,2],[],[4],[4,5],[4,5,6],[4,5,6,7],[0,1,2,3,4,5,6,7,8]],[false,false,false,false,false,false,false,false,false,false]⟩
theorem HY (i:Nat):AE.isE i=[false,false,false,false,false,false,false,false,false,false].getD i false:=rfl
def AF:cX:=⟨[[],[0],[0,1],[0,1,2],[],[4],[4,5],[4,5,6],[4,5,6,7],[0,1,2,3,4,5,6,7,8],[0,1,2,3,4,5,6,7,8,9],[],[0,1,2,3,4,5,6,7,8,9,10,11],[0,1,2,3,4,5,6,7,8,9,10,11,12]],[false,false,false,false,false,false,false,false,false,false,false,false,false,false]⟩
theorem J5 (i:Nat):AF.isE i=[false,false,false,false,false,false,false,false,false,false,false,false,false,false].getD i false:=rfl
variable {N:Nat}
theorem J6 {β:Nat}{L:List Int}{S:Int→c7}(F:bG β L N S)(I n:Int)(hI:OkI L I)(hL:L.length<4611686018427387904)(hn:0<n)(hm:n≤4611686018427387904):CH 75 [.ptr β 0 0,.int .i64 n] (S I) (.int .i64 (c4 L I n).1) (S (c4 L I n).2):=by
  refine CallA.GU u9 fn75 rfl ?_;simp only[ntm75,List.length_cons,List.length_nil,Nat.reduceAdd,Nat.reduceSub,List.replicate,List.cons_append,List.nil_append];have hI0:=hI.1;have hI1:=hI.2;refine c7z ?_;refine o1.pre 1 t48 ?_;refine c145z ?_;refine c8.seq ?_;refine c8.OQ u9 AE (by kernel_rfl) (by kernel_rfl) ?_;refine iR.pre 10 (by simp (maxSteps:=2000000) (disch:=omega) only [go_sem,Nat.reduceBEq,Nat.reduceAdd,Nat.reduceSub,Nat.reduceLeDiff,Nat.reduceMul,reduceIte,reduceCtorEq,Int.reduceNeg,Int.reduceToNat,Nat.reduceLT,Int.reduceLE,Int.reduceLT,Int.reduceAdd,Int.reduceSub,Int.reduceMul,F.get,F.set,F.len,wrap64,xT,Int.add_sub_cancel,if_pos,if_neg,HY];rfl) ?_;show _;change c8 _ _ _ _ _;refine c8.split 14 rfl (fun e1=>?_) (fun e1=>?_)
  · try simp only[e1]
    have qe1:=e1;try replace qe1:=s9z qe1
    refine c8.zB rfl ?_;refine c7z ?_;refine o1.pre 1 t48 ?_;refine c68z ?_;refine Ends.mk (by simp only[YT,wZ,jU,lP];first | rfl | (simp (maxSteps:=2000000) (disch:=omega) only [go_sem,Nat.reduceBEq,Nat.reduceAdd,Nat.reduceSub,Nat.reduceLeDiff,Nat.reduceMul,reduceIte,reduceCtorEq,Int.reduceNeg,Int.reduceToNat,Nat.reduceLT,Int.reduceLE,Int.reduceLT,Int.reduceAdd,Int.reduceSub,Int.reduceMul,F.get,F.set,F.len,wrap64,xT,Int.add_sub_cancel,if_pos,if_neg];rfl)) ?_;exact ⟨_,[],_,(List.append_nil _).symm,t40,F.kK _ _,by first | rfl | skip,t140⟩
  · try simp only[e1]
    have qe1:=e1;try replace qe1:=s9z qe1
    refine c190z ?_;refine o1.pre 8 t48 ?_;refine c145z ?_;refine c8.OQ u9 AF (by kernel_rfl) (by kernel_rfl) ?_;refine iR.pre 12 t76 ?_;refine iR.call rfl rfl rfl hb27 (mZ _ _ (by omega) (by omega)) ?_;refine iR.pre 1 t76 ?_;show _;change c8 _ _ _ _ _;refine c8.ret ?_;refine Ends.mk (by simp only[YT,wZ,jU,lP];first | rfl | (simp (maxSteps:=2000000) (disch:=omega) only [go_sem,Nat.reduceBEq,Nat.reduceAdd,Nat.reduceSub,Nat.reduceLeDiff,Nat.reduceMul,reduceIte,reduceCtorEq,Int.reduceNeg,Int.reduceToNat,Nat.reduceLT,Int.reduceLE,Int.reduceLT,Int.reduceAdd,Int.reduceSub,Int.reduceMul,F.get,F.set,F.len,wrap64,xT,Int.add_sub_cancel,if_pos,if_neg,J5];rfl)) ?_;exact ⟨_,[],_,(List.append_nil _).symm,t40,F.kK _ _,by first | rfl | skip,t140⟩
theorem mH {β:Nat}{L:List Int}{S:Int→c7}(F:bG β L N S)(l:c7)(I n:Int)(hI:OkI L I)(hL:L.length<4611686018427387904)(hn:0<n)(hm:n≤4611686018427387904):CH 75 [.ptr β 0 0,.int .i64 n] (S I++l) (.int .i64 (c4 L I n).1) (S (c4 L I n).2++l):=J6 (F.app l) I n hI hL hn hm
theorem num_pos {L:List Int}{I:Int}(h:(c4 L I 8).1=1):Z9 L I=c4 L (c4 L I 8).2 4611686018427387904:=if_pos h
theorem num_neg {L:List Int}{I:Int}(h:¬(c4 L I 8).1=1):Z9 L I=c4 L (c4 L I 8).2 4:=if_neg h
theorem QG {β:Nat}{L:List Int}{S:Int→c7}(F:bG β L N S)(I:Int)(hI:OkI L I)(hL:L.length<4611686018427387904):CH 178 [.ptr β 0 0] (S I) (.int .i64 (Z9 L I).1) (S (Z9 L I).2):=by
  refine CallA.GU u9 fn178 rfl ?_;simp only[ntm178,List.length_cons,List.length_nil,Nat.reduceAdd,Nat.reduceSub,List.replicate,List.cons_append,List.nil_append];have h8:=l7 hI (n:=8) (by omega);refine c7z ?_;refine o1.pre 1 t21 ?_;refine c145z ?_;refine c7z ?_;refine o1.pre 1 t21 ?_;refine o1.s5 rfl rfl rfl wU (J6 F I 8 hI hL (by omega) (by omega)) ?_;refine o1.pre 1 t21 ?_;refine c6z ?_;refine c8.split 5 rfl (fun e1=>?_) (fun e1=>?_)
  · try simp only[e1]
    have qe1:=e1;try replace qe1:=s9z qe1
    refine c8.zB rfl ?_;refine c7z ?_;refine o1.pre 1 t21 ?_;refine o1.s5 rfl rfl rfl wU (J6 F _ _ h8.2.2 hL (by omega) (by omega)) ?_;refine o1.pre 1 t21 ?_;refine c68z ?_;refine Ends.mk t80 ?_;exact ⟨_,[],_,(List.append_nil _).symm,t40,F.kK _ _,by first | rfl | skip,t154⟩
  · try simp only[e1]
    have qe1:=e1;try replace qe1:=s9z qe1
    refine c190z ?_;refine o1.pre 1 t21 ?_;refine o1.s5 rfl rfl rfl wU (J6 F _ _ h8.2.2 hL (by omega) (by omega)) ?_;refine o1.pre 1 t21 ?_;refine c68z ?_;refine Ends.mk t80 ?_;exact ⟨_,[],_,(List.append_nil _).symm,t40,F.kK _ _,by first | rfl | skip,t154⟩
theorem pO {β:Nat}{L:List Int}{S:Int→c7}(F:bG β L N S)(l:c7)(I:Int)(hI:OkI L I)(hL:L.length<4611686018427387904):CH 178 [.ptr β 0 0] (S I++l) (.int .i64 (Z9 L I).1) (S (Z9 L I).2++l):=QG (F.app l) I hI hL
variable {a:Ex}
theorem QH {l:List AV}:List.take 4 (s8 a++l)=s8 a:=List.take_left' (o2 a)
theorem QI {l:List AV}:List.drop 8 (s8 a++l)=List.drop 4 l:=by rw[List.drop_append,o2,List.drop_of_length_le (by rw[o2];omega)];rfl
theorem xU {α γ:Type}{f:α→Option γ}{l l2:List α}{r r2:List γ}(h:r6 f l=some r)(h2:r6 f l2=some r2):r6 f (l++l2)=some (r++r2):=by
  induction l generalizing r with
  | nil=>cases h;exact h2
  | cons x l ih=>
    simp only[r6,List.cons_append]at h ⊢;cases hx:f x with
    | none=>simp only[hx]at h;cases h
    | some y=>
      simp only[hx]at h;cases hl:r6 f l with
      | none=>simp only[hl]at h;cases h
      | some ys=>
        simp only[hl,Option.some.injEq]at h;subst h;simp only[ih hl,List.cons_append]
theorem DL {n d:Nat}(a:Ex):r6 (lK n h (d+1)) (s8 a)=some (s8 a):=by rw[bN];rfl
theorem HZ {n d:Nat}(a b:Ex):r6 (lK n h (d+1)) (s8 a++s8 b)=some (s8 a++s8 b):=xU (DL a) (DL b)
theorem fY:List.take 4 (s8 a)=s8 a:=List.take_of_length_le (by rw[o2];omega)
theorem IA {b:Ex}:List.take 8 (s8 a++s8 b)=s8 a++s8 b:=List.take_of_length_le (by simp[o2])
theorem R4 {b:Ex}:(s8 a++s8 b).length=8:=by simp[o2]
theorem c_expr0 {β:Nat}{L:List Int}{S:Int→c7}(F:bG β L N S)(I:Int)(hI:OkI L I)(hL:L.length<4611686018427387904)(names:List BA)(hN:names.length<1000):CH 158 [.ptr β 0 0,.vec names.length (aB names),.int .i64 0] (S I) (.agg (s8 (dJ L names 0 I).1)) (S (dJ L names 0 I).2):=by
  refine CallA.GU u9 fn158 rfl ?_;simp only[VN,List.length_cons,List.length_nil,Nat.reduceAdd,Nat.reduceSub,List.replicate,List.cons_append,List.nil_append];have h10:=l7 hI (n:=10) (by omega);have h2:=l7 h10.2.2 (n:=2) (by omega);refine c7z ?_;refine o1.pre 1 t4 ?_;refine c6z ?_;refine c7z ?_;refine o1.pre 1 t4 ?_;refine o1.s5 rfl rfl rfl wU (mH F _ I 10 hI hL (by omega) (by omega)) ?_;refine o1.pre 1 t4 ?_;refine c145z ?_;refine c8.block ?_;refine c7z ?_;refine o1.pre 3 t4 ?_;refine o1.split 13 rfl (fun e1=>?_) (fun e1=>?_)
  · try simp only[e1]
    have qe1:=e1;try replace qe1:=s9z qe1
    refine o1.pre 4 t4 ?_;refine c6z ?_;refine c241z ?_;refine c7z ?_;refine o1.pre 4 t4 ?_;refine o1.split 20 rfl (fun e2=>?_) (fun e2=>?_)
    · try simp only[e2]
      have qe2:=e2;try replace qe2:=s9z qe2
      refine o1.pre 1 t4 ?_;refine o1.s5 rfl rfl rfl wU (mH F _ _ 2 h10.2.2 hL (by omega) (by omega)) ?_;refine o1.pre 2 t4 ?_;refine c6z ?_;refine c8.split 24 rfl (fun e3=>?_) (fun e3=>?_)
      · try simp only[e3]
        have qe3:=e3;try replace qe3:=s9z qe3
        refine c241z ?_;have hn:=l7 h2.2.2 (n:=(names.length:Int)) (by omega);refine c8.region u9 ?_;refine o1.pre 4 t4 ?_;refine o1.s5 rfl rfl rfl wU (mH F _ _ _ h2.2.2 hL (by omega) (by omega)) ?_;refine o1.pre 4 t4 ?_;refine c68z ?_;refine Ends.mk t36 ?_;exact ⟨S _,_,_,rfl,t40,F.kK _ _,t8,t58⟩
      · try simp only[e3]
        have qe3:=e3;try replace qe3:=s9z qe3
        refine c190z ?_;refine o1.pre 1 t4 ?_;refine o1.s5 rfl rfl rfl PO (pO F _ _ t152 hL) ?_;refine o1.pre 2 t4 ?_;refine c68z ?_;refine Ends.mk t36 ?_;exact ⟨S _,_,_,rfl,t40,F.kK _ _,t8,t58⟩
    · try simp only[e2]
      have qe2:=e2;try replace qe2:=s9z qe2
      refine o1.pre 4 t4 ?_;refine c6z ?_;refine c190z ?_;refine o1.pre 1 t4 ?_;refine o1.s5 rfl rfl rfl PO (pO F _ _ t152 hL) ?_;refine o1.pre 2 t4 ?_;refine c68z ?_;refine Ends.mk t36 ?_;exact ⟨S _,_,_,rfl,t40,F.kK _ _,t8,t58⟩
  · exfalso;first | cases e1 | (simp at e1)
theorem c_exprS {β:Nat}{L:List Int}{S:Int→c7}(F:bG β L N S)(I:Int)(hI:OkI L I)(hL:L.length<4611686018427387904)(names:List BA)(hN:names.length<1000)(d:Nat)(hd:d<1000)(ih:∀{N:Nat} {S:Int→c7} (F:bG β L N S) (I:Int),OkI L I→CH 158 [.ptr β 0 0,.vec names.length (aB names),.int .i64 (d:Int)] (S I) (.agg (s8 (dJ L names d I).1)) (S (dJ L names d I).2)):CH 158 [.ptr β 0 0,.vec names.length (aB names),.int .i64 ((d+1:Nat):Int)] (S I) (.agg (s8 (dJ L names (d+1) I).1)) (S (dJ L names (d+1) I).2):=by
  refine CallA.GU u9 fn158 rfl ?_;simp only[VN,List.length_cons,List.length_nil,Nat.reduceAdd,Nat.reduceSub,List.replicate,List.cons_append,List.nil_append];have h10:=l7 hI (n:=10) (by omega);have h2:=l7 h10.2.2 (n:=2) (by omega);have h13:=l7 h10.2.2 (n:=13) (by omega);have ht:0≤(c4 L I 10).1.tmod 2∧(c4 L I 10).1.tmod 2<2:=⟨Int.tmod_nonneg _ h10.1,Int.tmod_lt_of_pos _ (by omega)⟩;refine c7z ?_;refine o1.pre 1 t0 ?_;refine c6z ?_;refine c7z ?_;refine o1.pre 1 t0 ?_;refine o1.s5 rfl rfl rfl wU (mH F _ I 10 hI hL (by omega) (by omega)) ?_;refine o1.pre 1 t0 ?_;refine c145z ?_;refine c8.block ?_;refine c7z ?_;refine o1.pre 3 t0 ?_;refine o1.split 13 rfl (fun e1=>?_) (fun e1=>?_)
  · exfalso;first | (simp only[beq_iff_eq]at e1;omega) | (simp at e1)
  · try simp only[e1]
    have qe1:=e1;try replace qe1:=s9z qe1
    refine o1.pre 4 t0 ?_;refine c6z ?_;refine c8.split 10 rfl (fun e2=>?_) (fun e2=>?_)
    · try simp only[e2]
      have qe2:=e2;try replace qe2:=s9z qe2
      refine c241z ?_;refine c7z ?_;refine o1.pre 4 t0 ?_;refine o1.split 20 rfl (fun e3=>?_) (fun e3=>?_)
      · try simp only[e3]
        have qe3:=e3;try replace qe3:=s9z qe3
        refine o1.pre 1 t0 ?_;refine o1.s5 rfl rfl rfl wU (mH F _ _ 2 h10.2.2 hL (by omega) (by omega)) ?_;refine o1.pre 2 t0 ?_;refine c6z ?_;refine c8.split 24 rfl (fun e4=>?_) (fun e4=>?_)
        · try simp only[e4]
          have qe4:=e4;try replace qe4:=s9z qe4
          refine c241z ?_;have hn:=l7 h2.2.2 (n:=(names.length:Int)) (by omega);refine c8.region u9 ?_;refine o1.pre 4 t0 ?_;refine o1.s5 rfl rfl rfl wU (mH F _ _ _ h2.2.2 hL (by omega) (by omega)) ?_;refine o1.pre 4 t0 ?_;refine c235z ?_;exact ⟨S _,_,_,rfl,t40,F.kK _ _,t8,t20⟩
        · try simp only[e4]
          have qe4:=e4;try replace qe4:=s9z qe4
          refine c190z ?_;refine o1.pre 1 t0 ?_;refine o1.s5 rfl rfl rfl PO (pO F _ _ t152 hL) ?_;refine o1.pre 2 t0 ?_;refine c235z ?_;exact ⟨S _,_,_,rfl,t40,F.kK _ _,t8,t20⟩
      · try simp only[e3]
        have qe3:=e3;try replace qe3:=s9z qe3
        refine o1.pre 4 t0 ?_;refine c6z ?_;refine c190z ?_;refine o1.pre 1 t0 ?_;refine o1.s5 rfl rfl rfl PO (pO F _ _ t152 hL) ?_;refine o1.pre 2 t0 ?_;refine c235z ?_;exact ⟨S _,_,_,rfl,t40,F.kK _ _,t8,t20⟩
    · try simp only[e2]
      have qe2:=e2;try replace qe2:=s9z qe2
      refine c8.CO rfl ?_;refine c7z ?_;refine o1.pre 3 t0 ?_;refine c6z ?_;refine c8.split 36 rfl (fun e5=>?_) (fun e5=>?_)
      · try simp only[e5]
        have qe5:=e5;try replace qe5:=s9z qe5
        refine c8.zB rfl ?_;refine c7z ?_;refine o1.pre 7 t0 ?_;refine o1.s5 rfl rfl rfl PN (ih (F.app _) _ h10.2.2) ?_;refine o1.pre 3 t0 ?_;refine c235z ?_;exact ⟨S _,_,_,rfl,t40,F.kK _ _,t8,t20⟩
      · try simp only[e5]
        have qe5:=e5;try replace qe5:=s9z qe5
        refine c190z ?_;refine o1.pre 1 t0 ?_;refine o1.s5 rfl rfl rfl wU (mH F _ _ 13 h10.2.2 hL (by omega) (by omega)) ?_;refine o1.pre 5 t0 ?_;refine o1.s5 rfl rfl rfl PN (ih (F.app _) _ h13.2.2) ?_;refine o1.pre 4 t0 ?_;refine o1.s5 rfl rfl rfl PN (ih (F.app _) _ (oE h13.2.2).2) ?_;refine o1.pre 3 t0 ?_;refine c235z ?_;exact ⟨S _,_,_,rfl,t40,F.kK _ _,t8,t20⟩
theorem VY {β:Nat}{L:List Int}(hL:L.length<4611686018427387904)(names:List BA)(hN:names.length<1000):∀(d:Nat),d<1000→∀{N:Nat} {S:Int→c7} (F:bG β L N S) (I:Int),OkI L I→CH 158 [.ptr β 0 0,.vec names.length (aB names),.int .i64 (d:Int)] (S I) (.agg (s8 (dJ L names d I).1)) (S (dJ L names d I).2)
  | 0,_,_,_,F,I,hI=>c_expr0 F I hI hL names hN
  | d+1,hd,_,_,F,I,hI=>c_exprS F I hI hL names hN d (by omega) fun F I hI=>VY hL names hN d (by omega) F I hI
end Go.Proofs.YtonbocmibeikmaaGreat
end
section
namespace Go.Un
open Go.Ab
variable {c:UInt8}
theorem QJ (h:isL c=true):isW c=true:=by simp[isW,h]
theorem isW_D (h:isD c=true):isW c=true:=by simp[isW,h]
theorem R5 (h:wV c=true):isW c=false:=by simp only[wV,Bool.or_eq_true,beq_iff_eq]at h;simp only[isW,isL,isD,Bool.or_eq_false_iff,Bool.and_eq_false_iff,decide_eq_false_iff_not];omega
theorem VZ (h:isL c=true):isD c=false:=by simp only[isL,Bool.or_eq_true,Bool.and_eq_true,decide_eq_true_eq]at h;simp only[isD,Bool.and_eq_false_iff,decide_eq_false_iff_not];omega
theorem vC (h:c∈PS):wV c=false∧isL c=false∧isD c=false:=by simp only[PS,List.mem_cons,List.not_mem_nil,or_false]at h;rcases h with rfl | rfl | rfl | rfl | rfl | rfl | rfl | rfl | rfl | rfl | rfl | rfl | rfl | rfl | rfl | rfl | rfl<;>decide
theorem vD {d:UInt8}(h:(c,d)∈DD):wV c=false∧isL c=false∧isD c=false:=by simp only[DD,List.mem_cons,List.not_mem_nil,or_false,Prod.mk.injEq]at h;rcases h with ⟨rfl,_⟩ | ⟨rfl,_⟩ | ⟨rfl,_⟩ | ⟨rfl,_⟩ | ⟨rfl,_⟩ | ⟨rfl,_⟩<;>decide
variable {s:Bs}{n:Nat}
theorem LX.sp_inv (h:LX (c::s) n)(hc:wV c=true):LX s n:=by
 have hw:=R5 hc;generalize e:c::s=t at h;cases h with
 | nil=>cases e
 | space _ h=>cases e;exact h
 | word hc' _ _ _ _=>cases e;rw[QJ hc']at hw;cases hw
 | num hc' _ _ _ _=>cases e;rw[isW_D hc']at hw;cases hw
 | one hc' _ _=>cases e;rw[(vC hc').1]at hc;cases hc
 | two hc' _=>cases e;rw[(vD hc').1]at hc;cases hc
theorem LX.QK (h:LX (c::s) n)(hc:isL c=true):∃w r m,s=w++r∧(∀d∈w,isW d=true)∧w.length<16∧NW r∧n=m+1∧LX r m:=by
 generalize e:c::s=t at h;cases h with
 | nil=>cases e
 | space hc' h=>cases e;have:=R5 hc';rw[QJ hc]at this;cases this
 | word hc' h1 h2 h3 h4=>cases e;exact ⟨_,_,_,rfl,h1,h2,h3,rfl,h4⟩
 | num hc' _ _ _ _=>cases e;rw[VZ hc]at hc';cases hc'
 | one hc' _ _=>cases e;rw[(vC hc').2.1]at hc;cases hc
 | two hc' _=>cases e;rw[(vD hc').2.1]at hc;cases hc
theorem LX.num_inv (h:LX (c::s) n)(hc:isD c=true):∃w r m,s=w++r∧(∀d∈w,isD d=true)∧wW (c::w)<9223372036854775808∧NW r∧n=m+1∧LX r m:=by
 generalize e:c::s=t at h;cases h with
 | nil=>cases e
 | space hc' h=>cases e;have:=R5 hc';rw[isW_D hc]at this;cases this
 | word hc' h1 h2 h3 h4=>cases e;rw[VZ hc']at hc;cases hc
 | num hc' h1 h2 h3 h4=>cases e;exact ⟨_,_,_,rfl,h1,h2,h3,rfl,h4⟩
 | one hc' _ _=>cases e;rw[(vC hc').2.2]at hc;cases hc
 | two hc' _=>cases e;rw[(vD hc').2.2]at hc;cases hc
theorem LX.J7 (h:LX (c::s) n)(h1:wV c=false)(h2:isL c=false)(h3:isD c=false):(∃d r m,s=d::r∧(c,d)∈DD∧n=m+1∧LX r m)∨(∃m,c∈PS∧(∀d,s.head?=some d→(c,d)∉DD∧(c,d)≠(47,47))∧n=m+1∧LX s m):=by
 generalize e:c::s=t at h;cases h with
 | nil=>cases e
 | space hc' h=>cases e;rw[h1]at hc';cases hc'
 | word hc' _ _ _ _=>cases e;rw[h2]at hc';cases hc'
 | num hc' _ _ _ _=>cases e;rw[h3]at hc';cases hc'
 | one hc' h5 h6=>cases e;exact .inr ⟨_,hc',h5,rfl,h6⟩
 | two hc' h6=>cases e;exact .inl ⟨_,_,_,rfl,hc',rfl,h6⟩
def bat (L:Bs)(i:Nat):UInt8:=L.getD i 0
variable {L:Bs}{i:Nat}
theorem bY (h:i<L.length):L.drop i=bat L i::L.drop (i+1):=by rw[List.drop_eq_getElem_cons h];simp[bat,List.getD,h]
variable {k:Nat}
theorem QL {u v:Bs}(h:L.drop i=u++v)(hk:k<u.length):bat L (i+k)=u.getD k 0:=by
 have:(L.drop i).getD k 0=bat L (i+k):=by simp[bat,List.getD]
 rw[←this,h];simp[List.getD,List.getElem?_append_left hk]
theorem A0 {u v:Bs}(h:L.drop i=u++v):L.drop (i+u.length)=v:=by rw[←List.drop_drop,h,List.drop_left]
theorem LX.DM (h:LX (L.drop i) n)(hi:i+1<L.length)(h1:(bat L i).toNat=47)(h2:(bat L (i+1)).toNat=47):False:=by
 have e1:bat L i=47:=UInt8.toNat_inj.1 h1;have e2:bat L (i+1)=47:=UInt8.toNat_inj.1 h2;rw[bY (by omega),e1]at h;rcases h.J7 (by decide) (by decide) (by decide) with ⟨d,r,m,e,hm,_⟩ | ⟨m,_,h5,_⟩
 ·rw[bY hi,e2]at e;cases e;exact absurd hm (by decide)
 ·exact (h5 47 (by rw[bY hi,e2];rfl)).2 rfl
theorem LX.IB (h:LX (L.drop i) n)(hi:i<L.length)(hc:wV (bat L i)=true):LX (L.drop (i+1)) n:=by rw[bY hi]at h;exact h.sp_inv hc
structure Span (L:Bs)(p:UInt8→Bool)(i e:Nat):Prop where
 lt:i<e
 le:e≤L.length
 all:∀j,i≤j→j<e→p (bat L j)=true
 stop:e<L.length→p (bat L e)=false
theorem Span.of {p:UInt8→Bool}{w r:Bs}(hd:L.drop i=c::w++r)(hc:p c=true)(hw:∀d∈w,p d=true)(hr:∀d,r.head?=some d→p d=false):Span L p i (i+(w.length+1)):=by
 have hl:(L.drop i).length=w.length+1+r.length:=by rw[hd];simp;omega
 rw[List.length_drop]at hl;have hrr:L.drop (i+(w.length+1))=r:=by have:=A0 (u:=c::w) (v:=r) (by rw[hd]);simpa using this
 refine ⟨by omega,by omega,fun j h1 h2=>?_,fun h=>?_⟩
 ·obtain ⟨k,rfl⟩:∃k,j=i+k:=⟨j-i,by omega⟩;rw[QL (u:=c::w) (v:=r) hd t55];cases k with
  | zero=>exact hc
  | succ k=>
   have hk:k<w.length:=by omega
   have:(c::w).getD (k+1) 0=w[k]:=by simp[List.getD,hk]
   rw[this];exact hw _ (List.getElem_mem hk)
 ·refine hr _ ?_;rw[←hrr,bY h];rfl
theorem LX.IC (h:LX (L.drop i) n)(hi:i<L.length)(hc:isL (bat L i)=true):∃e m,Span L isW i e∧e≤i+16∧n=m+1∧LX (L.drop e) m:=by
 rw[bY hi]at h;obtain ⟨w,r,m,e,h1,h2,h3,rfl,h4⟩:=h.QK hc;have hd:L.drop i=bat L i::w++r:=by rw[bY hi,e];rfl
 refine ⟨_,m,Span.of hd (QJ hc) h1 h3,by omega,rfl,?_⟩;have:=A0 (u:=bat L i::w) (v:=r) (by rw[hd]);rw[List.length_cons]at this;rw[this];exact h4
theorem LX.QM (h:LX (L.drop i) n)(hi:i<L.length)(hc:isD (bat L i)=true):∃e m,Span L isD i e∧wW ((L.drop i).take (e-i))<9223372036854775808∧n=m+1∧LX (L.drop e) m:=by
 rw[bY hi]at h;obtain ⟨w,r,m,e,h1,h2,h3,rfl,h4⟩:=h.num_inv hc;have hd:L.drop i=bat L i::w++r:=by rw[bY hi,e];rfl
 refine ⟨_,m,Span.of hd hc h1 fun d hd=>?_,?_,rfl,?_⟩
 ·have:=h3 d hd;simp only[isW,Bool.or_eq_false_iff]at this;exact this.2
 ·rw[show i+(w.length+1)-i=(bat L i::w).length from by simp,hd,List.take_left];exact h2
 ·have:=A0 (u:=bat L i::w) (v:=r) (by rw[hd]);rw[List.length_cons]at this;rw[this];exact h4
def sgn (L:Bs)(i:Nat):Nat:=if i+1<L.length∧(bat L i,bat L (i+1))∈DD then 2 else if bat L i∈PS then 1 else 0
theorem LX.ID (h:LX (L.drop i) n)(hi:i<L.length)(h1:wV (bat L i)=false)(h2:isL (bat L i)=false)(h3:isD (bat L i)=false):0<sgn L i∧i+sgn L i≤L.length∧∃m,n=m+1∧LX (L.drop (i+sgn L i)) m:=by
 rw[bY hi]at h;rcases h.J7 h1 h2 h3 with ⟨d,r,m,e,hm,rfl,h4⟩ | ⟨m,hm,h5,rfl,h4⟩
 ·have hl:(L.drop (i+1)).length=r.length+1:=by rw[e];rfl
  rw[List.length_drop]at hl;have hd:bat L (i+1)=d:=by rw[bY (by omega)]at e;injection e
  have hr:L.drop (i+2)=r:=by rw[bY (by omega)]at e;injection e
  rw[sgn,if_pos ⟨by omega,by rw[hd];exact hm⟩];exact ⟨by omega,by omega,m,rfl,by rw[hr];exact h4⟩
 ·rw[sgn,if_neg (fun hx=>(h5 (bat L (i+1)) (by rw[bY hx.1];rfl)).1 hx.2),if_pos hm];exact ⟨by omega,by omega,m,rfl,h4⟩
variable {l:Bs}
theorem J8 (h:k<l.length):wW (l.take (k+1))=10*wW (l.take k)+((bat l k).toNat-48):=by rw[List.take_succ_eq_append_getElem h,I9];simp[bat,List.getD,h]
theorem IE:∀{k m:Nat},k≤m→wW (l.take k)≤wW (l.take m):=by
 intro k m hm;induction hm with
 | refl=>exact Nat.le_refl _
 | @step m _ ih=>
  by_cases h:m<l.length
  ·rw[J8 h];omega
  ·rw[List.take_of_length_le (i:=m+1) (by omega)];rw[List.take_of_length_le (i:=m) (by omega)]at ih;exact ih
def tF (l:Bs):List AV:=l.map fun c=>.int .u8 (c.toNat:Int)
theorem nA (l:Bs):(tF l).length=l.length:=List.length_map _
theorem read_b (h:i<l.length):List.take 1 (List.drop i (tF l))=[AV.int .u8 ((bat l i).toNat:Int)]:=by unfold tF;rw[←List.map_drop,←List.map_take,List.drop_eq_getElem_cons h,List.take_succ_cons,List.take_zero];simp[bat,List.getD,h]
theorem WA:List.take k (List.drop i (tF l))=tF ((l.drop i).take k):=by unfold tF;rw[List.map_take,List.map_drop]
theorem R6:∀l:Bs,iS (tF l)=some l
 | []=>rfl
 | c::l=>by show (iS (tF l)).map _=_;rw[R6 l];simp
end Go.Un
end
section
namespace Go.Proofs.YtonbocmibeikmaaGreat
open Go.Ab Go.Un
theorem DN {n:Int}(h1:0≤n)(h2:n<256):IntKind.wrap .u8 n=n:=by rw[IntKind.wrap_u8];omega
theorem J9 {f:FuncId}{args:List AV}{s:AV}(ha:args.all (w7 0 9)=true)(r:CallA Tryz.prog cfg f args [] fun y _=>YN y=s)(h:c7):CallA Tryz.prog cfg f args h fun y h'=>y=s∧h'=h:=by intro B φ w cargs i hs hr;have hst:∀k,k<w.heap.size→V9 [] φ w k:=fun k hk=>⟨hk,fun β b hb=>by simp at hb⟩;have i0:Pic cfg.glob w.heap.size [] φ w:=⟨fun β b hb=>by simp at hb,fun β β' b b' hb=>by simp at hb,fun β b hb=>by simp at hb,fun β b hb=>by simp at hb,Nat.le_refl _,fun g=>(i.glob g).mono fun k j hk=>⟨rfl,(hst k hk.1).W0 j⟩⟩;refine (r w.heap.size φ w cargs i0 hs (fun j v x h1 h2=>GM (hr j v x h1 h2) (cY 9 x (List.all_eq_true.1 ha x (List.mem_of_getElem? h2))))).mono fun e w' hp=>?_;obtain ⟨v,y,h',φ',rfl,h1,h2,h3,hq⟩:=hp;have hk:∀k,k<w.heap.size→w'.heap[k]?=w.heap[k]?:=fun k hk=>(h2.kK k (hst k hk)).1;have ev:Ev h φ w h φ w':=⟨h2.os,h2.tape,h2.output,h2.size,fun k hs=>⟨hk k hs.1,Nat.lt_of_lt_of_le hs.1 h2.size,hs.2⟩,fun k j hs=>⟨World.cell?_of_block (hk k hs.1),Nat.lt_of_lt_of_le hs.1 h2.size,hs.2⟩,Nat.le_refl _,fun β b b' e1 e2=>by rw[e1]at e2;cases e2;exact ⟨Nat.le_refl _,fun _=>⟨rfl,rfl,rfl⟩⟩⟩;refine ⟨v,_,h,φ,rfl,⟨fun β b hb hv=>?_,i.inj,i.base,i.virt,Nat.le_trans i.room h2.size,fun g=>ev.O7 (i.glob g)⟩,ev,zI h3,hq,rfl⟩;obtain ⟨cur,q1,q2,q3,q4⟩:=i.blk β b hb hv;exact ⟨cur,(hk _ (Array.getElem?_eq_some_iff.1 q1).1).trans q1,q2,q3,fun j v x a d=>⟨(q4 j v x a d).1,ev.rel (q4 j v x a d).2⟩⟩
def hasB (l:List BA)(s:BA):Bool:=l.any fun x=>x.toList==s.toList
variable {l:List BA}{s:BA}{i:Nat}
theorem has_t (hi:i<l.length)(h:((l.getD i ByteArray.empty).toList==s.toList)=true):hasB l s=true:=List.any_eq_true.2 ⟨_,j7 hi,h⟩
theorem has_f (hi:l.length≤i)(h:∀d,d<i→((l.getD d ByteArray.empty).toList==s.toList)=false):hasB l s=false:=by refine List.any_eq_false.2 fun x hx=>?_;obtain ⟨d,h1,rfl⟩:=bX (d:=ByteArray.empty) hx;rw[h d (by omega)];decide
theorem QN (h:∀d,d<i→((l.getD d ByteArray.empty).toList==s.toList)=false)(e:((l.getD i ByteArray.empty).toList==s.toList)=false):∀d,d<i+1→((l.getD d ByteArray.empty).toList==s.toList)=false:=fun d hd=>by
  by_cases hdi:d=i
  · rw[hdi];exact e
  · exact h d (by omega)
def WB:List BA:=[⟨#[118,97,114]⟩,⟨#[109,117,116,101,120]⟩,⟨#[114,109,117,116,101,120]⟩,⟨#[102,117,110,99]⟩,⟨#[108,111,99,107]⟩,⟨#[117,110,108,111,99,107]⟩,⟨#[103,111]⟩,⟨#[105,102]⟩,⟨#[101,108,115,101]⟩,⟨#[119,104,105,108,101]⟩,⟨#[114,101,116,117,114,110]⟩]
def twoN:List BA:=[⟨#[60,61]⟩,⟨#[62,61]⟩,⟨#[61,61]⟩,⟨#[33,61]⟩,⟨#[38,38]⟩,⟨#[124,124]⟩]
def Lp:List BA:=[⟨#[40]⟩,⟨#[41]⟩,⟨#[123]⟩,⟨#[125]⟩,⟨#[91]⟩,⟨#[93]⟩,⟨#[44]⟩,⟨#[59]⟩,⟨#[61]⟩,⟨#[43]⟩,⟨#[45]⟩,⟨#[42]⟩,⟨#[47]⟩,⟨#[37]⟩,⟨#[60]⟩,⟨#[62]⟩,⟨#[33]⟩]
def tG (s:BA):Bool:=hasB WB s
variable {a:UInt8}
theorem eq2 {x y b:UInt8}:((⟨#[x,y]⟩:BA).toList==(⟨[a,b].toArray⟩:BA).toList)=(decide (a=x)&&decide (b=y)):=by rw[ByteArray.toList_eq,ByteArray.toList_eq];show ([x,y]==[a,b])=_;rw[Bool.eq_iff_iff];simp only[beq_iff_eq,List.cons.injEq,and_true,Bool.and_eq_true,decide_eq_true_eq];exact and_congr eq_comm eq_comm
theorem eq1 {x:UInt8}:((⟨#[x]⟩:BA).toList==(⟨[a].toArray⟩:BA).toList)=decide (a=x):=by rw[ByteArray.toList_eq,ByteArray.toList_eq];show ([x]==[a])=_;rw[Bool.eq_iff_iff];simp only[beq_iff_eq,List.cons.injEq,and_true,decide_eq_true_eq];exact eq_comm
theorem kX {b:UInt8}:hasB twoN ⟨[a,b].toArray⟩=decide ((a,b)∈DD):=by simp only[hasB,twoN,DD,List.any_cons,List.any_nil,eq2,Bool.or_false,List.mem_cons,List.not_mem_nil,or_false,Prod.mk.injEq,Bool.decide_or,Bool.decide_and]
theorem kY:hasB Lp ⟨[a].toArray⟩=decide (a∈PS):=by simp only[hasB,Lp,PS,List.any_cons,List.any_nil,eq1,Bool.or_false,List.mem_cons,List.not_mem_nil,or_false,Bool.decide_or]
variable {L:Bs}
theorem W8 (h:i+1<L.length):(L.drop i).take 2=[bat L i,bat L (i+1)]:=by rw[bY (by omega),bY h];rfl
theorem take_one (h:i<L.length):(L.drop i).take 1=[bat L i]:=by rw[bY h];rfl
theorem str_at (h:i<s.size):s[i]?=some (bat (L8 s) i):=by
  rw[kR]at h;have:s[i]?=s.data.toList[i]?:=by rw[Array.getElem?_toList];rfl
  rw[this];have h2:i<s.data.toList.length:=h;rw[List.getElem?_eq_getElem h2];simp only[bat,L8,List.getD,List.getElem?_eq_getElem h2,Option.getD_some]
theorem name_at (h:isName (L8 s))(hi:i<s.size):isW (bat (L8 s) i)=true∧(i=0→isL (bat (L8 s) i)=true):=by
  obtain ⟨c,w,e,h1,h2,h3⟩:=h;rw[kR,e]at hi;rw[e];cases i with
  | zero=>exact ⟨QJ h1,fun _=>h1⟩
  | succ i=>
    have hi':i<w.length:=by simpa using hi
    refine ⟨?_,fun h=>by omega⟩;have:bat (c::w) (i+1)=w[i]:=by simp[bat,List.getD,hi']
    rw[this];exact h2 _ (List.getElem_mem hi')
theorem eR (h:isName (L8 s)):1≤s.size∧s.size≤16:=by refine ⟨?_,z1 h⟩;obtain ⟨c,w,e,_⟩:=h;rw[kR,e];simp
def skF (L:Bs):Nat→Nat→Nat
  | 0,i=>i
  | f+1,i=>if i<L.length∧wV (bat L i)=true then skF L f (i+1) else i
def sk (L:Bs)(i:Nat):Nat:=skF L (L.length-i) i
theorem vE (h:i<L.length)(hs:wV (bat L i)=true):sk L i=sk L (i+1):=by unfold sk;obtain ⟨f,hf⟩:∃f,L.length-i=f+1:=⟨L.length-i-1,by omega⟩;rw[hf,skF,if_pos ⟨h,hs⟩,show L.length-(i+1)=f from by omega]
theorem IF (h:¬(i<L.length∧wV (bat L i)=true)):sk L i=i:=by
  unfold sk;cases hf:L.length-i with
  | zero=>rfl
  | succ f=>rw[skF,if_neg h]
theorem WD (h:L.length≤i):sk L i=i:=IF fun h'=>by omega
theorem IG (h:wV (bat L i)=false):sk L i=i:=IF fun h'=>by rw[h]at h';cases h'.2
theorem A1 {L:Bs}:∀{f i n:Nat},L.length-i=f→LX (L.drop i) n→i≤L.length→i≤sk L i∧sk L i≤L.length∧LX (L.drop (sk L i)) n∧(sk L i<L.length→wV (bat L (sk L i))=false)
  | 0,i,n,hf,h,hi=>by rw[WD (by omega)];exact ⟨Nat.le_refl _,hi,h,fun h=>by omega⟩
  | f+1,i,n,hf,h,hi=>by
    by_cases hs:wV (bat L i)=true
    · rw[vE (by omega) hs]
      obtain ⟨a,b,c,d⟩:=A1 (f:=f) (i:=i+1) (by omega) (h.IB (by omega) hs) (by omega);exact ⟨by omega,b,c,d⟩
    · rw[IG (by simpa using hs)]
      exact ⟨Nat.le_refl _,hi,h,fun _=>by simpa using hs⟩
variable {c:UInt8}
theorem K0 (h:(c.toNat:Int)=32∨(c.toNat:Int)=9∨(c.toNat:Int)=10∨(c.toNat:Int)=13):wV c=true:=by simp only[wV,Bool.or_eq_true,beq_iff_eq];omega
theorem nosp_of (h1:¬(c.toNat:Int)=32)(h2:¬(c.toNat:Int)=9)(h3:¬(c.toNat:Int)=10)(h4:¬(c.toNat:Int)=13):wV c=false:=by simp only[wV,Bool.or_eq_false_iff,beq_eq_false_iff_ne,ne_eq];omega
variable {e:Nat}
theorem R7 {p:UInt8→Bool}{j:Nat}(h:Span L p i e)(h2:j≤e)(hj:j<L.length)(hp:p (bat L j)=true):j<e:=by
  by_cases he:j=e
  · subst he
    rw[h.stop hj]at hp;cases hp
  · omega
theorem tH {p:UInt8→Bool}{j:Nat}(h:Span L p i e)(h1:i≤j)(h2:j≤e)(hp:j<L.length→p (bat L j)=false):j=e:=by
  by_cases he:j<e
  · have:=h.le
    rw[h.all j h1 he]at hp;cases hp (by omega)
  · omega
theorem valD_nn {l:Bs}(h:i<l.length)(hd:∀d∈l,isD d=true):48≤(bat l i).toNat∧(bat l i).toNat≤57:=by have:=hd (bat l i) (j7 h);simpa only[isD,Bool.and_eq_true,decide_eq_true_eq] using this
theorem tn2:((i:Int)+2).toNat=i+2:=by omega
theorem tn1:((i:Int)+1).toNat=i+1:=by omega
theorem WE:tF [c]=[.int .u8 ((c.toNat:Nat):Int)]:=rfl
theorem takeL {k:Nat}(h:i+k≤L.length):(List.take k (List.drop i L)).length=k:=by rw[List.length_take,List.length_drop];omega
variable {H:c7}{n:Nat}
theorem WG {k:Nat}{cs:List AV}:rd H k (.vec n cs)=some cs:=rfl
theorem spanD (h:Span L isD i e):∀d∈(L.drop i).take (e-i),isD d=true:=by
  intro d hd;obtain ⟨j,hj,rfl⟩:=List.mem_iff_getElem.1 hd;have hj2:j<e-i:=by rw[List.length_take]at hj;omega
  have hle:=h.le;have:=h.all (i+j) (by omega) (by omega);have e2:((L.drop i).take (e-i))[j]=bat L (i+j):=by rw[List.getElem_take,List.getElem_drop];simp[bat,List.getD,show i+j<L.length by omega]
  rw[e2];exact this
attribute [local go_sem] nA aF Int.natCast_nonneg Int.natCast_inj List.length_map wrap64 DN read_b rS tn1 tn2 str_at
variable {h:c7}
theorem A2 (c:UInt8):CB 138 [.int .u8 ((c.toNat:Nat):Int)] h (.bool (isL c)):=by
  refine .bz Tryz.f138 21 ?_;refine c87z ?_;refine .spl 5 rfl rfl (fun e1=>?_) (fun e1=>?_)
  ·try simp only[e1]
   have qe1:=fact e1;refine .k 4 [(2,5)] ?_;refine .spl 9 rfl rfl (fun e2=>?_) (fun e2=>?_)
   ·try simp only[e2]
    have qe2:=fact e2;refine .k 8 [(6,9),(9,12)] ?_;refine c227z ?_;exact ⟨[],_,(List.append_nil _).symm,t43,t41⟩
   try simp only[e2]
   have qe2:=fact e2;refine .k 3 [(6,9)] ?_;refine .spl 12 rfl rfl (fun e3=>?_) (fun e3=>?_)
   ·try simp only[e3]
    have qe3:=fact e3;refine .k 5 [(6,9),(9,12)] ?_;refine .spl 17 rfl rfl (fun e4=>?_) (fun e4=>?_)
    ·try simp only[e4]
     have qe4:=fact e4;refine c227z ?_;exact ⟨[],_,(List.append_nil _).symm,t43,t41⟩
    try simp only[e4]
    have qe4:=fact e4;refine c227z ?_;exact ⟨[],_,(List.append_nil _).symm,t43,t41⟩
   try simp only[e3]
   have qe3:=fact e3;refine .k 8 [(6,9),(9,12),(14,17)] ?_;refine c180z ?_;exact ⟨[],_,(List.append_nil _).symm,t43,t41⟩
  try simp only[e1]
  have qe1:=fact e1;refine .k 7 [(2,5),(6,9)] ?_;refine .spl 12 rfl rfl (fun e5=>?_) (fun e5=>?_)
  ·try simp only[e5]
   have qe5:=fact e5;refine .k 5 [(6,9),(9,12)] ?_;refine .spl 17 rfl rfl (fun e6=>?_) (fun e6=>?_)
   ·try simp only[e6]
    have qe6:=fact e6;refine c227z ?_;exact ⟨[],_,(List.append_nil _).symm,t43,t41⟩
   try simp only[e6]
   have qe6:=fact e6;refine c227z ?_;exact ⟨[],_,(List.append_nil _).symm,t43,t41⟩
  try simp only[e5]
  have qe5:=fact e5;refine .k 8 [(6,9),(9,12),(14,17)] ?_;refine c180z ?_;exact ⟨[],_,(List.append_nil _).symm,t43,t41⟩
theorem A3 (c:UInt8):CB 139 [.int .u8 ((c.toNat:Nat):Int)] h (.bool (isD c)):=by
  refine .bz Tryz.f139 9 ?_;refine c87z ?_;refine .spl 5 rfl rfl (fun e1=>?_) (fun e1=>?_)
  ·try simp only[e1]
   have qe1:=fact e1;refine .m [(2,5)] ?_;refine c3z ?_;exact ⟨[],_,(List.append_nil _).symm,t43,t126⟩
  try simp only[e1]
  have qe1:=fact e1;refine .m [(2,5)] ?_;refine c3z ?_;exact ⟨[],_,(List.append_nil _).symm,t43,t126⟩
section
attribute [local go_sem] lW
theorem c_has (l:List BA)(s:BA)(hl:l.length<1000):CB 170 [.vec l.length (aB l),.str s] h (.bool (hasB l s)):=by
  refine .bz Tryz.f170 18 ?_;refine c17z ?_;refine .cA (fun m st=>∃(i:Nat),(m=l.length-i∧(∀d,d<i→((l.getD d ByteArray.empty).toList==s.toList)=false)∧i≤l.length)∧st=⟨mkS 18 [(0,AV.vec l.length (aB l)),(1,AV.str s),(5,AV.int .i64 ((i:Nat):Int))],h⟩) _ (.v ⟨0,⟨rfl,t107,by omega⟩,rfl⟩) ?_;rintro m sl h' ⟨i,⟨hm,hI,hi⟩,hst⟩;obtain ⟨rfl,rfl⟩:=St.mk.inj hst;refine c0z ?_;refine u2z ?_ ?_
  ·intro e1 qe1;refine c72z ?_;refine u2z ?_ ?_
   ·intro e2 qe2;refine c105z ?_;exact ⟨[],_,(List.append_nil _).symm,t43,t131⟩
   intro e2 qe2;refine c4z ?_;refine c206z ?_;exact ⟨_,by omega,.v ⟨(i+1),⟨rfl,QN hI (by assumption),by omega⟩,rfl⟩⟩
  intro e1 qe1;refine c94z ?_;exact ⟨[],_,(List.append_nil _).symm,t43,t131⟩
end
theorem frz_n {d:Nat}:r6 (lK n H (d+1)) (aB l)=some (aB l):=(aA.map (fun _=>.str):aA (aB l)).frz _ _ _
variable {g:Nat}
theorem AG {β:Nat}(l:List BA)(s:BA)(hb:H[β]?=some ⟨g,false,9,1,aB l,0⟩)(hl:l.length<1000):CallA Tryz.prog cfg 170 [.own β g 0 l.length,.str s] H (fun y h'=>y=.bool (hasB l s)∧h'=H):=by
  have e:VJ 0 H (.own β g 0 l.length)=some (.vec l.length (aB l)):=by show lK 0 H 6 (.own β g 0 l.length)=_;rw[gH,hb];simp only[Nat.zero_le,and_self,if_true,Bool.false_eq_true,if_false,Nat.zero_add,Nat.mul_one,aF,Nat.le_refl,List.drop_zero];rw[List.take_of_length_le t160,frz_n]
  have ha:PE 0 H [.vec l.length (aB l),.str s] [.own β g 0 l.length,.str s]:=And.intro (.inr e) (And.intro (.inr rfl) trivial);exact CallA.borrow ha ((c_has l s hl).mono fun _ _ h=>h.1)
theorem c_res0 (s:BA):CB 140 [.str s] [] (.bool (tG s)):=by refine .bz Tryz.f140 6 ?_;refine .z ?_;refine c31z ?_;refine .ca rfl rfl (AG WB s rfl (by decide)) ?_;refine .n ?_;exact .ret (.ex (hq:=by rfl))
theorem ZS (s:BA):CallA Tryz.prog cfg 140 [.str s] h (fun y h'=>y=.bool (tG s)∧h'=h):=J9 rfl ((c_res0 s).mono fun _ _ h=>by rw[h.1];rfl) h
theorem c_resF (hr:tG s=false):CallA Tryz.prog cfg 140 [.str s] h (fun y h'=>y=.bool false∧h'=h):=by rw[←hr];exact ZS s
theorem mI (s:BA)(hs:isName (L8 s))(hr:tG s=false):CB 130 [.str s] h (.bool true):=by
  refine .bz Tryz.f130 39 ?_;have hsz:=eR hs;refine c17z ?_;refine .cA (fun m st=>∃(i:Nat),(m=s.size-i∧i≤s.size)∧st=⟨mkS 39 [(0,AV.str s),(3,AV.int .i64 ((i:Nat):Int))],h⟩) _ (.v ⟨0,⟨rfl,by omega⟩,rfl⟩) ?_;rintro m sl h' ⟨i,⟨hm,hi⟩,hst⟩;obtain ⟨rfl,rfl⟩:=St.mk.inj hst;refine c0z ?_;refine u2z ?_ ?_
  ·intro e1 qe1;refine c2z ?_;have hna:=name_at hs (i:=i) (by omega);refine c16z ?_;refine .ca rfl rfl (A2 _) ?_;refine .e 2 ?_;refine .spl 15 rfl rfl (fun e2=>?_) (fun e2=>?_)
   ·try simp only[e2]
    have qe2:=fact e2;refine .k 3 [(5,15)] ?_;refine .spl 18 rfl rfl (fun e3=>?_) (fun e3=>?_)
    ·try simp only[e3]
     have qe3:=fact e3;refine .m [(5,15),(8,18)] ?_;refine .T ?_;refine c105z ?_;exact ⟨[],_,(List.append_nil _).symm,t43,t92⟩
    try simp only[e3]
    have qe3:=fact e3;refine .k 3 [(8,18)] ?_;refine .ca rfl rfl (A3 _) ?_;refine .m [(5,15),(8,18)] ?_;refine u2z ?_ ?_
    ·intro e4 qe4;refine c105z ?_;exact ⟨[],_,(List.append_nil _).symm,t43,t92⟩
    intro e4 qe4;refine c4z ?_;refine .c5 [0,3] ?_;refine .rz ?_;exact ⟨_,by omega,.v ⟨(i+1),⟨rfl,by omega⟩,rfl⟩⟩
   try simp only[e2]
   have qe2:=fact e2;refine .k 8 [(5,15),(8,18)] ?_;refine .m [(5,15)] ?_;refine c46z ?_;refine .c5 [0,3] ?_;refine .rz ?_;exact ⟨_,by omega,.v ⟨(i+1),⟨rfl,by omega⟩,rfl⟩⟩
  intro e1 qe1;refine c8z ?_;refine c28z ?_;refine .spl 29 rfl rfl (fun e5=>?_) (fun e5=>by exfalso;simp only[decide_eq_false_iff_not]at e5;omega);try simp only[e5]
  have qe5:=fact e5;refine .k 5 [(3,29)] ?_;refine .spl 34 rfl rfl (fun e6=>?_) (fun e6=>by exfalso;simp only[decide_eq_false_iff_not]at e6;omega);try simp only[e6]
  have qe6:=fact e6;refine .k 1 [(8,34)] ?_;refine .ca rfl rfl (c_resF hr) ?_;refine .m [(8,34)] ?_;refine c3z ?_;exact ⟨[],_,(List.append_nil _).symm,t43,t92⟩
theorem WH (L:Bs)(i n:Nat)(hx:LX (L.drop i) n)(hi:i≤L.length)(hl:L.length<1000000):CB 137 [.vec L.length (tF L),.int .i64 (i:Int)] h (.int .i64 ((sk L i:Nat):Int)):=by
  refine .bz Tryz.f137 74 ?_;refine .z ?_;refine .sb ?_;refine .cA (fun m st=>∃(j:Nat),(m=L.length-j∧(LX (L.drop j) n∧j≤L.length∧sk L j=sk L i))∧st=⟨mkS 74 [(0,AV.vec L.length (tF L)),(1,AV.int .i64 ((j:Nat):Int))],h⟩) _ (.v ⟨i,⟨rfl,⟨hx,hi,rfl⟩⟩,rfl⟩) ?_;rintro m sl h' ⟨j,⟨hm,⟨hX,hj,hk⟩⟩,hst⟩;obtain ⟨rfl,rfl⟩:=St.mk.inj hst;refine c0z ?_;refine u2z ?_ ?_
  ·intro e1 qe1;refine c132z ?_;refine .block ?_;refine c139z ?_;refine .spl 16 rfl rfl (fun e2=>?_) (fun e2=>?_)
   ·try simp only[e2]
    have qe2:=fact e2;refine .k 8 [(5,16),(12,23)] ?_;refine .k 8 [(12,23),(19,30)] ?_;refine .m [(19,30)] ?_;refine .T ?_;refine .c5 [0,1] ?_;refine .rz ?_;exact ⟨_,by omega,.v ⟨(j+1),⟨rfl,⟨hX.IB (by omega) (K0 (by omega)),by omega,(vE (by omega) (K0 (by omega))).symm.trans hk⟩⟩,rfl⟩⟩
   try simp only[e2]
   have qe2:=fact e2;refine .k 7 [(5,16)] ?_;refine .spl 23 rfl rfl (fun e3=>?_) (fun e3=>?_)
   ·try simp only[e3]
    have qe3:=fact e3;refine .k 8 [(12,23),(19,30)] ?_;refine .m [(19,30)] ?_;refine .T ?_;refine .c5 [0,1] ?_;refine .rz ?_;exact ⟨_,by omega,.v ⟨(j+1),⟨rfl,⟨hX.IB (by omega) (K0 (by omega)),by omega,(vE (by omega) (K0 (by omega))).symm.trans hk⟩⟩,rfl⟩⟩
   try simp only[e3]
   have qe3:=fact e3;refine .k 7 [(12,23)] ?_;refine .spl 30 rfl rfl (fun e4=>?_) (fun e4=>?_)
   ·try simp only[e4]
    have qe4:=fact e4;refine .m [(19,30)] ?_;refine .T ?_;refine .c5 [0,1] ?_;refine .rz ?_;exact ⟨_,by omega,.v ⟨(j+1),⟨rfl,⟨hX.IB (by omega) (K0 (by omega)),by omega,(vE (by omega) (K0 (by omega))).symm.trans hk⟩⟩,rfl⟩⟩
   try simp only[e4]
   have qe4:=fact e4;refine .m [(19,30)] ?_;refine u2z ?_ ?_
   ·intro e5 qe5;refine .c5 [0,1] ?_;refine .rz ?_;exact ⟨_,by omega,.v ⟨(j+1),⟨rfl,⟨hX.IB (by omega) (K0 (by omega)),by omega,(vE (by omega) (K0 (by omega))).symm.trans hk⟩⟩,rfl⟩⟩
   intro e5 qe5;refine .c5 [0,1] ?_;refine c139z ?_;refine .spl 45 rfl rfl (fun e6=>?_) (fun e6=>?_)
   ·try simp only[e6]
    have qe6:=fact e6;refine .k 7 [(5,45)] ?_;refine .spl 52 rfl rfl (fun e7=>?_) (fun e7=>?_)
    ·try simp only[e7]
     have qe7:=fact e7;refine .m [(12,52)] ?_;refine .spl 39 rfl rfl (fun e8=>by exfalso;simp only[beq_iff_eq]at *;exact hX.DM (by omega) (by omega) (by omega)) (fun e8=>?_);try simp only[e8]
     have qe8:=fact e8;refine .F ?_;refine .c5 [1] ?_;refine c24z ?_;exact ⟨[],_,(List.append_nil _).symm,t43,t81⟩
    try simp only[e7]
    have qe7:=fact e7;refine .m [(12,52)] ?_;refine .F ?_;refine .c5 [1] ?_;refine c24z ?_;exact ⟨[],_,(List.append_nil _).symm,t43,t81⟩
   try simp only[e6]
   have qe6:=fact e6;refine .k 8 [(5,45),(12,52)] ?_;refine .m [(12,52)] ?_;refine .F ?_;refine .c5 [1] ?_;refine c24z ?_;exact ⟨[],_,(List.append_nil _).symm,t43,t81⟩
  intro e1 qe1;refine .exit ?_;have hje:j=L.length:=by omega
  refine c191z ?_;exact ⟨[],_,(List.append_nil _).symm,t43,t81⟩
theorem fill6L:(twoN).length=6:=rfl
theorem fill6M:(6≤maxLen)=True:=by simp;decide
theorem fill17L:(Lp).length=17:=rfl
theorem fill17M:(17≤maxLen)=True:=by simp;decide
section
attribute [local go_sem] tV dY Option.bind_eq_bind WA WE WG takeL R6 Nat.add_sub_cancel_left W8 take_one kX kY fill6L fill6M fill17L fill17M
theorem c_sign0 (L:Bs)(i:Nat)(hi:i<L.length)(hl:L.length<1000000):CB 142 [.vec L.length (tF L),.int .i64 (i:Int)] [] (.int .i64 ((sgn L i:Nat):Int)):=by
  refine .bz Tryz.f142 28 ?_;refine c19z ?_;refine c139z ?_;refine .spl 10 rfl rfl (fun e1=>?_) (fun e1=>?_)
  ·try simp only[e1]
   have qe1:=fact e1;try simp only[kY,kX,decide_eq_true_eq,decide_eq_false_iff_not]at qe1
   refine .k 7 [(5,10)] ?_;refine .ca rfl rfl (AG twoN _ rfl (by decide)) ?_;refine .n ?_;refine .spl 19 rfl rfl (fun e2=>?_) (fun e2=>?_)
   ·try simp only[e2]
    have qe2:=fact e2;try simp only[kY,kX,decide_eq_true_eq,decide_eq_false_iff_not]at qe2
    refine .T ?_;refine c34z ?_;exact .ret (.ex (hq:=t27))
   try simp only[e2]
   have qe2:=fact e2;try simp only[kY,kX,decide_eq_true_eq,decide_eq_false_iff_not]at qe2
   refine c20z ?_;refine .seq ?_;refine .c5 [0,1] ?_;refine .s ?_;refine .e 7 ?_;refine .ca rfl rfl (AG Lp _ (by first | rfl | simp) (by decide)) ?_;refine .nil ?_;refine .spl 27 rfl rfl (fun e3=>?_) (fun e3=>?_)
   ·try simp only[e3]
    have qe3:=fact e3;try simp only[kY,kX,decide_eq_true_eq,decide_eq_false_iff_not]at qe3
    refine .T ?_;refine c34z ?_;exact .ret (.ex (hq:=t27))
   try simp only[e3]
   have qe3:=fact e3;try simp only[kY,kX,decide_eq_true_eq,decide_eq_false_iff_not]at qe3
   refine c20z ?_;refine c34z ?_;exact .ret (.ex (hq:=t27))
  try simp only[e1]
  have qe1:=fact e1;try simp only[kY,kX,decide_eq_true_eq,decide_eq_false_iff_not]at qe1
  refine .k 8 [(5,10)] ?_;refine .n ?_;refine c20z ?_;refine .seq ?_;refine .c5 [0,1] ?_;refine .s ?_;refine .e 7 ?_;refine .ca rfl rfl (AG Lp _ (by first | rfl | simp) (by decide)) ?_;refine .nil ?_;refine .spl 27 rfl rfl (fun e4=>?_) (fun e4=>?_)
  ·try simp only[e4]
   have qe4:=fact e4;try simp only[kY,kX,decide_eq_true_eq,decide_eq_false_iff_not]at qe4
   refine .T ?_;refine c34z ?_;exact .ret (.ex (hq:=t27))
  try simp only[e4]
  have qe4:=fact e4;try simp only[kY,kX,decide_eq_true_eq,decide_eq_false_iff_not]at qe4
  refine c20z ?_;refine c34z ?_;exact .ret (.ex (hq:=t27))
end
theorem c_sign (L:Bs)(i:Nat)(hi:i<L.length)(hl:L.length<1000000):CallA Tryz.prog cfg 142 [.vec L.length (tF L),.int .i64 (i:Int)] h (fun y h'=>y=.int .i64 ((sgn L i:Nat):Int)∧h'=h):=J9 rfl ((c_sign0 L i hi hl).mono fun _ _ h=>by rw[h.1];rfl) h
theorem c_numv (l:Bs)(hd:∀d∈l,isD d=true)(hv:wW l<9223372036854775808)(hl:l.length<1000000):CB 141 [.vec l.length (tF l)] h (.int .i64 ((wW l:Nat):Int)):=by
  refine CallA.body (Q:=fun y'=>y'=.int .i64 ((wW l:Nat):Int)) u9 fn141 rfl ?_;simp only[ntm141,List.length_cons,List.length_nil,Nat.reduceAdd,Nat.reduceSub,List.replicate,List.cons_append,List.nil_append];refine c7z ?_;refine o1.pre 1 t12 ?_;refine c6z ?_;refine c7z ?_;refine o1.pre 1 t12 ?_;refine c145z ?_;refine c7z ?_;refine o1.pre 1 t12 ?_;refine c6z ?_;refine c8.block ?_;refine c8.cA (fun m st=>∃(i:Nat),(m=l.length-i∧i≤l.length)∧st=⟨[.vec l.length (tF l),.any,.any,.int .i64 ((wW (l.take i):Nat):Int),.int .i64 ((i:Nat):Int),.any,.any,.any,.any,.any,.any,.any,.any,.any,.any,.any,.any,.any,.any,.any,.any,.any,.any,.any,.any,.any,.any,.any],h⟩) _ ⟨[.vec l.length (tF l),.any,.any,.int .i64 ((wW (l.take 0):Nat):Int),.int .i64 ((0:Nat):Int),.any,.any,.any,.any,.any,.any,.any,.any,.any,.any,.any,.any,.any,.any,.any,.any,.any,.any,.any,.any,.any,.any,.any],⟨(.inl t85),(.inr rfl),(.inr rfl),(.inl t85),(.inl t85),(.inr rfl),(.inr rfl),(.inr rfl),(.inr rfl),(.inr rfl),(.inr rfl),(.inr rfl),(.inr rfl),(.inr rfl),(.inr rfl),(.inr rfl),(.inr rfl),(.inr rfl),(.inr rfl),(.inr rfl),(.inr rfl),(.inr rfl),(.inr rfl),(.inr rfl),(.inr rfl),(.inr rfl),(.inr rfl),(.inr rfl),trivial⟩,0,⟨rfl,by omega⟩,rfl⟩ ?_;rintro m sl h' ⟨i,⟨hm,hi⟩,hst⟩;obtain ⟨rfl,rfl⟩:=St.mk.inj hst;refine c8.seq ?_;refine c7z ?_;refine o1.pre 4 t12 ?_;refine c6z ?_;refine c8.split 9 rfl (fun e1=>?_) (fun e1=>?_)
  · try simp only[e1]
    have qe1:=e1;try replace qe1:=s9z qe1
    refine c8.zB rfl ?_;refine c71z ?_;refine c8.seq ?_;refine c8.block ?_;refine c8.seq ?_;have hdd:=valD_nn (i:=i) (by omega) hd;have hvt:=J8 (l:=l) (k:=i) (by omega);have hvm:=IE (l:=l) (k:=i+1) (m:=l.length) (by omega);rw[List.take_length]at hvm;have htd:(9223372036854775807-(((bat l i).toNat:Int)-48)).tdiv 10=(9223372036854775807-(((bat l i).toNat:Int)-48)) / 10:=Int.tdiv_eq_ediv_of_nonneg (by omega);have htd2:((9223372036854775807-(((bat l i).toNat:Int)-48)).tdiv 10:Int)<9223372036854775808∧0≤(9223372036854775807-(((bat l i).toNat:Int)-48)).tdiv 10:=by rw[htd];omega
    refine c8.region u9 ?_;refine o1.pre 7 t12 ?_;refine c145z ?_;refine c7z ?_;refine o1.pre 5 t12 ?_;refine c6z ?_;refine c8.split 22 rfl (fun e2=>?_) (fun e2=>?_)
    · exfalso;rw[htd]at e2;simp only[decide_eq_true_eq,gt_iff_lt]at e2;omega
    · try simp only[e2]
      have qe2:=e2;try replace qe2:=s9z qe2
      refine c109z ?_;refine c8.region u9 ?_;refine o1.pre 5 t12 ?_;refine c6z ?_;refine c8.region u9 ?_;refine o1.pre 3 t12 ?_;refine o1.nil ?_;exact ⟨l.length-(i+1),by omega,[.vec l.length (tF l),.any,.any,.int .i64 ((wW (l.take (i+1)):Nat):Int),.int .i64 (((i+1):Nat):Int),.any,.any,.any,.any,.any,.any,.any,.any,.any,.any,.any,.any,.any,.any,.any,.any,.any,.any,.any,.any,.any,.any,.any],⟨(.inl t85),(.inr rfl),(.inr rfl),(.inl t85),(.inl t85),(.inr rfl),(.inr rfl),(.inr rfl),(.inr rfl),(.inr rfl),(.inr rfl),(.inr rfl),(.inr rfl),(.inr rfl),(.inr rfl),(.inr rfl),(.inr rfl),(.inr rfl),(.inr rfl),(.inr rfl),(.inr rfl),(.inr rfl),(.inr rfl),(.inr rfl),(.inr rfl),(.inr rfl),(.inr rfl),(.inr rfl),trivial⟩,(i+1),⟨rfl,by omega⟩,rfl⟩
  · try simp only[e1]
    have qe1:=e1;try replace qe1:=s9z qe1
    refine c8.CO rfl ?_;refine c8.exit ?_;obtain rfl:i=l.length:=by omega
    rw[List.take_length] at*;change c8 _ _ _ _ _;refine c7z ?_;refine o1.pre 2 t12 ?_;refine c68z ?_;refine Ends.mk (by simp only[VM,wZ,jU,lP];first | rfl | (simp (maxSteps:=2000000) (disch:=omega) only [go_sem,Nat.reduceBEq,Nat.reduceAdd,Nat.reduceSub,Nat.reduceLeDiff,Nat.reduceMul,reduceIte,reduceCtorEq,Int.reduceNeg,Int.reduceToNat,Nat.reduceLT,Int.reduceLE,Int.reduceLT,Int.reduceAdd,Int.reduceSub,Int.reduceMul,rK,if_false,show ((10:Int)=0)=False from by simp,if_pos,if_neg];rfl)) ?_;exact ⟨[],_,(List.append_nil _).symm,t43,by rfl⟩
theorem app_tok {a:Blk}{l:c7}{zs:List AV}{x y z u:AV}(hz:zs.length=n*4)(hn:n<10000):j6 cfg 168 (p9 168 4 g zs::a::⟨0,false,168,4,[x,y,z,u],0⟩::l) (.own 0 g 0 n) (.own 2 0 0 1)=some (.own 0 (g+1) 0 (n+1),p9 168 4 (g+1) (zs++[x,y,z,u])::a::⟨0,false,168,4,[x,y,z,u],0⟩::l):=by rw[u7 (C:=cfg) (K:=4) (m:=1) (new:=[x,y,z,u]) (zs:=zs) rfl rfl (by omega) hz rfl (by omega) t102 rfl (by decide) (by omega)];rfl
theorem QO {l:c7}{zs:List AV}{x y z u:AV}(hz:zs.length=n*4)(hn:n<10000):j6 cfg 168 (p9 168 4 g zs::⟨0,false,168,4,[x,y,z,u],0⟩::l) (.own 0 g 0 n) (.own 1 0 0 1)=some (.own 0 (g+1) 0 (n+1),p9 168 4 (g+1) (zs++[x,y,z,u])::⟨0,false,168,4,[x,y,z,u],0⟩::l):=by rw[u7 (C:=cfg) (K:=4) (m:=1) (new:=[x,y,z,u]) (zs:=zs) rfl rfl (by omega) hz rfl (by omega) t102 rfl (by decide) (by omega)];rfl
theorem pP {k n p:Int}:aA [.int .i64 k,.str s,.int .i64 n,.int .i64 p]:=aA.cons .int (aA.cons .str (aA.cons .int (aA.cons .int .nil)))
theorem kZ {a b:List AV}(h:aA a)(h':aA b):aA (a++b):=fun x hx=>(List.mem_append.1 hx).elim (h x) (h' x)
theorem WJ (hs:Span L isD i e)(hv:wW ((L.drop i).take (e-i))<9223372036854775808)(hl:L.length<1000000):CallA Tryz.prog cfg 141 [.vec (e-i) (tF ((L.drop i).take (e-i)))] h (fun y h'=>y=.int .i64 ((wW ((L.drop i).take (e-i)):Nat):Int)∧h'=h):=by
  have hle:=hs.le;have e1:e-i=((L.drop i).take (e-i)).length:=by rw[List.length_take,List.length_drop];omega
  have:=c_numv (h:=h) _ (spanD hs) hv (by omega);rwa[←e1]at this
section
attribute [local go_sem] tV dY Option.bind_eq_bind WA WE WG takeL R6 Nat.add_sub_cancel_left app_tok QO take_one J4 zZ wrap64 wY
theorem c_lex0 (L:Bs)(N:Nat)(hx:LX (L.drop 0) N)(hN:N≤4000)(hl:L.length≤262144):CallA Tryz.prog cfg 95 [.vec L.length (tF L)] [] (fun y' h'=>YN y'=.tup [.any,.int .i64 L.length,.int .i64 0]∧h'=[]):=by
  refine .bz Tryz.f95 124 ?_;have hs0:=A1 rfl hx (by omega);refine c89z ?_;refine .spl 11 rfl rfl (fun e1=>by exfalso;simp only[decide_eq_true_eq,gt_iff_lt]at e1;omega) (fun e1=>?_);try simp only[e1]
  have qe1:=fact e1;refine c20z ?_;refine c128z ?_;refine .ca rfl rfl (WH L 0 N hx (by omega) (by omega)) ?_;refine c135z ?_;refine c8.sB 5 rfl ?_;refine .u0 (fun m st=>∃(q:Nat) (k:Nat) (n:Nat) (zs:List AV),(m=L.length-q∧(k+n≤4000∧LX (L.drop q) n∧q≤L.length∧(q<L.length→wV (bat L q)=false)∧zs.length=k*4∧aA zs))∧st=⟨mkS 124 [(0,AV.vec L.length (tF L)),(5,AV.own 0 k 0 k),(6,AV.int .i64 ((q:Nat):Int))],[p9 168 4 k zs]⟩) (.v ⟨(sk L 0),0,N,[],⟨rfl,⟨by omega,hs0.2.2.1,hs0.2.1,hs0.2.2.2,rfl,aA.nil⟩⟩,rfl⟩) ?_;rintro m sl h' ⟨q,k,n,zs,⟨hm,⟨hkn,hX,hq,hsp,hz,hpl⟩⟩,hst⟩;obtain ⟨rfl,rfl⟩:=St.mk.inj hst;clear hst;refine .sb ?_;refine c0z ?_;refine u2z ?_ ?_
  ·intro e2 qe2;refine c129z ?_;refine c3z ?_;exact ⟨_,_,rfl,by (show iL 0 _ 6 (.tup [.own 0 (k+1) 0 (k+1),.int .i64 ((q:Nat):Int),.int .i64 0])=_;simp only[pF,eF,pG,r6,Nat.not_lt_zero,if_false];rw[jY (e:=168) (K:=4) (g:=k+1) (zs:=zs++_) rfl (by decide) t83 (by omega) (aA.frz (kZ hpl pP) _ _ _)];rfl),by rw[show q=L.length from by omega];rfl⟩
  intro e2 qe2;refine .sk ?_;refine c65z ?_;refine .sb ?_;have hsp':=hsp (by omega);refine c28z ?_;refine .ca rfl rfl (A2 _) ?_;refine .n ?_;refine u2z ?_ ?_
  ·intro e3 qe3;refine .sb ?_;obtain ⟨ee,mm,hspn,hle16,hnm,hX2⟩:=hX.IC (by omega) (by assumption);have hlt:=hspn.lt;refine .u0 (fun m st=>∃(j:Nat),(m=ee-j∧(q≤j∧j≤ee))∧st=⟨mkS 124 [(0,AV.vec L.length (tF L)),(5,AV.own 0 k 0 k),(6,AV.int .i64 ((q:Nat):Int)),(7,AV.ptr 1 0 0),(8,AV.int .i64 ((j:Nat):Int))],[p9 168 4 k zs,⟨0,false,168,4,[.int .i64 0,.str ByteArray.empty,.int .i64 0,.int .i64 ((q:Nat):Int)],0⟩]⟩) (.v ⟨q,⟨rfl,⟨Nat.le_refl _,Nat.le_of_lt hspn.lt⟩⟩,rfl⟩) ?_;rintro m sl h' ⟨j,⟨hm,⟨hj1,hj2⟩⟩,hst⟩;obtain ⟨rfl,rfl⟩:=St.mk.inj hst;clear hst;have hle:=hspn.le;refine .seq ?_;refine c22z ?_;refine .spl 50 rfl rfl (fun e4=>?_) (fun e4=>?_)
   ·try simp only[e4]
    have qe4:=fact e4;refine .k 4 [(4,50)] ?_;refine .ca rfl rfl (A2 _) ?_;refine .k 1 [(4,50)] ?_;refine .spl 56 rfl rfl (fun e5=>?_) (fun e5=>?_)
    ·try simp only[e5]
     have qe5:=fact e5;refine .m [(4,50),(10,56)] ?_;refine .T ?_;refine c132z ?_;refine .c5 [0,5,6,7,8] ?_;refine .rz ?_;have hje:=R7 hspn hj2 (by omega) t191;exact ⟨_,by omega,.v ⟨(j+1),⟨rfl,⟨by omega,by omega⟩⟩,rfl⟩ (he:=t170)⟩
    try simp only[e5]
    have qe5:=fact e5;refine .k 4 [(10,56)] ?_;refine .ca rfl rfl (A3 _) ?_;refine .m [(4,50)] ?_;refine u2z ?_ ?_
    ·intro e6 qe6;refine c132z ?_;refine .c5 [0,5,6,7,8] ?_;refine .rz ?_;have hje:=R7 hspn hj2 (by omega) t191;exact ⟨_,by omega,.v ⟨(j+1),⟨rfl,⟨by omega,by omega⟩⟩,rfl⟩ (he:=t170)⟩
    intro e6 qe6;refine .exit ?_;have hje:ee=j:=(tH hspn hj1 hj2 (fun hlt=>by first | omega | assumption | simp_all [isW])).symm;subst hje;change c8 ..;refine c99z ?_;refine c22z ?_;refine .ca rfl rfl (ZS _) ?_;refine .nil ?_;refine u2z ?_ ?_
    ·intro e7 qe7;refine c1z ?_;refine c255z ?_;refine .spl 111 rfl rfl (fun e8=>by exfalso;simp only[beq_iff_eq]at e8;omega) (fun e8=>?_);try simp only[e8]
     have qe8:=fact e8;refine c231z ?_;have hs1:=A1 rfl hX2 (by omega);exact ⟨_,by omega,.v ⟨(sk L ee),(k+1),mm,(zs++[.int .i64 _,.str _,.int .i64 _,.int .i64 ((q:Nat):Int)]),⟨rfl,⟨by omega,hs1.2.2.1,hs1.2.1,hs1.2.2.2,t83,kZ hpl pP⟩⟩,rfl⟩ (he:=by rfl) (hk:=t53)⟩
    intro e7 qe7;refine .z ?_;refine .spl 77 rfl rfl (fun e9=>by exfalso;simp only[decide_eq_true_eq,gt_iff_lt]at e9;omega) (fun e9=>?_);try simp only[e9]
    have qe9:=fact e9;refine c46z ?_;refine c255z ?_;refine .spl 111 rfl rfl (fun e10=>by exfalso;simp only[beq_iff_eq]at e10;omega) (fun e10=>?_);try simp only[e10]
    have qe10:=fact e10;refine c231z ?_;have hs1:=A1 rfl hX2 (by omega);exact ⟨_,by omega,.v ⟨(sk L ee),(k+1),mm,(zs++[.int .i64 _,.str _,.int .i64 _,.int .i64 ((q:Nat):Int)]),⟨rfl,⟨by omega,hs1.2.2.1,hs1.2.1,hs1.2.2.2,t83,kZ hpl pP⟩⟩,rfl⟩ (he:=by rfl) (hk:=t53)⟩
   try simp only[e4]
   have qe4:=fact e4;refine .k 8 [(4,50),(10,56)] ?_;refine .m [(4,50),(10,56)] ?_;refine c232z ?_;have hje:ee=j:=(tH hspn hj1 hj2 (fun hlt=>by first | omega | assumption | simp_all [isW])).symm;subst hje;change c8 ..;refine c99z ?_;refine c22z ?_;refine .ca rfl rfl (ZS _) ?_;refine .nil ?_;refine u2z ?_ ?_
   ·intro e11 qe11;refine c1z ?_;refine c255z ?_;refine .spl 111 rfl rfl (fun e12=>by exfalso;simp only[beq_iff_eq]at e12;omega) (fun e12=>?_);try simp only[e12]
    have qe12:=fact e12;refine c231z ?_;have hs1:=A1 rfl hX2 (by omega);exact ⟨_,by omega,.v ⟨(sk L ee),(k+1),mm,(zs++[.int .i64 _,.str _,.int .i64 _,.int .i64 ((q:Nat):Int)]),⟨rfl,⟨by omega,hs1.2.2.1,hs1.2.1,hs1.2.2.2,t83,kZ hpl pP⟩⟩,rfl⟩ (he:=by rfl) (hk:=t53)⟩
   intro e11 qe11;refine .z ?_;refine .spl 77 rfl rfl (fun e13=>by exfalso;simp only[decide_eq_true_eq,gt_iff_lt]at e13;omega) (fun e13=>?_);try simp only[e13]
   have qe13:=fact e13;refine c46z ?_;refine c255z ?_;refine .spl 111 rfl rfl (fun e14=>by exfalso;simp only[beq_iff_eq]at e14;omega) (fun e14=>?_);try simp only[e14]
   have qe14:=fact e14;refine c231z ?_;have hs1:=A1 rfl hX2 (by omega);exact ⟨_,by omega,.v ⟨(sk L ee),(k+1),mm,(zs++[.int .i64 _,.str _,.int .i64 _,.int .i64 ((q:Nat):Int)]),⟨rfl,⟨by omega,hs1.2.2.1,hs1.2.1,hs1.2.2.2,t83,kZ hpl pP⟩⟩,rfl⟩ (he:=by rfl) (hk:=t53)⟩
  intro e3 qe3;refine .c5 [0,5,6,7,8] ?_;refine c28z ?_;refine .ca rfl rfl (A3 _) ?_;refine .n ?_;refine u2z ?_ ?_
  ·intro e15 qe15;refine .sb ?_;obtain ⟨ee,mm,hspn,hvv,hnm,hX2⟩:=hX.QM (by omega) (by assumption);have hlt:=hspn.lt;refine .u0 (fun m st=>∃(j:Nat),(m=ee-j∧(q≤j∧j≤ee))∧st=⟨mkS 124 [(0,AV.vec L.length (tF L)),(5,AV.own 0 k 0 k),(6,AV.int .i64 ((q:Nat):Int)),(7,AV.ptr 1 0 0),(8,AV.int .i64 ((j:Nat):Int))],[p9 168 4 k zs,⟨0,false,168,4,[.int .i64 0,.str ByteArray.empty,.int .i64 0,.int .i64 ((q:Nat):Int)],0⟩]⟩) (.v ⟨q,⟨rfl,⟨Nat.le_refl _,Nat.le_of_lt hspn.lt⟩⟩,rfl⟩) ?_;rintro m sl h' ⟨j,⟨hm,⟨hj1,hj2⟩⟩,hst⟩;obtain ⟨rfl,rfl⟩:=St.mk.inj hst;clear hst;have hle:=hspn.le;refine .seq ?_;refine c22z ?_;refine .spl 89 rfl rfl (fun e16=>?_) (fun e16=>?_)
   ·try simp only[e16]
    have qe16:=fact e16;refine .k 4 [(4,89)] ?_;refine .ca rfl rfl (A3 _) ?_;refine .n ?_;refine u2z ?_ ?_
    ·intro e17 qe17;refine c132z ?_;refine .c5 [0,5,6,7,8] ?_;refine .rz ?_;have hje:=R7 hspn hj2 (by omega) t191;exact ⟨_,by omega,.v ⟨(j+1),⟨rfl,⟨by omega,by omega⟩⟩,rfl⟩ (he:=t170)⟩
    intro e17 qe17;refine .exit ?_;have hje:ee=j:=(tH hspn hj1 hj2 (fun hlt=>by first | omega | assumption | simp_all [isW])).symm;subst hje;change c8 ..;refine .c5 [0,5,6,7,8] ?_;refine c28z ?_;refine .ca rfl rfl (WJ hspn hvv (by omega)) ?_;refine .n ?_;refine .z ?_;refine .spl 107 rfl rfl (fun e18=>by exfalso;simp only[decide_eq_true_eq]at e18;omega) (fun e18=>?_);try simp only[e18]
    have qe18:=fact e18;refine c46z ?_;refine c255z ?_;refine .spl 111 rfl rfl (fun e19=>by exfalso;simp only[beq_iff_eq]at e19;omega) (fun e19=>?_);try simp only[e19]
    have qe19:=fact e19;refine c231z ?_;have hs1:=A1 rfl hX2 (by omega);exact ⟨_,by omega,.v ⟨(sk L ee),(k+1),mm,(zs++[.int .i64 _,.str _,.int .i64 _,.int .i64 ((q:Nat):Int)]),⟨rfl,⟨by omega,hs1.2.2.1,hs1.2.1,hs1.2.2.2,t83,kZ hpl pP⟩⟩,rfl⟩ (he:=by rfl) (hk:=t53)⟩
   try simp only[e16]
   have qe16:=fact e16;refine .m [(4,89)] ?_;refine c232z ?_;have hje:ee=j:=(tH hspn hj1 hj2 (fun hlt=>by first | omega | assumption | simp_all [isW])).symm;subst hje;change c8 ..;refine .c5 [0,5,6,7,8] ?_;refine c28z ?_;refine .ca rfl rfl (WJ hspn hvv (by omega)) ?_;refine .n ?_;refine .z ?_;refine .spl 107 rfl rfl (fun e20=>by exfalso;simp only[decide_eq_true_eq]at e20;omega) (fun e20=>?_);try simp only[e20]
   have qe20:=fact e20;refine c46z ?_;refine c255z ?_;refine .spl 111 rfl rfl (fun e21=>by exfalso;simp only[beq_iff_eq]at e21;omega) (fun e21=>?_);try simp only[e21]
   have qe21:=fact e21;refine c231z ?_;have hs1:=A1 rfl hX2 (by omega);exact ⟨_,by omega,.v ⟨(sk L ee),(k+1),mm,(zs++[.int .i64 _,.str _,.int .i64 _,.int .i64 ((q:Nat):Int)]),⟨rfl,⟨by omega,hs1.2.2.1,hs1.2.1,hs1.2.2.2,t83,kZ hpl pP⟩⟩,rfl⟩ (he:=by rfl) (hk:=t53)⟩
  intro e15 qe15;obtain ⟨hsg1,hsg2,mm,hnm,hX2⟩:=hX.ID (by omega) hsp' (by first | assumption | simp_all) (by first | assumption | simp_all);refine c16z ?_;refine .ca rfl rfl (c_sign L q (by omega) (by omega)) ?_;refine .n ?_;refine .c5 [0,5,6,7,8] ?_;refine c65z ?_;refine .spl 38 rfl rfl (fun e22=>by exfalso;simp only[beq_iff_eq]at e22;omega) (fun e22=>?_);try simp only[e22]
  have qe22:=fact e22;refine c46z ?_;refine c0z ?_;refine .spl 111 rfl rfl (fun e23=>by exfalso;simp only[beq_iff_eq]at e23;omega) (fun e23=>?_);try simp only[e23]
  have qe23:=fact e23;refine c231z ?_;have hs1:=A1 rfl hX2 (by omega);exact ⟨_,by omega,.v ⟨(sk L (q+sgn L q)),(k+1),mm,(zs++[.int .i64 _,.str _,.int .i64 _,.int .i64 ((q:Nat):Int)]),⟨rfl,⟨by omega,hs1.2.2.1,hs1.2.1,hs1.2.2.2,t83,kZ hpl pP⟩⟩,rfl⟩ (he:=by rfl) (hk:=t53)⟩
end
end Go.Proofs.YtonbocmibeikmaaGreat
end
section
namespace Go.Proofs.YtonbocmibeikmaaGreat
open Go.Ab Go.Un
theorem wrapU {n:Int}(h1:0≤n)(h2:n<18446744073709551616):IntKind.wrap .u64 n=n:=by rw[IntKind.wrap_u64];omega
theorem K1:∀(f n:Nat),n<10^f→0<f→xC (f+1) n=xC f n
  | 0,n,h,hf=>by omega
  | f+1,n,h,_=>by
    have e:xC (f+1+1) n=if n<10 then [dig n] else xC (f+1) (n / 10)++[dig n]:=rfl
    have e2:xC (f+1) n=if n<10 then [dig n] else xC f (n / 10)++[dig n]:=rfl
    rw[e,e2];split
    · rfl
    · rename_i hn
      have h1:n / 10<10^f:=by rw[Nat.pow_succ]at h;omega
      cases f with
      | zero=>simp at h1;omega
      | succ f=>rw[K1 (f+1) (n / 10) h1 (by omega)]
theorem K2 {n:Nat}(h:n<10000000000000000000)(h0:0<n / 10):xP n=xP (n / 10)++[dig n]:=by
  have e2:xP n=if n<10 then [dig n] else xC 19 (n / 10)++[dig n]:=rfl
  rw[e2,if_neg (by omega)];unfold xP;rw[K1 19 (n / 10) (by omega) (by omega)]
theorem xV {n:Nat}(h:n<10):xP n=[dig n]:=by
  have e2:xP n=if n<10 then [dig n] else xC 19 (n / 10)++[dig n]:=rfl
  rw[e2,if_pos h]
def Fb (n:Nat)(s:Bs):Bs:=if n=0 then s else xP n++s
theorem DO {n:Nat}(h:n<10000000000000000000):Fb (n / 10) [dig n]=xP n:=by
  unfold Fb;split
  · rw[xV (by omega)]
  · rw[K2 h (by omega)]
variable {s:Bs}
theorem IH {n:Nat}(h:n<10000000000000000000)(h0:0<n):Fb (n / 10) (dig n::s)=Fb n s:=by
  unfold Fb;rw[if_neg (by omega:¬n=0)];split
  · rw[xV (by omega)];rfl
  · rw[K2 h (by omega)];simp
theorem II {n:Nat}:UInt8.ofNat (((48:Int)+(((n%10:Nat)):Int)).toNat)=dig n:=by unfold dig;congr 1
theorem WK {n:Nat}:((n:Int)).tmod 10=((n%10:Nat):Int):=rfl
theorem WL {n:Nat}:((n:Int)).tdiv 10=((n / 10:Nat):Int):=rfl
theorem WM {a:UInt8}:(⟨#[a]⟩:BA)++(⟨s.toArray⟩:BA)=⟨(a::s).toArray⟩:=by apply ByteArray.ext;simp[ByteArray.data_append]
theorem IJ:(⟨s.toArray⟩:BA).size=s.length:=by rw[kR];rfl
attribute [local go_sem] nA aF o2 bD l8 Int.natCast_nonneg Int.natCast_inj List.length_map wrap64 DN wrapU fY AB J4 R3 AD zZ max2 lW
theorem QP {n m:Nat}(h:n*10^s.length≤m):n / 10*10^(dig n::s).length≤m:=by rw[List.length_cons,Nat.pow_succ,Nat.mul_comm (10^s.length),←Nat.mul_assoc];exact Nat.le_trans (Nat.mul_le_mul_right _ (Nat.div_mul_le_self n 10)) h
theorem QQ {n m:Nat}(h0:0<n)(h:n*10^s.length≤m)(hm:m<10000000000000000000):(dig n::s).length≤20:=by
  rw[List.length_cons];by_cases hs:s.length+1≤20
  · exact hs
  · have h1:10^20≤10^s.length:=Nat.pow_le_pow_right (by omega) (by omega)
    have h2:1*10^s.length≤n*10^s.length:=Nat.mul_le_mul_right _ h0;omega
theorem c_dig0 (m0:Nat)(hm0:m0<10000000000000000000):CB 181 [.int .u64 (m0:Int)] [] (.str ⟨(xP m0).toArray⟩):=by
  refine CallA.body (Q:=fun y'=>y'=.str ⟨(xP m0).toArray⟩) u9 fn181 rfl ?_;simp only[ntm181,List.length_cons,List.length_nil,Nat.reduceAdd,Nat.reduceSub,List.replicate,List.cons_append,List.nil_append];refine c7z ?_;refine o1.pre 1 t13 ?_;refine c6z ?_;refine c7z ?_;refine o1.pre 7 t13 ?_;refine c145z ?_;refine c7z ?_;refine o1.pre 3 t13 ?_;refine c6z ?_;refine c8.block ?_;refine c8.aC ([⟨0,false,5,1,[.int .u8 (48+((m0%10:Nat):Int))],0⟩]) t172 ?_;refine c8.loopW (fun m st=>∃(n:Nat) (s:Bs),(m=n∧(n<10000000000000000000∧Fb n s=xP m0∧s.length≤20∧n*10^s.length≤m0))∧st=⟨[.int .u64 ((n:Nat):Int),.any,.any,.str ⟨s.toArray⟩,.any,.any,.any,.any,.any,.any,.any,.any,.any,.any,.any,.any,.any,.any,.any,.any,.any,.any,.any,.any,.any],[⟨0,false,5,1,[.int .u8 (48+((m0%10:Nat):Int))],0⟩]⟩) ((m0 / 10)) ⟨[.int .u64 (((m0 / 10):Nat):Int),.any,.any,.str ⟨[dig m0].toArray⟩,.any,.any,.any,.any,.any,.any,.any,.any,.any,.any,.any,.any,.any,.any,.any,.any,.any,.any,.any,.any,.any],[⟨0,false,5,1,[.int .u8 (48+((m0%10:Nat):Int))],0⟩],[],(List.append_nil _).symm,Nat.le_refl _,v5.refl _,⟨(.inl t169),(.inr rfl),(.inr rfl),(.inl t169),(.inr rfl),(.inr rfl),(.inr rfl),(.inr rfl),(.inr rfl),(.inr rfl),(.inr rfl),(.inr rfl),(.inr rfl),(.inr rfl),(.inr rfl),(.inr rfl),(.inr rfl),(.inr rfl),(.inr rfl),(.inr rfl),(.inr rfl),(.inr rfl),(.inr rfl),(.inr rfl),(.inr rfl),trivial⟩,gK.get ⟨t3,t3,t3,t3,t3,t3,t3,t3,t3,t3,t3,t3,t3,t3,t3,t3,t3,t3,t3,t3,t3,t3,t3,t3,t3,trivial⟩,(m0 / 10),[dig m0],⟨rfl,⟨by omega,DO hm0,by simp,t55⟩⟩,rfl⟩ ?_;rintro m sl h' ⟨n,s,⟨hm,⟨hn,hP,hs,hM⟩⟩,hst⟩;obtain ⟨rfl,rfl⟩:=St.mk.inj hst;clear hst;refine c8.seq ?_;refine c7z ?_;refine o1.pre 2 t13 ?_;refine c6z ?_;refine c8.split 13 rfl (fun e1=>?_) (fun e1=>?_)
  · try simp only[e1]
    have qe1:=e1;try replace qe1:=s9z qe1
    refine c8.zB rfl ?_;refine c71z ?_;refine c8.seq ?_;refine c8.block ?_;refine c8.region u9 ?_;refine o1.pre 9 t13 ?_;refine c6z ?_;refine c8.region u9 ?_;refine o1.pre 3 t13 ?_;refine o1.nil ?_;have hP2:=(IH (s:=s) hn (by omega)).trans hP;exact ⟨(n / 10),by omega,[.int .u64 (((n / 10):Nat):Int),.any,.any,.str ⟨(dig n::s).toArray⟩,.any,.any,.any,.any,.any,.any,.any,.any,.any,.any,.any,.any,.any,.any,.any,.any,.any,.any,.any,.any,.any],[⟨0,false,5,1,[.int .u8 (48+((m0%10:Nat):Int))],0⟩],_,by rfl,by simp,by exact v5.refl _,⟨(.inl t169),(.inr rfl),(.inr rfl),(.inl t169),(.inr rfl),(.inr rfl),(.inr rfl),(.inr rfl),(.inr rfl),(.inr rfl),(.inr rfl),(.inr rfl),(.inr rfl),(.inr rfl),(.inr rfl),(.inr rfl),(.inr rfl),(.inr rfl),(.inr rfl),(.inr rfl),(.inr rfl),(.inr rfl),(.inr rfl),(.inr rfl),(.inr rfl),trivial⟩,gK.get ⟨t3,t3,t3,t3,t3,t3,t3,t3,t3,t3,t3,t3,t3,t3,t3,t3,t3,t3,t3,t3,t3,t3,t3,t3,t3,trivial⟩,(n / 10),(dig n::s),⟨rfl,⟨by omega,hP2,QQ (by omega) hM hm0,QP hM⟩⟩,rfl⟩
  · try simp only[e1]
    have qe1:=e1;try replace qe1:=s9z qe1
    refine c8.CO rfl ?_;refine c8.exit ?_;change c8 _ _ _ _ _;refine c7z ?_;refine o1.pre 2 t13 ?_;refine c68z ?_;refine Ends.mk (by simp only[VQ,wZ,jU,lP];first | rfl | (simp (maxSteps:=2000000) (disch:=omega) only [go_sem,Nat.reduceBEq,Nat.reduceAdd,Nat.reduceSub,Nat.reduceLeDiff,Nat.reduceMul,reduceIte,reduceCtorEq,Int.reduceNeg,Int.reduceToNat,Nat.reduceLT,Int.reduceLE,Int.reduceLT,Int.reduceAdd,Int.reduceSub,Int.reduceMul,WK,WL,II,iS,rd,WM,IJ,show ((10:Int)=0)=False from by simp,show (⟨#[dig m0]⟩:BA)=⟨[dig m0].toArray⟩ from rfl,rK,if_pos,if_neg];rfl)) ?_;exact ⟨_,_,(by first | rfl | exact (List.append_nil _).symm | (simp only[List.append_assoc,List.cons_append,List.nil_append];rfl)),by first | rfl | (simp only[iL,lK,r6,q9,iW];rfl),by (rw[←hP,show n=0 from by omega];rfl)⟩
variable {h:c7}
theorem QR (n:Nat)(hn:n<10000000000000000000):CallA Tryz.prog cfg 181 [.int .u64 (n:Int)] h (fun y h'=>y=.str ⟨(xP n).toArray⟩∧h'=h):=J9 rfl ((c_dig0 n hn).mono fun _ _ h=>by rw[h.1];rfl) h
theorem K3 (n:Int)(h0:0≤n)(hn:n<10000000000000000000):CallA Tryz.prog cfg 181 [.int .u64 n] h (fun y h'=>y=.str ⟨(xP n.toNat).toArray⟩∧h'=h):=by have:=QR (h:=h) n.toNat (by omega);rwa[Int.toNat_of_nonneg h0]at this
theorem c_num (n:Int)(h1:-9000000000000000000≤n)(h2:n<9000000000000000000):CB 163 [.int .i64 n] h (.str (DE n)):=by
  refine CallA.body (Q:=fun y'=>y'=.str (DE n)) u9 fn163 rfl ?_;simp only[ntm163,List.length_cons,List.length_nil,Nat.reduceAdd,Nat.reduceSub,List.replicate,List.cons_append,List.nil_append];have hs1:(xP (-(n+1)+1).toNat).length≤20:=sX 20 _;refine c7z ?_;refine o1.pre 1 t18 ?_;refine c145z ?_;refine c7z ?_;refine o1.pre 2 t18 ?_;refine c6z ?_;refine c8.split 4 rfl (fun e1=>?_) (fun e1=>?_)
  · try simp only[e1]
    have qe1:=e1;try replace qe1:=s9z qe1
    refine c8.zB rfl ?_;refine c7z ?_;refine o1.pre 5 t18 ?_;refine o1.YF rfl rfl rfl hb181 (K3 _ (by omega) (by omega)) ?_;refine o1.pre 2 t18 ?_;refine c68z ?_;refine Ends.mk t66 ?_;exact ⟨[],_,(List.append_nil _).symm,t43,t129⟩
  · try simp only[e1]
    have qe1:=e1;try replace qe1:=s9z qe1
    refine c190z ?_;refine o1.pre 2 t18 ?_;refine o1.YF rfl rfl rfl hb181 (K3 _ (by omega) (by omega)) ?_;refine o1.pre 1 t18 ?_;refine c68z ?_;refine Ends.mk t66 ?_;exact ⟨[],_,(List.append_nil _).symm,t43,t129⟩
theorem strE1:s5 cfg kP 20 188 [.int .i64 1] []=some (.int .i64 6,[]):=by kernel_rfl
theorem strE2:s5 cfg kP 20 188 [.int .i64 2] []=some (.int .i64 6,[]):=by kernel_rfl
theorem strE3:s5 cfg kP 20 188 [.int .i64 3] []=some (.int .i64 5,[]):=by kernel_rfl
theorem strE4:s5 cfg kP 20 188 [.int .i64 4] []=some (.int .i64 5,[]):=by kernel_rfl
theorem strE5:s5 cfg kP 20 188 [.int .i64 5] []=some (.int .i64 4,[]):=by kernel_rfl
theorem strE6:s5 cfg kP 20 188 [.int .i64 6] []=some (.int .i64 4,[]):=by kernel_rfl
theorem strE7:s5 cfg kP 20 188 [.int .i64 7] []=some (.int .i64 4,[]):=by kernel_rfl
theorem strE8:s5 cfg kP 20 188 [.int .i64 8] []=some (.int .i64 3,[]):=by kernel_rfl
theorem strE9:s5 cfg kP 20 188 [.int .i64 9] []=some (.int .i64 3,[]):=by kernel_rfl
theorem strE10:s5 cfg kP 20 188 [.int .i64 10] []=some (.int .i64 2,[]):=by kernel_rfl
theorem strE11:s5 cfg kP 20 188 [.int .i64 11] []=some (.int .i64 2,[]):=by kernel_rfl
theorem strE12:s5 cfg kP 20 188 [.int .i64 12] []=some (.int .i64 2,[]):=by kernel_rfl
theorem strE13:s5 cfg kP 20 188 [.int .i64 13] []=some (.int .i64 2,[]):=by kernel_rfl
theorem strE14:s5 cfg kP 20 188 [.int .i64 14] []=some (.int .i64 2,[]):=by kernel_rfl
theorem strE15:s5 cfg kP 20 188 [.int .i64 15] []=some (.int .i64 2,[]):=by kernel_rfl
theorem strE16:s5 cfg kP 20 188 [.int .i64 16] []=some (.int .i64 1,[]):=by kernel_rfl
theorem strE17:s5 cfg kP 20 188 [.int .i64 17] []=some (.int .i64 0,[]):=by kernel_rfl
theorem rB (o:Int)(h1:1≤o)(h2:o≤17):CallA Tryz.prog cfg 188 [.int .i64 o] h (fun y h'=>y=.int .i64 (gQ o)∧h'=h):=by
  have key:∀(k v:Int),s5 cfg kP 20 188 [.int .i64 k] []=some (.int .i64 v,[])→gQ k=v→CallA Tryz.prog cfg 188 [.int .i64 k] h (fun y h'=>y=.int .i64 (gQ k)∧h'=h):=fun k v he hv=>by rw[hv];exact J9 rfl ((zH u9 CZ 20 _ _ _ _ _ he).mono fun _ _ h=>by rw[h.1];rfl) h
  have hcases:o=1∨o=2∨o=3∨o=4∨o=5∨o=6∨o=7∨o=8∨o=9∨o=10∨o=11∨o=12∨o=13∨o=14∨o=15∨o=16∨o=17:=by omega
  rcases hcases with rfl | rfl | rfl | rfl | rfl | rfl | rfl | rfl | rfl | rfl | rfl | rfl | rfl | rfl | rfl | rfl | rfl
  · exact key _ _ strE1 rfl
  · exact key _ _ strE2 rfl
  · exact key _ _ strE3 rfl
  · exact key _ _ strE4 rfl
  · exact key _ _ strE5 rfl
  · exact key _ _ strE6 rfl
  · exact key _ _ strE7 rfl
  · exact key _ _ strE8 rfl
  · exact key _ _ strE9 rfl
  · exact key _ _ strE10 rfl
  · exact key _ _ strE11 rfl
  · exact key _ _ strE12 rfl
  · exact key _ _ strE13 rfl
  · exact key _ _ strE14 rfl
  · exact key _ _ strE15 rfl
  · exact key _ _ strE16 rfl
  · exact key _ _ strE17 rfl
theorem QS {l:List Ex}{i:Nat}(h:i<l.length):List.take 1 (List.drop (i*4) (n7 l))=[AV.int .i64 (l.getD i l4).op]:=by have:=congrArg (fun x=>x.take 1) (read_es h);simp only[List.take_take,bN]at this;simpa using this
variable {o:Int}
theorem pQ (h1:1≤o)(h2:o≤17):0≤gQ o∧gQ o≤6∧(gQ o=6↔o=1∨o=2)∧(gQ o=5↔o=3∨o=4):=by
  have hcases:o=1∨o=2∨o=3∨o=4∨o=5∨o=6∨o=7∨o=8∨o=9∨o=10∨o=11∨o=12∨o=13∨o=14∨o=15∨o=16∨o=17:=by omega
  rcases hcases with rfl | rfl | rfl | rfl | rfl | rfl | rfl | rfl | rfl | rfl | rfl | rfl | rfl | rfl | rfl | rfl | rfl<;>decide
variable {vars:List BA}
theorem GE.op:∀{d:Nat} {e:Ex},GE vars d e→1≤e.op∧e.op≤17
  | d,.leaf o n s,h=>by have h':=jP.1 h;simp only[Ex.op];omega
  | 0,.un o a,h=>h.elim
  | 0,.bin o a b,h=>h.elim
  | d+1,.un o a,h=>by have:=h.1;simp only[Ex.op];omega
  | d+1,.bin o a b,h=>by have:=h.1;simp only[Ex.op];omega
section
attribute [local go_sem] QS
theorem R8 (e:Ex)(k:Nat)(hk:k<e.args.length)(h1:1≤e.op∧e.op≤17)(h2:1≤(e.args.getD k l4).op∧(e.args.getD k l4).op≤17)(hl:e.args.length≤2):CB 189 [.agg [.int .i64 e.op,.int .i64 e.num,.str e.name,.vec e.args.length (n7 e.args)],.int .i64 (k:Int)] h (.bool (lR e k)):=by
  refine .bz Tryz.f189 29 ?_;refine .z ?_;refine .ss u9 (mkP 12 [0,1,0,7,15,31,63,0,128,511,1023,2047] []) ?_;refine .k 6 [] ?_;refine .ca rfl rfl (rB _ h2.1 h2.2) ?_;refine .k 2 [] ?_;refine .ca rfl rfl (rB _ h1.1 h1.2) ?_;refine .n [] ?_;refine .c5 [1,5,6] ?_;refine c28z ?_;refine .spl 20 rfl rfl (fun e1=>?_) (fun e1=>?_)
  ·try simp only[e1]
   have qe1:=fact e1;refine .k 8 [(3,20),(7,24)] ?_;refine .n ?_;exact .ret (.ex (hq:=t75))
  try simp only[e1]
  have qe1:=fact e1;refine .k 4 [(3,20)] ?_;refine .spl 24 rfl rfl (fun e2=>?_) (fun e2=>?_)
  ·try simp only[e2]
   have qe2:=fact e2;refine .m [(3,20),(7,24)] ?_;exact .ret (.ex (hq:=t75))
  try simp only[e2]
  have qe2:=fact e2;refine .m [(3,20),(7,24)] ?_;exact .ret (.ex (hq:=t75))
end
variable {a:Ex}
theorem AH (h1:1≤o∧o≤17)(h2:1≤a.op∧a.op≤17):CB 189 [.agg [.int .i64 o,.int .i64 0,.str ByteArray.empty,.vec 1 (s8 a)],.int .i64 0] h (.bool (lR (.un o a) 0)):=by have:=R8 (h:=h) (.un o a) 0 t197 h1 h2 t197;simpa only[Ex.op,Ex.num,Ex.name,Ex.args,n7,List.flatMap_cons,List.flatMap_nil,List.append_nil,List.length_cons,List.length_nil,Nat.zero_add,Int.natCast_zero,Int.cast_ofNat_Int] using this
variable {b:Ex}
theorem K4 (h1:1≤o∧o≤17)(h2:1≤a.op∧a.op≤17):CB 189 [.agg [.int .i64 o,.int .i64 0,.str ByteArray.empty,.vec 2 (s8 a++s8 b)],.int .i64 0] h (.bool (lR (.bin o a b) 0)):=by have:=R8 (h:=h) (.bin o a b) 0 t197 h1 h2 t197;simpa only[Ex.op,Ex.num,Ex.name,Ex.args,n7,List.flatMap_cons,List.flatMap_nil,List.append_nil,List.length_cons,List.length_nil,Nat.zero_add,Nat.reduceAdd,Int.natCast_zero,Int.cast_ofNat_Int] using this
theorem vF (h1:1≤o∧o≤17)(h2:1≤b.op∧b.op≤17):CB 189 [.agg [.int .i64 o,.int .i64 0,.str ByteArray.empty,.vec 2 (s8 a++s8 b)],.int .i64 1] h (.bool (lR (.bin o a b) 1)):=by have:=R8 (h:=h) (.bin o a b) 1 t197 h1 h2 t197;simpa only[Ex.op,Ex.num,Ex.name,Ex.args,n7,List.flatMap_cons,List.flatMap_nil,List.append_nil,List.length_cons,List.length_nil,Nat.zero_add,Nat.reduceAdd,Int.natCast_one,Int.cast_ofNat_Int] using this
theorem eY:s8 (.un o a)=[.int .i64 o,.int .i64 0,.str ByteArray.empty,.vec 1 (s8 a)]:=rfl
theorem cR:s8 (.bin o a b)=[.int .i64 o,.int .i64 0,.str ByteArray.empty,.vec 2 (s8 a++s8 b)]:=rfl
theorem bH {n:Int}{s:BA}:s8 (.leaf o n s)=[.int .i64 o,.int .i64 n,.str s,.vec 0 []]:=rfl
theorem jA {l:List AV}:List.take 4 (s8 a++l)=s8 a:=by rw[←o2 a,List.take_left]
theorem jB {l:List AV}:List.drop 4 (s8 a++l)=l:=by rw[←o2 a,List.drop_left]
theorem mJ {s:BA}:(s.toList==ByteArray.empty.toList)=decide (s.size=0):=by
  rw[ByteArray.toList_eq,ByteArray.toList_eq,Bool.eq_iff_iff];simp only[beq_iff_eq,decide_eq_true_eq];constructor
  · intro h
    have:=congrArg List.length h;simpa using this
  · intro h
    exact List.length_eq_zero_iff.1 t185
theorem eq_mk {s:BA}:(⟨#[]⟩:BA)=ByteArray.empty:=rfl
theorem mK:ByteArray.empty.size=0:=rfl
section
attribute [local go_sem] eY cR bH jA jB fY mJ eq_mk mK
theorem QT {vars:List BA}(n:Int)(hn:0≤n):CB 179 [.agg (s8 (.leaf 1 n ByteArray.empty))] h (.bool true):=by
  refine .bz Tryz.f179 77 ?_;have hst:gQ 1=6:=rfl;refine c186z ?_;refine c110z ?_;refine c236z ?_;refine .z ?_;refine .spl 10 rfl rfl (fun e1=>?_) (fun e1=>by exfalso;first | omega | (replace e1:=s10z e1;omega) | (simp at e1;omega) | (simp at e1;done));try simp only[e1]
  have qe1:=fact e1;refine .T ?_;refine c263z ?_;refine .ss u9 (mkP 28 [0,1,3,7,15,31,63,127,255,511,1023,2047,4095,0,8192,24576,57855,123391,254463,516607,1040895,2089471,4186623,8380927,16769535,33546751,33554431,134217727] []) ?_;refine .k 4 [] ?_;refine .spl 15 rfl rfl (fun e2=>?_) (fun e2=>by exfalso;first | omega | (replace e2:=s10z e2;omega) | (simp at e2;omega) | (simp at e2;done));try simp only[e2]
  have qe2:=fact e2;refine .k 5 [(3,15)] ?_;refine .spl 20 rfl rfl (fun e3=>?_) (fun e3=>by exfalso;first | omega | (replace e3:=s10z e3;omega) | (simp at e3;omega) | (simp at e3;done));try simp only[e3]
  have qe3:=fact e3;refine .k 8 [(8,20)] ?_;refine .spl 28 rfl rfl (fun e4=>by exfalso;first | omega | (replace e4:=s10z e4;omega) | (simp at e4;omega) | (simp at e4;done)) (fun e4=>?_);try simp only[e4]
  have qe4:=fact e4;refine .k 8 [(16,28),(21,33)] ?_;refine .n [] ?_;refine .c5 [1,3,4,5] ?_;refine c16z ?_;refine .spl 40 rfl rfl (fun e5=>by exfalso;first | omega | (replace e5:=s10z e5;omega) | (simp at e5;omega) | (simp at e5;done)) (fun e5=>?_);try simp only[e5]
  have qe5:=fact e5;refine .m [(2,40)] ?_;refine c46z ?_;refine c90z ?_;refine c139z ?_;refine .spl 51 rfl rfl (fun e6=>by exfalso;first | omega | (replace e6:=s10z e6;omega) | (simp at e6;omega) | (simp at e6;done)) (fun e6=>?_);try simp only[e6]
  have qe6:=fact e6;refine .k 3 [(5,51)] ?_;refine .spl 54 rfl rfl (fun e7=>by exfalso;first | omega | (replace e7:=s10z e7;omega) | (simp at e7;omega) | (simp at e7;done)) (fun e7=>?_);try simp only[e7]
  have qe7:=fact e7;refine .k 8 [(8,54),(12,58)] ?_;refine .m [(5,51)] ?_;refine c20z ?_;refine c90z ?_;refine c148z ?_;refine .z ?_;exact .ret (.ex (hq:=by rfl))
end
section
attribute [local go_sem] eY cR bH jA jB fY mJ eq_mk mK
theorem QU {vars:List BA}(s:BA)(hn:isName (L8 s))(hr:tG s=false):CB 179 [.agg (s8 (.leaf 2 0 s))] h (.bool true):=by
  refine .bz Tryz.f179 77 ?_;have hst:gQ 2=6:=rfl;have hsz:=(eR hn).1;refine c186z ?_;refine c110z ?_;refine c236z ?_;refine .z ?_;refine .spl 10 rfl rfl (fun e1=>?_) (fun e1=>by exfalso;first | omega | (replace e1:=s10z e1;omega) | (simp at e1;omega) | (simp at e1;done));try simp only[e1]
  have qe1:=fact e1;refine .T ?_;refine c263z ?_;refine .ss u9 (mkP 28 [0,1,3,7,15,31,63,127,255,511,1023,2047,4095,0,8192,24576,57855,123391,254463,516607,1040895,2089471,4186623,8380927,16769535,33546751,33554431,134217727] []) ?_;refine .k 4 [] ?_;refine .spl 15 rfl rfl (fun e2=>by exfalso;first | omega | (replace e2:=s10z e2;omega) | (simp at e2;omega) | (simp at e2;done)) (fun e2=>?_);try simp only[e2]
  have qe2:=fact e2;refine .k 8 [(3,15),(8,20)] ?_;refine .k 5 [] ?_;refine .spl 28 rfl rfl (fun e3=>?_) (fun e3=>by exfalso;first | omega | (replace e3:=s10z e3;omega) | (simp at e3;omega) | (simp at e3;done));try simp only[e3]
  have qe3:=fact e3;refine .k 5 [(16,28)] ?_;refine .spl 33 rfl rfl (fun e4=>?_) (fun e4=>by exfalso;first | omega | (replace e4:=s10z e4;omega) | (simp at e4;omega) | (simp at e4;done));try simp only[e4]
  have qe4:=fact e4;refine .k 2 [(21,33)] ?_;refine .ca rfl rfl (mI _ hn hr) ?_;refine .n [] ?_;refine .c5 [1,3,4,5] ?_;refine .zm [(2,40)] ?_;refine .spl 43 rfl rfl (fun e5=>by exfalso;first | omega | (replace e5:=s10z e5;omega) | (simp at e5;omega) | (simp at e5;done)) (fun e5=>?_);try simp only[e5]
  have qe5:=fact e5;refine c46z ?_;refine c90z ?_;refine c139z ?_;refine .spl 51 rfl rfl (fun e6=>by exfalso;first | omega | (replace e6:=s10z e6;omega) | (simp at e6;omega) | (simp at e6;done)) (fun e6=>?_);try simp only[e6]
  have qe6:=fact e6;refine .k 3 [(5,51)] ?_;refine .spl 54 rfl rfl (fun e7=>by exfalso;first | omega | (replace e7:=s10z e7;omega) | (simp at e7;omega) | (simp at e7;done)) (fun e7=>?_);try simp only[e7]
  have qe7:=fact e7;refine .k 8 [(8,54),(12,58)] ?_;refine .m [(5,51)] ?_;refine c20z ?_;refine c90z ?_;refine c148z ?_;refine .z ?_;exact .ret (.ex (hq:=by rfl))
end
section
attribute [local go_sem] eY cR bH jA jB fY mJ eq_mk mK
theorem QV {vars:List BA}(o:Int)(a:Ex)(ho:o=3∨o=4)(iha:∀(h:c7),CB 179 [.agg (s8 a)] h (.bool true)):CB 179 [.agg (s8 (.un o a))] h (.bool true):=by
  refine .bz Tryz.f179 77 ?_;have hst:=(pQ (o:=o) (by omega) (by omega)).2.2.2.2 ho;refine c186z ?_;refine c110z ?_;refine c236z ?_;refine .z ?_;refine .spl 10 rfl rfl (fun e1=>by exfalso;first | omega | (replace e1:=s10z e1;omega) | (simp at e1;omega) | (simp at e1;done)) (fun e1=>?_);try simp only[e1]
  have qe1:=fact e1;refine c158z ?_;refine .spl 44 rfl rfl (fun e2=>?_) (fun e2=>by exfalso;first | omega | (replace e2:=s10z e2;omega) | (simp at e2;omega) | (simp at e2;done));try simp only[e2]
  have qe2:=fact e2;refine .T ?_;refine .c5 [1] ?_;refine c1z ?_;refine .seq ?_;refine c139z ?_;refine .spl 51 rfl rfl (fun e3=>by exfalso;first | omega | (replace e3:=s10z e3;omega) | (simp at e3;omega) | (simp at e3;done)) (fun e3=>?_);try simp only[e3]
  have qe3:=fact e3;refine .k 3 [(5,51)] ?_;refine .spl 54 rfl rfl (fun e4=>?_) (fun e4=>by exfalso;first | omega | (replace e4:=s10z e4;omega) | (simp at e4;omega) | (simp at e4;done));try simp only[e4]
  have qe4:=fact e4;refine .k 4 [(8,54)] ?_;refine .spl 58 rfl rfl (fun e5=>by exfalso;first | omega | (replace e5:=s10z e5;omega) | (simp at e5;omega) | (simp at e5;done)) (fun e5=>?_);try simp only[e5]
  have qe5:=fact e5;refine .m [(5,51),(8,54),(12,58)] ?_;refine .spl 64 rfl rfl (fun e6=>by exfalso;first | omega | (replace e6:=s10z e6;omega) | (simp at e6;omega) | (simp at e6;done)) (fun e6=>?_);try simp only[e6]
  have qe6:=fact e6;refine c20z ?_;refine c90z ?_;refine c14z ?_;refine c220z ?_;refine c93z ?_;refine .n ?_;refine .spl 76 rfl rfl (fun e7=>by exfalso;first | omega | (replace e7:=s10z e7;omega) | (simp at e7;omega) | (simp at e7;done)) (fun e7=>?_);try simp only[e7]
  have qe7:=fact e7;refine c46z ?_;refine .c5 [1,3,6] ?_;refine .rz ?_;refine c44z ?_;refine c34z ?_;exact .ret (.ex (hq:=by rfl))
end
section
attribute [local go_sem] eY cR bH jA jB fY mJ eq_mk mK
theorem QW {vars:List BA}(o:Int)(a b:Ex)(ho:5≤o∧o≤17)(iha:∀(h:c7),CB 179 [.agg (s8 a)] h (.bool true))(ihb:∀(h:c7),CB 179 [.agg (s8 b)] h (.bool true)):CB 179 [.agg (s8 (.bin o a b))] h (.bool true):=by
  refine .bz Tryz.f179 77 ?_;have hst:=pQ (o:=o) (by omega) (by omega);refine c186z ?_;refine c110z ?_;refine c236z ?_;refine .z ?_;refine .spl 10 rfl rfl (fun e1=>by exfalso;first | omega | (replace e1:=s10z e1;omega) | (simp at e1;omega) | (simp at e1;done)) (fun e1=>?_);try simp only[e1]
  have qe1:=fact e1;refine c158z ?_;refine .spl 44 rfl rfl (fun e2=>by exfalso;first | omega | (replace e2:=s10z e2;omega) | (simp at e2;omega) | (simp at e2;done)) (fun e2=>?_);try simp only[e2]
  have qe2:=fact e2;refine c46z ?_;refine c90z ?_;refine c139z ?_;refine .spl 51 rfl rfl (fun e3=>by exfalso;first | omega | (replace e3:=s10z e3;omega) | (simp at e3;omega) | (simp at e3;done)) (fun e3=>?_);try simp only[e3]
  have qe3:=fact e3;refine .k 3 [(5,51)] ?_;refine .spl 54 rfl rfl (fun e4=>?_) (fun e4=>by exfalso;first | omega | (replace e4:=s10z e4;omega) | (simp at e4;omega) | (simp at e4;done));try simp only[e4]
  have qe4:=fact e4;refine .k 4 [(8,54)] ?_;refine .spl 58 rfl rfl (fun e5=>by exfalso;first | omega | (replace e5:=s10z e5;omega) | (simp at e5;omega) | (simp at e5;done)) (fun e5=>?_);try simp only[e5]
  have qe5:=fact e5;refine .m [(5,51),(8,54),(12,58)] ?_;refine .spl 64 rfl rfl (fun e6=>by exfalso;first | omega | (replace e6:=s10z e6;omega) | (simp at e6;omega) | (simp at e6;done)) (fun e6=>?_);try simp only[e6]
  have qe6:=fact e6;refine c20z ?_;refine c90z ?_;refine c14z ?_;refine c244z ?_;refine .n ?_;refine .spl 76 rfl rfl (fun e7=>by exfalso;first | omega | (replace e7:=s10z e7;omega) | (simp at e7;omega) | (simp at e7;done)) (fun e7=>?_);try simp only[e7]
  have qe7:=fact e7;refine c46z ?_;refine .c5 [1,3,6] ?_;refine .rz ?_;refine c245z ?_;refine .n ?_;refine .spl 76 rfl rfl (fun e8=>by exfalso;first | omega | (replace e8:=s10z e8;omega) | (simp at e8;omega) | (simp at e8;done)) (fun e8=>?_);try simp only[e8]
  have qe8:=fact e8;refine c46z ?_;refine .c5 [1,3,6] ?_;refine .rz ?_;refine c44z ?_;refine c34z ?_;exact .ret (.ex (hq:=by rfl))
end
def z7 (vars:List BA):Prop:=∀x∈vars,isName (L8 x)∧tG x=false
theorem z7.n (h:z7 vars):Names vars:=fun x hx=>(h x hx).1
theorem A4 {vars:List BA}(hv:z7 vars):∀{d:Nat} {e:Ex},GE vars d e→∀(h:c7),CB 179 [.agg (s8 e)] h (.bool true)
  | d,.leaf o n s,hg,h=>by
    rcases jP.1 hg with ⟨rfl,h1,_,rfl⟩ | ⟨rfl,rfl,h1⟩
    · exact QT (vars:=vars) n h1
    · exact QU (vars:=vars) s (hv s h1).1 (hv s h1).2
  | 0,.un o a,hg,h=>hg.elim
  | 0,.bin o a b,hg,h=>hg.elim
  | d+1,.un o a,hg,h=>QV (vars:=vars) o a hg.1 (A4 hv hg.2)
  | d+1,.bin o a b,hg,h=>QW (vars:=vars) o a b hg.1 (A4 hv hg.2.1) (A4 hv hg.2.2)
def mx (a b:Int):Int:=if b > a then b else a
def hgt:Ex→Int
  | .leaf ..=>0
  | .un o a=>mx 0 (if lR (.un o a) 0 then hgt a+1 else hgt a)+1
  | .bin o a b=>mx (mx 0 (if lR (.bin o a b) 0 then hgt a+1 else hgt a)) (if lR (.bin o a b) 1 then hgt b+1 else hgt b)
theorem vG:∀e:Ex,0≤hgt e∧hgt e≤2*(e.dep:Int)
  | .leaf ..=>⟨Int.le_refl _,by simp[hgt,Ex.dep]⟩
  | .un o a=>by have:=vG a;simp only[hgt,mx,Ex.dep];constructor<;>(repeat' split)<;>omega
  | .bin o a b=>by have:=vG a;have:=vG b;simp only[hgt,mx,Ex.dep];constructor<;>(repeat' split)<;>omega
section
attribute [local go_sem] eY cR bH jA jB fY mJ eq_mk mK
theorem IK (o n:Int)(s:BA)(ho:o=1∨o=2):CB 180 [.agg (s8 (.leaf o n s))] h (.int .i64 (hgt (.leaf o n s))):=by
  refine .bz Tryz.f180 34 ?_;have hst:=(pQ (o:=o) (by omega) (by omega)).2.2.1.2 ho;refine c60z ?_;refine c61z ?_;refine c90z ?_;refine c233z ?_;refine .spl 30 rfl rfl (fun e1=>by exfalso;first | omega | (replace e1:=s10z e1;omega) | (simp at e1;omega) | (simp at e1;done)) (fun e1=>?_);try simp only[e1]
  have qe1:=fact e1;refine c150z ?_;exact .ret (.ex (hq:=by rfl))
end
section
attribute [local go_sem] eY cR bH jA jB fY mJ eq_mk mK
theorem IL (o:Int)(a:Ex)(ho:o=3∨o=4)(hd:a.dep≤1000)(hga:1≤a.op∧a.op≤17)(iha:∀(h:c7),CB 180 [.agg (s8 a)] h (.int .i64 (hgt a))):CB 180 [.agg (s8 (.un o a))] h (.int .i64 (hgt (.un o a))):=by
  refine .bz Tryz.f180 34 ?_;have hst:=(pQ (o:=o) (by omega) (by omega)).2.2.2.2 ho;have hha:=vG a;refine c60z ?_;refine c220z ?_;refine c93z ?_;refine c116z ?_;refine .ca rfl rfl (AH (by omega) hga) ?_;refine .nil ?_;refine u2z ?_ ?_
  ·intro e1 qe1;refine c1z ?_;refine c160z ?_;refine c90z ?_;refine c233z ?_;refine .spl 30 rfl rfl (fun e2=>?_) (fun e2=>by exfalso;first | omega | (replace e2:=s10z e2;omega) | (simp at e2;omega) | (simp at e2;done));try simp only[e2]
   have qe2:=fact e2;refine .T ?_;refine c1z ?_;refine .z ?_;exact .ret (.ex (hq:=t61))
  intro e1 qe1;refine .sk ?_;refine c47z ?_;change c8 _ _ _ _ _;refine c256z ?_;refine c9z ?_;refine c8z ?_;refine .seq ?_;refine c233z ?_;refine .spl 30 rfl rfl (fun e3=>?_) (fun e3=>by exfalso;first | omega | (replace e3:=s10z e3;omega) | (simp at e3;omega) | (simp at e3;done));try simp only[e3]
  have qe3:=fact e3;refine .T ?_;refine .c5 [3] ?_;refine c1z ?_;refine .z ?_;exact .ret (.ex (hq:=t61))
end
section
attribute [local go_sem] eY cR bH jA jB fY mJ eq_mk mK
theorem IM (o:Int)(a b:Ex)(ho:5≤o∧o≤17)(hd:a.dep≤1000)(hd2:b.dep≤1000)(hga:1≤a.op∧a.op≤17)(hgb:1≤b.op∧b.op≤17)(iha:∀(h:c7),CB 180 [.agg (s8 a)] h (.int .i64 (hgt a)))(ihb:∀(h:c7),CB 180 [.agg (s8 b)] h (.int .i64 (hgt b))):CB 180 [.agg (s8 (.bin o a b))] h (.int .i64 (hgt (.bin o a b))):=by
  refine .bz Tryz.f180 34 ?_;have hst:=pQ (o:=o) (by omega) (by omega);have hha:=vG a;have hhb:=vG b;refine c60z ?_;refine c244z ?_;refine c116z ?_;refine .ca rfl rfl (K4 (by omega) hga) ?_;refine .nil ?_;refine u2z ?_ ?_
  ·intro e1 qe1;refine c1z ?_;refine c100z ?_;refine c245z ?_;refine c116z ?_;refine .ca rfl rfl (vF (by omega) hgb) ?_;refine .nil ?_;refine u2z ?_ ?_
   ·intro e2 qe2;refine c1z ?_;refine c160z ?_;refine c90z ?_;refine c233z ?_;refine .spl 30 rfl rfl (fun e3=>by exfalso;first | omega | (replace e3:=s10z e3;omega) | (simp at e3;omega) | (simp at e3;done)) (fun e3=>?_);try simp only[e3]
    have qe3:=fact e3;refine c150z ?_;exact .ret (.ex (hq:=t61))
   intro e2 qe2;refine .sk ?_;refine c47z ?_;change c8 _ _ _ _ _;refine c256z ?_;refine c9z ?_;refine c8z ?_;refine .seq ?_;refine c233z ?_;refine .spl 30 rfl rfl (fun e4=>by exfalso;first | omega | (replace e4:=s10z e4;omega) | (simp at e4;omega) | (simp at e4;done)) (fun e4=>?_);try simp only[e4]
   have qe4:=fact e4;refine c20z ?_;refine c184z ?_;exact .ret (.ex (hq:=t61))
  intro e1 qe1;refine .sk ?_;refine c47z ?_;change c8 _ _ _ _ _;refine c256z ?_;refine c111z ?_;refine c2z ?_;refine c125z ?_;refine c116z ?_;refine .ca rfl rfl (vF (by omega) hgb) ?_;refine .nil ?_;refine u2z ?_ ?_
  ·intro e5 qe5;refine c1z ?_;refine c160z ?_;refine c90z ?_;refine c233z ?_;refine .spl 30 rfl rfl (fun e6=>by exfalso;first | omega | (replace e6:=s10z e6;omega) | (simp at e6;omega) | (simp at e6;done)) (fun e6=>?_);try simp only[e6]
   have qe6:=fact e6;refine c150z ?_;exact .ret (.ex (hq:=t61))
  intro e5 qe5;refine .sk ?_;refine c47z ?_;change c8 _ _ _ _ _;refine c256z ?_;refine c9z ?_;refine c8z ?_;refine .seq ?_;refine c233z ?_;refine .spl 30 rfl rfl (fun e7=>by exfalso;first | omega | (replace e7:=s10z e7;omega) | (simp at e7;omega) | (simp at e7;done)) (fun e7=>?_);try simp only[e7]
  have qe7:=fact e7;refine c20z ?_;refine c184z ?_;exact .ret (.ex (hq:=t61))
end
theorem tI {vars:List BA}:∀{d:Nat} {e:Ex},d≤100→GE vars d e→∀(h:c7),CB 180 [.agg (s8 e)] h (.int .i64 (hgt e))
  | d,.leaf o n s,hd,hg,h=>by have h':=jP.1 hg;exact IK o n s (by omega)
  | 0,.un o a,hd,hg,h=>hg.elim
  | 0,.bin o a b,hd,hg,h=>hg.elim
  | d+1,.un o a,hd,hg,h=>IL o a hg.1 (by have:=hg.2.dep;omega) (GE.op hg.2) (tI (by omega) hg.2)
  | d+1,.bin o a b,hd,hg,h=>IM o a b hg.1 (by have:=hg.2.1.dep;omega) (by have:=hg.2.2.dep;omega) (GE.op hg.2.1) (GE.op hg.2.2) (tI (by omega) hg.2.1) (tI (by omega) hg.2.2)
theorem AI (hv:z7 vars){d:Nat}(hd:d≤12)(e:Ex)(hg:GE vars d e):CB 159 [.agg (s8 e)] h (.bool true):=by refine .bz Tryz.f159 10 ?_;have hh:=vG e;have hdp:=hg.dep;refine c128z ?_;refine .ca rfl rfl (A4 hv hg _) ?_;refine .k 2 [(2,5)] ?_;refine .ca rfl rfl (tI (by omega) hg _) ?_;refine .m [(2,5)] ?_;exact .ret (.ex (hq:=by (exact congrArg AV.bool (decide_eq_true (by omega)))))
end Go.Proofs.YtonbocmibeikmaaGreat
end
section
namespace Go.Proofs.YtonbocmibeikmaaGreat
open Go.Ab Go.Un
theorem mx6:(6≤maxLen)=True:=by simp;decide
theorem mx3:(3≤maxLen)=True:=by simp;decide
def sgS (k:Int):List BA:=if k=0 then [(⟨#[124,124]⟩:BA)] else if k=1 then [(⟨#[38,38]⟩:BA)] else if k=2 then [(⟨#[61,61]⟩:BA),(⟨#[33,61]⟩:BA),(⟨#[60]⟩:BA),(⟨#[60,61]⟩:BA),(⟨#[62]⟩:BA),(⟨#[62,61]⟩:BA)] else if k=3 then [(⟨#[43]⟩:BA),(⟨#[45]⟩:BA)] else [(⟨#[42]⟩:BA),(⟨#[47]⟩:BA),(⟨#[37]⟩:BA)]
def sgO (k:Int):List Int:=if k=0 then [17] else if k=1 then [16] else if k=2 then [14,15,10,11,12,13] else if k=3 then [8,9] else [5,6,7]
theorem QX {k:Int}(h0:0≤k)(h4:k≤4):(sgS k).length=(sgO k).length∧(sgO k).length≤6:=by
  have hc:k=0∨k=1∨k=2∨k=3∨k=4:=by omega
  rcases hc with rfl | rfl | rfl | rfl | rfl<;>decide
variable {o:Int}
theorem QY (h:5≤o∧o≤17):∀i,i<(sgO (gQ o)).length→(sgO (gQ o)).getD i 0=o→(sgS (gQ o)).getD i ByteArray.empty=Q7 o:=by
  have hcases:o=5∨o=6∨o=7∨o=8∨o=9∨o=10∨o=11∨o=12∨o=13∨o=14∨o=15∨o=16∨o=17:=by omega
  rcases hcases with rfl | rfl | rfl | rfl | rfl | rfl | rfl | rfl | rfl | rfl | rfl | rfl | rfl<;>decide
theorem QZ (h:5≤o∧o≤17):¬∀i,i<(sgO (gQ o)).length→(sgO (gQ o)).getD i 0≠o:=by
  have hcases:o=5∨o=6∨o=7∨o=8∨o=9∨o=10∨o=11∨o=12∨o=13∨o=14∨o=15∨o=16∨o=17:=by omega
  rcases hcases with rfl | rfl | rfl | rfl | rfl | rfl | rfl | rfl | rfl | rfl | rfl | rfl | rfl<;>decide
theorem tJ (h:5≤o∧o≤17):0≤gQ o∧gQ o≤4:=by
  have hcases:o=5∨o=6∨o=7∨o=8∨o=9∨o=10∨o=11∨o=12∨o=13∨o=14∨o=15∨o=16∨o=17:=by omega
  rcases hcases with rfl | rfl | rfl | rfl | rfl | rfl | rfl | rfl | rfl | rfl | rfl | rfl | rfl<;>decide
variable {i:Nat}
theorem AJ {l:List Int}(h:∀d,d<i→l.getD d 0≠o)(e:l.getD i 0≠o):∀d,d<i+1→l.getD d 0≠o:=fun d hd=>by
  by_cases hdi:d=i
  · rw[hdi];exact e
  · exact h d (by omega)
theorem A5 {a:Array UInt8}:(⟨a⟩:BA).size=a.size:=rfl
variable {h:c7}{a:Ex}{p:Bool}
theorem c_innU (hp:lR (.un o a) 0=p)(h1:1≤o∧o≤17)(h2:1≤a.op∧a.op≤17):CB 189 [.agg [.int .i64 o,.int .i64 0,.str ByteArray.empty,.vec 1 (s8 a)],.int .i64 0] h (.bool p):=by subst hp;exact AH h1 h2
theorem c_inn0 {b:Ex}(hp:lR (.bin o a b) 0=p)(h1:1≤o∧o≤17)(h2:1≤a.op∧a.op≤17):CB 189 [.agg [.int .i64 o,.int .i64 0,.str ByteArray.empty,.vec 2 (s8 a++s8 b)],.int .i64 0] h (.bool p):=by subst hp;exact K4 h1 h2
theorem c_inn1 {b:Ex}(hp:lR (.bin o a b) 1=p)(h1:1≤o∧o≤17)(h2:1≤b.op∧b.op≤17):CB 189 [.agg [.int .i64 o,.int .i64 0,.str ByteArray.empty,.vec 2 (s8 a++s8 b)],.int .i64 1] h (.bool p):=by subst hp;exact vF h1 h2
attribute [local go_sem] j6 rd nA aF o2 bD cM l8 Int.natCast_nonneg Int.natCast_inj List.length_map wrap64 DN wrapU fY AB J4 R3 AD zZ max2 lW mx6 mx3 A5 aE eY cR bH jA jB mJ eq_mk mK rS xT Nat.reduceMul
theorem c_signs (k:Int):CB 186 [.int .i64 k] h (.tup [.vec (sgS k).length (aB (sgS k)),.vec (sgO k).length (g6 (sgO k))]):=by
  refine .bz Tryz.f186 23 ?_;refine c17z ?_;refine .z ?_;refine u2z ?_ ?_
  ·intro e1 qe1;refine .z ?_;exact .ret (.ex (hf:=t35) (hq:=t119))
  intro e1 qe1;refine .z ?_;refine u2z ?_ ?_
  ·intro e2 qe2;refine c34z ?_;exact .ret (.ex (hf:=t35) (hq:=t119))
  intro e2 qe2;refine .z ?_;refine u2z ?_ ?_
  ·intro e3 qe3;refine c34z ?_;exact .ret (.ex (hf:=t35) (hq:=t119))
  intro e3 qe3;refine .c5 [4] ?_;refine .z ?_;refine u2z ?_ ?_
  ·intro e4 qe4;refine .z ?_;exact .ret (.ex (hf:=t35) (hq:=t119))
  intro e4 qe4;refine c4z ?_;refine .z ?_;exact .ret (.ex (hf:=t35) (hq:=t119))
theorem c_text1 (n:Int)(h0:0≤n)(h1:n<4611686018427387904):CB 182 [.agg (s8 (.leaf 1 n ByteArray.empty))] h (.str (cG (.leaf 1 n ByteArray.empty))):=by refine .bz Tryz.f182 95 ?_;refine c60z ?_;refine c61z ?_;refine c234z ?_;refine .T ?_;refine c31z ?_;refine .ca rfl rfl (c_num _ (by omega) (by omega)) ?_;refine .n ?_;exact .ret (.ex (hq:=by (rw[DE,if_neg (by omega)];rfl)))
theorem c_text2 (n:Int)(s:BA):CB 182 [.agg (s8 (.leaf 2 n s))] h (.str (cG (.leaf 2 n s))):=by refine .bz Tryz.f182 95 ?_;refine c60z ?_;refine c61z ?_;refine .sb ?_;refine .c5 [1,3] ?_;refine c9z ?_;refine c111z ?_;refine c263z ?_;exact .ret (.ex (hq:=by rfl))
theorem c_textU (o:Int)(a:Ex)(ho:o=3∨o=4)(hga:1≤a.op∧a.op≤17)(iha:∀(h:c7),CB 182 [.agg (s8 a)] h (.str (cG a)))(hsa:(cG a).size<1000000):CB 182 [.agg (s8 (.un o a))] h (.str (cG (.un o a))):=by
  refine .bz Tryz.f182 95 ?_;refine c60z ?_;refine c220z ?_;refine c93z ?_;refine c116z ?_;refine .ca rfl rfl (c_innU rfl (by omega) hga) ?_;refine .nil ?_;refine u2z ?_ ?_
  ·intro e1 qe1;refine c1z ?_;refine c237z ?_;refine .spl 32 rfl rfl (fun e2=>by exfalso;first | omega | (replace e2:=s10z e2;omega) | (simp at e2;omega) | (simp at e2;done)) (fun e2=>?_);try simp only[e2]
   have qe2:=fact e2;refine c158z ?_;refine .spl 39 rfl rfl (fun e3=>by exfalso;first | omega | (replace e3:=s10z e3;omega) | (simp at e3;omega) | (simp at e3;done)) (fun e3=>?_);try simp only[e3]
   have qe3:=fact e3;refine .F ?_;refine c73z ?_;refine u2z ?_ ?_
   ·intro e4 qe4;refine .z ?_;exact .ret (.ex (hq:=t162))
   intro e4 qe4;refine .z ?_;refine .spl 53 rfl rfl (fun e5=>?_) (fun e5=>by exfalso;first | omega | (replace e5:=s10z e5;omega) | (simp at e5;omega) | (simp at e5;done));try simp only[e5]
   have qe5:=fact e5;refine .T ?_;refine c184z ?_;exact .ret (.ex (hq:=t162))
  intro e1 qe1;refine .sk ?_;refine c237z ?_;refine .spl 32 rfl rfl (fun e6=>by exfalso;first | omega | (replace e6:=s10z e6;omega) | (simp at e6;omega) | (simp at e6;done)) (fun e6=>?_);try simp only[e6]
  have qe6:=fact e6;refine c158z ?_;refine .spl 39 rfl rfl (fun e7=>by exfalso;first | omega | (replace e7:=s10z e7;omega) | (simp at e7;omega) | (simp at e7;done)) (fun e7=>?_);try simp only[e7]
  have qe7:=fact e7;refine .F ?_;refine c73z ?_;refine u2z ?_ ?_
  ·intro e8 qe8;refine .z ?_;exact .ret (.ex (hq:=t162))
  intro e8 qe8;refine .z ?_;refine .spl 53 rfl rfl (fun e9=>?_) (fun e9=>by exfalso;first | omega | (replace e9:=s10z e9;omega) | (simp at e9;omega) | (simp at e9;done));try simp only[e9]
  have qe9:=fact e9;refine .T ?_;refine c184z ?_;exact .ret (.ex (hq:=t162))
theorem IN (o:Int)(a b:Ex)(ho:5≤o∧o≤17)(hga:1≤a.op∧a.op≤17)(hgb:1≤b.op∧b.op≤17)(hp:lR (.bin o a b) 0=true)(hq:lR (.bin o a b) 1=true)(iha:∀(h:c7),CB 182 [.agg (s8 a)] h (.str (cG a)))(hsa:(cG a).size<1000000)(ihb:∀(h:c7),CB 182 [.agg (s8 b)] h (.str (cG b)))(hsb:(cG b).size<1000000):CB 182 [.agg (s8 (.bin o a b))] h (.str (cG (.bin o a b))):=by
  refine .bz Tryz.f182 95 ?_;have hst:=tJ ho;have hsg:=QX hst.1 hst.2;have hsa2:=QY ho;have hse:=(uV ho).2;refine c60z ?_;refine c244z ?_;refine c153z ?_;refine .nil ?_;refine .T ?_;refine c1z ?_;refine c100z ?_;refine c245z ?_;refine c154z ?_;refine .nil ?_;refine .T ?_;refine c1z ?_;refine c237z ?_;refine .spl 32 rfl rfl (fun e1=>by exfalso;first | omega | (replace e1:=s10z e1;omega) | (simp at e1;omega) | (simp at e1;done)) (fun e1=>?_);try simp only[e1]
  have qe1:=fact e1;refine c158z ?_;refine .spl 39 rfl rfl (fun e2=>by exfalso;first | omega | (replace e2:=s10z e2;omega) | (simp at e2;omega) | (simp at e2;done)) (fun e2=>?_);try simp only[e2]
  have qe2:=fact e2;refine .F ?_;refine c73z ?_;refine .spl 45 rfl rfl (fun e3=>by exfalso;first | omega | (replace e3:=s10z e3;omega) | (simp at e3;omega) | (simp at e3;done)) (fun e3=>?_);try simp only[e3]
  have qe3:=fact e3;refine c158z ?_;refine .spl 53 rfl rfl (fun e4=>by exfalso;first | omega | (replace e4:=s10z e4;omega) | (simp at e4;omega) | (simp at e4;done)) (fun e4=>?_);try simp only[e4]
  have qe4:=fact e4;refine c46z ?_;refine c268z ?_;refine .n ?_;refine c5z ?_;refine .cA (fun m st=>∃(i:Nat),(m=(sgO (gQ o)).length-i∧((∀d,d<i→(sgO (gQ o)).getD d 0≠o)∧i≤(sgO (gQ o)).length))∧st=⟨mkS 95 [(1,AV.ptr h.length 0 0),(3,AV.own (h.length+2) 1 0 2),(6,AV.vec (sgS (gQ o)).length (aB (sgS (gQ o)))),(7,AV.vec (sgO (gQ o)).length (g6 (sgO (gQ o)))),(8,AV.int .i64 ((i:Nat):Int))],h++[⟨0,false,49,4,[.int .i64 o,.int .i64 0,.str ByteArray.empty,.vec 2 (s8 a++s8 b)],0⟩,⟨0,false,9,1,[.str (⟨#[40]⟩++cG a++⟨#[41]⟩)],0⟩,⟨1,false,9,1,[.str (⟨#[40]⟩++cG a++⟨#[41]⟩),.str (⟨#[40]⟩++cG b++⟨#[41]⟩)],0⟩,⟨0,false,9,1,[.str (⟨#[40]⟩++cG b++⟨#[41]⟩)],0⟩]⟩) _ (.v ⟨0,⟨rfl,⟨t107,by omega⟩⟩,rfl⟩) ?_;rintro m sl h' ⟨i,⟨hm,⟨hI,hi⟩⟩,hst⟩;obtain ⟨rfl,rfl⟩:=St.mk.inj hst;refine c0z ?_;refine u2z ?_ ?_
  ·intro e5 qe5;refine c2z ?_;refine c140z ?_;refine u2z ?_ ?_
   ·intro e6 qe6;refine .c5 [3,6,8] ?_;have hsi:=hsa2 i (by omega) (by assumption);have hss:((sgS (gQ o)).getD i ByteArray.empty).size≤2:=by rw[hsi];exact hse
    refine c74z ?_;exact .ret (.ex (hq:=t144))
   intro e6 qe6;refine c224z ?_;refine .rz ?_;exact ⟨_,by omega,.v ⟨(i+1),⟨rfl,⟨AJ hI (by assumption),by omega⟩⟩,rfl⟩⟩
  intro e5 qe5;refine .exit ?_;exfalso;exact QZ ho (fun d hd=>hI d (by omega))
theorem IP (o:Int)(a b:Ex)(ho:5≤o∧o≤17)(hga:1≤a.op∧a.op≤17)(hgb:1≤b.op∧b.op≤17)(hp:lR (.bin o a b) 0=true)(hq:lR (.bin o a b) 1=false)(iha:∀(h:c7),CB 182 [.agg (s8 a)] h (.str (cG a)))(hsa:(cG a).size<1000000)(ihb:∀(h:c7),CB 182 [.agg (s8 b)] h (.str (cG b)))(hsb:(cG b).size<1000000):CB 182 [.agg (s8 (.bin o a b))] h (.str (cG (.bin o a b))):=by
  refine .bz Tryz.f182 95 ?_;have hst:=tJ ho;have hsg:=QX hst.1 hst.2;have hsa2:=QY ho;have hse:=(uV ho).2;refine c60z ?_;refine c244z ?_;refine c153z ?_;refine .nil ?_;refine .T ?_;refine c1z ?_;refine c100z ?_;refine c245z ?_;refine c154z ?_;refine .nil ?_;refine c20z ?_;refine c237z ?_;refine .spl 32 rfl rfl (fun e1=>by exfalso;first | omega | (replace e1:=s10z e1;omega) | (simp at e1;omega) | (simp at e1;done)) (fun e1=>?_);try simp only[e1]
  have qe1:=fact e1;refine c158z ?_;refine .spl 39 rfl rfl (fun e2=>by exfalso;first | omega | (replace e2:=s10z e2;omega) | (simp at e2;omega) | (simp at e2;done)) (fun e2=>?_);try simp only[e2]
  have qe2:=fact e2;refine .F ?_;refine c73z ?_;refine .spl 45 rfl rfl (fun e3=>by exfalso;first | omega | (replace e3:=s10z e3;omega) | (simp at e3;omega) | (simp at e3;done)) (fun e3=>?_);try simp only[e3]
  have qe3:=fact e3;refine c158z ?_;refine .spl 53 rfl rfl (fun e4=>by exfalso;first | omega | (replace e4:=s10z e4;omega) | (simp at e4;omega) | (simp at e4;done)) (fun e4=>?_);try simp only[e4]
  have qe4:=fact e4;refine c46z ?_;refine c268z ?_;refine .n ?_;refine c5z ?_;refine .cA (fun m st=>∃(i:Nat),(m=(sgO (gQ o)).length-i∧((∀d,d<i→(sgO (gQ o)).getD d 0≠o)∧i≤(sgO (gQ o)).length))∧st=⟨mkS 95 [(1,AV.ptr h.length 0 0),(3,AV.own (h.length+2) 1 0 2),(6,AV.vec (sgS (gQ o)).length (aB (sgS (gQ o)))),(7,AV.vec (sgO (gQ o)).length (g6 (sgO (gQ o)))),(8,AV.int .i64 ((i:Nat):Int))],h++[⟨0,false,49,4,[.int .i64 o,.int .i64 0,.str ByteArray.empty,.vec 2 (s8 a++s8 b)],0⟩,⟨0,false,9,1,[.str (⟨#[40]⟩++cG a++⟨#[41]⟩)],0⟩,⟨1,false,9,1,[.str (⟨#[40]⟩++cG a++⟨#[41]⟩),.str (cG b)],0⟩,⟨0,false,9,1,[.str (cG b)],0⟩]⟩) _ (.v ⟨0,⟨rfl,⟨t107,by omega⟩⟩,rfl⟩) ?_;rintro m sl h' ⟨i,⟨hm,⟨hI,hi⟩⟩,hst⟩;obtain ⟨rfl,rfl⟩:=St.mk.inj hst;refine c0z ?_;refine u2z ?_ ?_
  ·intro e5 qe5;refine c2z ?_;refine c140z ?_;refine u2z ?_ ?_
   ·intro e6 qe6;refine .c5 [3,6,8] ?_;have hsi:=hsa2 i (by omega) (by assumption);have hss:((sgS (gQ o)).getD i ByteArray.empty).size≤2:=by rw[hsi];exact hse
    refine c74z ?_;exact .ret (.ex (hq:=t144))
   intro e6 qe6;refine c224z ?_;refine .rz ?_;exact ⟨_,by omega,.v ⟨(i+1),⟨rfl,⟨AJ hI (by assumption),by omega⟩⟩,rfl⟩⟩
  intro e5 qe5;refine .exit ?_;exfalso;exact QZ ho (fun d hd=>hI d (by omega))
theorem IQ (o:Int)(a b:Ex)(ho:5≤o∧o≤17)(hga:1≤a.op∧a.op≤17)(hgb:1≤b.op∧b.op≤17)(hp:lR (.bin o a b) 0=false)(hq:lR (.bin o a b) 1=true)(iha:∀(h:c7),CB 182 [.agg (s8 a)] h (.str (cG a)))(hsa:(cG a).size<1000000)(ihb:∀(h:c7),CB 182 [.agg (s8 b)] h (.str (cG b)))(hsb:(cG b).size<1000000):CB 182 [.agg (s8 (.bin o a b))] h (.str (cG (.bin o a b))):=by
  refine .bz Tryz.f182 95 ?_;have hst:=tJ ho;have hsg:=QX hst.1 hst.2;have hsa2:=QY ho;have hse:=(uV ho).2;refine c60z ?_;refine c244z ?_;refine c153z ?_;refine .nil ?_;refine c20z ?_;refine c100z ?_;refine c245z ?_;refine c154z ?_;refine .nil ?_;refine .T ?_;refine c1z ?_;refine c237z ?_;refine .spl 32 rfl rfl (fun e1=>by exfalso;first | omega | (replace e1:=s10z e1;omega) | (simp at e1;omega) | (simp at e1;done)) (fun e1=>?_);try simp only[e1]
  have qe1:=fact e1;refine c158z ?_;refine .spl 39 rfl rfl (fun e2=>by exfalso;first | omega | (replace e2:=s10z e2;omega) | (simp at e2;omega) | (simp at e2;done)) (fun e2=>?_);try simp only[e2]
  have qe2:=fact e2;refine .F ?_;refine c73z ?_;refine .spl 45 rfl rfl (fun e3=>by exfalso;first | omega | (replace e3:=s10z e3;omega) | (simp at e3;omega) | (simp at e3;done)) (fun e3=>?_);try simp only[e3]
  have qe3:=fact e3;refine c158z ?_;refine .spl 53 rfl rfl (fun e4=>by exfalso;first | omega | (replace e4:=s10z e4;omega) | (simp at e4;omega) | (simp at e4;done)) (fun e4=>?_);try simp only[e4]
  have qe4:=fact e4;refine c46z ?_;refine c268z ?_;refine .n ?_;refine c5z ?_;refine .cA (fun m st=>∃(i:Nat),(m=(sgO (gQ o)).length-i∧((∀d,d<i→(sgO (gQ o)).getD d 0≠o)∧i≤(sgO (gQ o)).length))∧st=⟨mkS 95 [(1,AV.ptr h.length 0 0),(3,AV.own (h.length+2) 1 0 2),(6,AV.vec (sgS (gQ o)).length (aB (sgS (gQ o)))),(7,AV.vec (sgO (gQ o)).length (g6 (sgO (gQ o)))),(8,AV.int .i64 ((i:Nat):Int))],h++[⟨0,false,49,4,[.int .i64 o,.int .i64 0,.str ByteArray.empty,.vec 2 (s8 a++s8 b)],0⟩,⟨0,false,9,1,[.str (cG a)],0⟩,⟨1,false,9,1,[.str (cG a),.str (⟨#[40]⟩++cG b++⟨#[41]⟩)],0⟩,⟨0,false,9,1,[.str (⟨#[40]⟩++cG b++⟨#[41]⟩)],0⟩]⟩) _ (.v ⟨0,⟨rfl,⟨t107,by omega⟩⟩,rfl⟩) ?_;rintro m sl h' ⟨i,⟨hm,⟨hI,hi⟩⟩,hst⟩;obtain ⟨rfl,rfl⟩:=St.mk.inj hst;refine c0z ?_;refine u2z ?_ ?_
  ·intro e5 qe5;refine c2z ?_;refine c140z ?_;refine u2z ?_ ?_
   ·intro e6 qe6;refine .c5 [3,6,8] ?_;have hsi:=hsa2 i (by omega) (by assumption);have hss:((sgS (gQ o)).getD i ByteArray.empty).size≤2:=by rw[hsi];exact hse
    refine c74z ?_;exact .ret (.ex (hq:=t144))
   intro e6 qe6;refine c224z ?_;refine .rz ?_;exact ⟨_,by omega,.v ⟨(i+1),⟨rfl,⟨AJ hI (by assumption),by omega⟩⟩,rfl⟩⟩
  intro e5 qe5;refine .exit ?_;exfalso;exact QZ ho (fun d hd=>hI d (by omega))
theorem IS (o:Int)(a b:Ex)(ho:5≤o∧o≤17)(hga:1≤a.op∧a.op≤17)(hgb:1≤b.op∧b.op≤17)(hp:lR (.bin o a b) 0=false)(hq:lR (.bin o a b) 1=false)(iha:∀(h:c7),CB 182 [.agg (s8 a)] h (.str (cG a)))(hsa:(cG a).size<1000000)(ihb:∀(h:c7),CB 182 [.agg (s8 b)] h (.str (cG b)))(hsb:(cG b).size<1000000):CB 182 [.agg (s8 (.bin o a b))] h (.str (cG (.bin o a b))):=by
  refine .bz Tryz.f182 95 ?_;have hst:=tJ ho;have hsg:=QX hst.1 hst.2;have hsa2:=QY ho;have hse:=(uV ho).2;refine c60z ?_;refine c244z ?_;refine c153z ?_;refine .nil ?_;refine c20z ?_;refine c100z ?_;refine c245z ?_;refine c154z ?_;refine .nil ?_;refine c20z ?_;refine c237z ?_;refine .spl 32 rfl rfl (fun e1=>by exfalso;first | omega | (replace e1:=s10z e1;omega) | (simp at e1;omega) | (simp at e1;done)) (fun e1=>?_);try simp only[e1]
  have qe1:=fact e1;refine c158z ?_;refine .spl 39 rfl rfl (fun e2=>by exfalso;first | omega | (replace e2:=s10z e2;omega) | (simp at e2;omega) | (simp at e2;done)) (fun e2=>?_);try simp only[e2]
  have qe2:=fact e2;refine .F ?_;refine c73z ?_;refine .spl 45 rfl rfl (fun e3=>by exfalso;first | omega | (replace e3:=s10z e3;omega) | (simp at e3;omega) | (simp at e3;done)) (fun e3=>?_);try simp only[e3]
  have qe3:=fact e3;refine c158z ?_;refine .spl 53 rfl rfl (fun e4=>by exfalso;first | omega | (replace e4:=s10z e4;omega) | (simp at e4;omega) | (simp at e4;done)) (fun e4=>?_);try simp only[e4]
  have qe4:=fact e4;refine c46z ?_;refine c268z ?_;refine .n ?_;refine c5z ?_;refine .cA (fun m st=>∃(i:Nat),(m=(sgO (gQ o)).length-i∧((∀d,d<i→(sgO (gQ o)).getD d 0≠o)∧i≤(sgO (gQ o)).length))∧st=⟨mkS 95 [(1,AV.ptr h.length 0 0),(3,AV.own (h.length+2) 1 0 2),(6,AV.vec (sgS (gQ o)).length (aB (sgS (gQ o)))),(7,AV.vec (sgO (gQ o)).length (g6 (sgO (gQ o)))),(8,AV.int .i64 ((i:Nat):Int))],h++[⟨0,false,49,4,[.int .i64 o,.int .i64 0,.str ByteArray.empty,.vec 2 (s8 a++s8 b)],0⟩,⟨0,false,9,1,[.str (cG a)],0⟩,⟨1,false,9,1,[.str (cG a),.str (cG b)],0⟩,⟨0,false,9,1,[.str (cG b)],0⟩]⟩) _ (.v ⟨0,⟨rfl,⟨t107,by omega⟩⟩,rfl⟩) ?_;rintro m sl h' ⟨i,⟨hm,⟨hI,hi⟩⟩,hst⟩;obtain ⟨rfl,rfl⟩:=St.mk.inj hst;refine c0z ?_;refine u2z ?_ ?_
  ·intro e5 qe5;refine c2z ?_;refine c140z ?_;refine u2z ?_ ?_
   ·intro e6 qe6;refine .c5 [3,6,8] ?_;have hsi:=hsa2 i (by omega) (by assumption);have hss:((sgS (gQ o)).getD i ByteArray.empty).size≤2:=by rw[hsi];exact hse
    refine c74z ?_;exact .ret (.ex (hq:=t144))
   intro e6 qe6;refine c224z ?_;refine .rz ?_;exact ⟨_,by omega,.v ⟨(i+1),⟨rfl,⟨AJ hI (by assumption),by omega⟩⟩,rfl⟩⟩
  intro e5 qe5;refine .exit ?_;exfalso;exact QZ ho (fun d hd=>hI d (by omega))
theorem c_textB (o:Int)(a b:Ex)(ho:5≤o∧o≤17)(hga:1≤a.op∧a.op≤17)(hgb:1≤b.op∧b.op≤17)(iha:∀(h:c7),CB 182 [.agg (s8 a)] h (.str (cG a)))(hsa:(cG a).size<1000000)(ihb:∀(h:c7),CB 182 [.agg (s8 b)] h (.str (cG b)))(hsb:(cG b).size<1000000):CB 182 [.agg (s8 (.bin o a b))] h (.str (cG (.bin o a b))):=by
  cases hp:lR (.bin o a b) 0<;>cases hq:lR (.bin o a b) 1
  · exact IS o a b ho hga hgb hp hq iha hsa ihb hsb
  · exact IQ o a b ho hga hgb hp hq iha hsa ihb hsb
  · exact IP o a b ho hga hgb hp hq iha hsa ihb hsb
  · exact IN o a b ho hga hgb hp hq iha hsa ihb hsb
theorem R9:∀{d:Nat},d≤3→D8 d<1000000
  | 0,_=>by decide
  | 1,_=>by decide
  | 2,_=>by decide
  | 3,_=>by decide
theorem vH {vars:List BA}(hv:Names vars):∀{d:Nat} {e:Ex},d≤3→GE vars d e→∀(h:c7),CB 182 [.agg (s8 e)] h (.str (cG e))
  | d,.leaf o n s,hd,hg,h=>by
    rcases jP.1 hg with ⟨rfl,h1,h2,rfl⟩ | ⟨rfl,rfl,h1⟩
    · exact c_text1 n h1 h2
    · exact c_text2 0 s
  | 0,.un o a,hd,hg,h=>hg.elim
  | 0,.bin o a b,hd,hg,h=>hg.elim
  | d+1,.un o a,hd,hg,h=>c_textU o a hg.1 (GE.op hg.2) (vH hv (by omega) hg.2) (Nat.lt_of_le_of_lt (cJ hv hg.2).2 (R9 (by omega)))
  | d+1,.bin o a b,hd,hg,h=>c_textB o a b hg.1 (GE.op hg.2.1) (GE.op hg.2.2) (vH hv (by omega) hg.2.1) (Nat.lt_of_le_of_lt (cJ hv hg.2.1).2 (R9 (by omega))) (vH hv (by omega) hg.2.2) (Nat.lt_of_le_of_lt (cJ hv hg.2.2).2 (R9 (by omega)))
theorem IT {e:Ex}:n7 [e]=s8 e:=by simp[n7]
theorem IU (x:BA):CB 184 [.agg [.str x,.vec 0 []]] h (.str x):=by refine .bz Tryz.f184 19 ?_;refine c89z ?_;refine .T ?_;refine .z ?_;exact .ret (.ex (hq:=by rfl))
variable {vars:List BA}
theorem c_refT1 (hv:Names vars)(x:BA)(e:Ex)(hg:GE vars 1 e)(hx:x.size≤16):CB 184 [.agg [.str x,.vec 1 (s8 e)]] h (.str (x++NQ++cG e++NR)):=by refine .bz Tryz.f184 19 ?_;have hse:=(cJ hv hg).2;have hb:D8 1=48:=rfl;refine c89z ?_;refine c20z ?_;refine .ss u9 (mkP 11 [0,1,3,0,8,24,56,120,255,511,1023] []) ?_;refine .k 7 [] ?_;refine .ca rfl rfl (vH hv (by omega) hg _) ?_;refine .n [] ?_;exact .ret (.ex (hq:=by rfl))
variable {E:Env}
theorem AK (hE:sY E)(hv:Names vars){r:Rf}(g:GR E vars r):CB 184 [.agg (Z1 r)] h (.str (NS r)):=by
  obtain ⟨x,idx⟩:=r;rcases g with ⟨m,hm,hn,⟨_,e,hi,he⟩ | ⟨_,hi⟩⟩ | ⟨p,hp,_,hn,hi⟩
  · have hx:=z1 (hE.mn m hm)
    simp only at hn hi;rw[←hn]at hx;subst hi;have:=c_refT1 (h:=h) hv x e he hx;simp only[Z1,List.length_singleton,IT];exact this
  · simp only at hi
    subst hi;exact IU x
  · simp only at hi
    subst hi;exact IU x
variable {xs:List Ar}
theorem RA (h:(xs.getD i dO).mu=true)(h0:0<i):eT xs (i+1)=eT xs i++lS++bO++NS (xs.getD i dO).r:=by rw[eT,if_pos h,if_pos h0]
theorem RC (h:(xs.getD i dO).mu=true)(h0:¬0<i):eT xs (i+1)=eT xs i++bO++NS (xs.getD i dO).r:=by rw[eT,if_pos h,if_neg h0]
theorem RD (h:(xs.getD i dO).mu=false)(h0:0<i):eT xs (i+1)=eT xs i++lS++cG (xs.getD i dO).e:=by rw[eT,if_neg t198,if_pos h0]
theorem RE (h:(xs.getD i dO).mu=false)(h0:¬0<i):eT xs (i+1)=eT xs i++cG (xs.getD i dO).e:=by rw[eT,if_neg t198,if_neg h0]
theorem vI {a:Ar}:EV a=[.bool a.mu,.str a.r.name,.vec a.r.idx.length (n7 a.r.idx),.int .i64 a.e.op,.int .i64 a.e.num,.str a.e.name,.vec a.e.args.length (n7 a.e.args)]:=by rw[EV,bN]
variable {l:List Ar}
theorem RF (h:i<l.length):List.take 1 (List.drop (i*7) (bE l))=[AV.bool (l.getD i dO).mu]:=by have:=congrArg (fun x=>x.take 1) (uS h);simp only[List.take_take,vI]at this;simpa using this
theorem read_ar (h:i<l.length):List.take 2 (List.drop (i*7+1) (bE l))=Z1 (l.getD i dO).r:=by have:=congrArg (fun x=>(x.drop 1).take 2) (uS h);simp only[vI,List.drop_take,List.take_take,List.drop_drop]at this;simpa [Z1] using this
theorem read_ae (h:i<l.length):List.take 4 (List.drop (i*7+3) (bE l))=s8 (l.getD i dO).e:=by have:=congrArg (fun x=>(x.drop 3).take 4) (uS h);simp only[vI,List.drop_take,List.take_take,List.drop_drop]at this;rw[bN];simpa using this
theorem DP (hE:sY E)(hv:Names vars)(h:∀a∈xs,(a.mu=true∧GR E vars a.r)∨(a.mu=false∧GE vars 2 a.e))(i:Nat)(hi:i≤xs.length):(eT xs i).size≤1+112*i:=(zV hE hv h i hi).2.1
theorem WN (h:∀a∈xs,(a.mu=true∧GR E vars a.r)∨(a.mu=false∧GE vars 2 a.e))(hi:i<xs.length):((xs.getD i dO).mu=true→GR E vars (xs.getD i dO).r)∧((xs.getD i dO).mu=false→GE vars 2 (xs.getD i dO).e):=by
  have hm:=h _ (j7 (d:=dO) hi);rcases hm with ⟨h1,h2⟩ | ⟨h1,h2⟩
  · exact ⟨fun _=>h2,fun h=>absurd (h1.symm.trans h) (by decide)⟩
  · exact ⟨fun h=>absurd (h1.symm.trans h) (by decide),fun _=>h2⟩
section
attribute [local go_sem] RF read_ar read_ae
theorem IV (hE:sY E)(hv:Names vars)(xs:List Ar)(ha:∀a∈xs,(a.mu=true∧GR E vars a.r)∨(a.mu=false∧GE vars 2 a.e))(hl:xs.length≤100):CB 183 [.vec xs.length (bE xs)] h (.str (VU xs)):=by
  refine .bz Tryz.f183 39 ?_;refine c60z ?_;refine .cA (fun m st=>∃(i:Nat),(m=xs.length-i∧i≤xs.length)∧st=⟨mkS 39 [(0,AV.vec xs.length (bE xs)),(3,AV.str (eT xs i)),(4,AV.int .i64 ((i:Nat):Int))],h⟩) _ (.v ⟨0,⟨rfl,by omega⟩,rfl⟩ (hs:=t29)) ?_;rintro m sl h' ⟨i,⟨hm,hi⟩,hst⟩;obtain ⟨rfl,rfl⟩:=St.mk.inj hst;have hsz:=DP hE hv ha i hi;refine c0z ?_;refine u2z ?_ ?_
  ·intro e1 qe1;refine c2z ?_;refine c0z ?_;refine u2z ?_ ?_
   ·intro e2 qe2;refine c1z ?_;refine .c5 [0,3,4] ?_;have har:=WN ha (i:=i) (by omega);refine .z ?_;refine u2z ?_ ?_
    ·intro e3 qe3;have hrs:=((har.1 (by assumption)).pw hE hv).2;refine .r ?_;refine .e 7 ?_;refine .ca rfl rfl (AK hE hv (har.1 (by assumption))) ?_;refine c257z ?_;refine .rz ?_;exact ⟨_,by omega,.v ⟨(i+1),⟨rfl,by omega⟩,rfl⟩ (hs:=t29)⟩
    intro e3 qe3;have hes:=(cJ hv (har.2 (by assumption))).2;have hb:D8 2=104:=rfl;refine .r ?_;refine .e 6 ?_;refine .ca rfl rfl (vH hv (by omega) (har.2 (by assumption)) _) ?_;refine c257z ?_;refine .rz ?_;exact ⟨_,by omega,.v ⟨(i+1),⟨rfl,by omega⟩,rfl⟩ (hs:=t29)⟩
   intro e2 qe2;refine .sk ?_;have har:=WN ha (i:=i) (by omega);refine .z ?_;refine u2z ?_ ?_
   ·intro e4 qe4;refine .c5 [0,3,4] ?_;have hrs:=((har.1 (by assumption)).pw hE hv).2;refine .r ?_;refine .e 7 ?_;refine .ca rfl rfl (AK hE hv (har.1 (by assumption))) ?_;refine c257z ?_;refine .rz ?_;exact ⟨_,by omega,.v ⟨(i+1),⟨rfl,by omega⟩,rfl⟩ (hs:=t29)⟩
   intro e4 qe4;refine .c5 [0,3,4] ?_;have hes:=(cJ hv (har.2 (by assumption))).2;have hb:D8 2=104:=rfl;refine .r ?_;refine .e 6 ?_;refine .ca rfl rfl (vH hv (by omega) (har.2 (by assumption)) _) ?_;refine c257z ?_;refine .rz ?_;exact ⟨_,by omega,.v ⟨(i+1),⟨rfl,by omega⟩,rfl⟩ (hs:=t29)⟩
  intro e1 qe1;refine .exit ?_;obtain rfl:i=xs.length:=by omega
  refine c191z ?_;exact ⟨[],_,(List.append_nil _).symm,t43,by rfl⟩
end
section
attribute [local go_sem] l4
theorem c_noE:CB 160 [.agg (s8 l4)] h (.bool true):=by refine .bz Tryz.f160 22 ?_;refine .z ?_;refine .s ?_;refine .k 8 [(3,6)] ?_;refine .k 8 [(8,11),(13,16)] ?_;refine .m [(13,16)] ?_;exact .ret (.ex (hq:=by rfl))
end
theorem c_noR:CB 162 [.agg (Z1 n5)] h (.bool true):=by show CallA _ _ _ [.agg [.str ByteArray.empty,.vec 0 []]] _ _;refine .bz Tryz.f162 12 ?_;refine .z ?_;refine .s ?_;refine .k 8 [(3,6)] ?_;refine .n ?_;exact .ret (.ex (hq:=by rfl))
theorem WO (x:BA)(hx:isName (L8 x))(hr:tG x=false):CB 161 [.agg [.str x,.vec 0 []]] h (.bool true):=by refine .bz Tryz.f161 25 ?_;refine .z ?_;refine c31z ?_;refine .ca rfl rfl (mI _ hx hr) ?_;refine .k 8 [(3,6),(8,11)] ?_;refine .k 8 [(8,11),(13,16)] ?_;refine .m [(3,6),(8,11)] ?_;exact .ret (.ex (hq:=by rfl))
theorem c_okR1 (hv:z7 vars)(x:BA)(hx:isName (L8 x))(hr:tG x=false)(e:Ex)(hg:GE vars 1 e):CB 161 [.agg [.str x,.vec 1 (s8 e)]] h (.bool true):=by refine .bz Tryz.f161 25 ?_;refine .z ?_;refine c31z ?_;refine .ca rfl rfl (mI _ hx hr) ?_;refine .k 8 [(3,6),(8,11)] ?_;refine .k 7 [(8,11),(13,16)] ?_;refine .ca rfl rfl (AI hv (by omega) e hg) ?_;refine .m [(3,6),(8,11)] ?_;exact .ret (.ex (hq:=by rfl))
structure GRes (E:Env):Prop where
  mn:∀m∈E.mutexes,tG m.name=false
  pn:∀p∈E.params,tG p.name=false
theorem RG (hE:sY E)(hR:GRes E)(hv:z7 vars){r:Rf}(g:GR E vars r):CB 161 [.agg (Z1 r)] h (.bool true):=by
  obtain ⟨x,idx⟩:=r;rcases g with ⟨m,hm,hn,⟨_,e,hi,he⟩ | ⟨_,hi⟩⟩ | ⟨p,hp,_,hn,hi⟩
  · have h1:=hE.mn m hm
    have h2:=hR.mn m hm;simp only at hn hi;rw[←hn]at h1 h2;subst hi;have:=c_okR1 (h:=h) hv x h1 h2 e he;simp only[Z1,List.length_singleton,IT];exact this
  · have h1:=hE.mn m hm
    have h2:=hR.mn m hm;simp only at hn hi;rw[←hn]at h1 h2;subst hi;exact WO x h1 h2
  · have h1:=hE.pn p hp
    have h2:=hR.pn p hp;simp only at hn hi;rw[←hn]at h1 h2;subst hi;exact WO x h1 h2
end Go.Proofs.YtonbocmibeikmaaGreat
end
section
namespace Go.Un
open Go.Ab
theorem dD:∀s:Sl,s.len≤s.wt
 | .nil=>Nat.le_refl _
 | .cons k n e r as1 th el rest=>by have:=dD rest;simp only[Sl.len,Sl.wt];omega
section
variable {c:Core}{ps:List Pm}{blk:List BA→Int→Int→Int→Int→BR}{vs:List BA}{deep J l:Int}
theorem r_lock (h:(c4 c.L J 14).1<4):r7 c ps blk vs deep J l=(row 5 ByteArray.empty l4 (s9 c ps vs (c4 c.L J 14).2).1 [] .nil .nil,vs,(s9 c ps vs (c4 c.L J 14).2).2,l):=by unfold r7 iZ;rw[if_pos h]
theorem RH (h0:¬(c4 c.L J 14).1<4)(h:(c4 c.L J 14).1<7):r7 c ps blk vs deep J l=(row 6 ByteArray.empty l4 (s9 c ps vs (c4 c.L J 14).2).1 [] .nil .nil,vs,(s9 c ps vs (c4 c.L J 14).2).2,l):=by unfold r7 iZ;rw[if_neg h0,if_pos h]
theorem r_var (h:(c4 c.L J 14).1=7):r7 c ps blk vs deep J l=(row 1 (vnm l.toNat) (g8 c vs (c4 c.L J 14).2).1 n5 [] .nil .nil,vs++[vnm l.toNat],(g8 c vs (c4 c.L J 14).2).2,l):=by unfold r7 iZ;rw[if_neg (by omega),if_neg (by omega),if_pos h]
theorem RJ (h:(c4 c.L J 14).1=8)(h2:0<vs.length):r7 c ps blk vs deep J l=(row 2 (vs.getD (c4 c.L (c4 c.L J 14).2 vs.length).1.toNat ByteArray.empty) (g8 c vs (c4 c.L (c4 c.L J 14).2 vs.length).2).1 n5 [] .nil .nil,vs,(g8 c vs (c4 c.L (c4 c.L J 14).2 vs.length).2).2,l):=by unfold r7 iZ;rw[if_neg (by omega),if_neg (by omega),if_neg (by omega),if_pos ⟨h,h2⟩]
theorem r_call (h:(c4 c.L J 14).1=9):r7 c ps blk vs deep J l=(row 3 (c.fs.getD (c4 c.L (c4 c.L J 14).2 c.fs.length).1.toNat j0).name l4 n5 (z5 c ps vs (c.fs.getD (c4 c.L (c4 c.L J 14).2 c.fs.length).1.toNat j0).params (c4 c.L (c4 c.L J 14).2 c.fs.length).2).1 .nil .nil,vs,
   (z5 c ps vs (c.fs.getD (c4 c.L (c4 c.L J 14).2 c.fs.length).1.toNat j0).params (c4 c.L (c4 c.L J 14).2 c.fs.length).2).2,l):=by
 unfold r7 iZ;rw[if_neg (by omega),if_neg (by omega),if_neg (by omega),if_neg (by omega),if_pos (.inl h),if_neg (by omega)]
theorem r_go (h:(c4 c.L J 14).1=10):r7 c ps blk vs deep J l=(row 4 (c.fs.getD (c4 c.L (c4 c.L J 14).2 c.fs.length).1.toNat j0).name l4 n5 (z5 c ps vs (c.fs.getD (c4 c.L (c4 c.L J 14).2 c.fs.length).1.toNat j0).params (c4 c.L (c4 c.L J 14).2 c.fs.length).2).1 .nil .nil,vs,
   (z5 c ps vs (c.fs.getD (c4 c.L (c4 c.L J 14).2 c.fs.length).1.toNat j0).params (c4 c.L (c4 c.L J 14).2 c.fs.length).2).2,l):=by
 unfold r7 iZ;rw[if_neg (by omega),if_neg (by omega),if_neg (by omega),if_neg (by omega),if_pos (.inr h),if_pos h]
variable {b:BR}
theorem r_if (h:(c4 c.L J 14).1=11)(h2:0<deep){d:BR}(hb:blk vs (deep-1) 3 (g8 c vs (c4 c.L J 14).2).2 l=b)(h3:(c4 c.L b.2.1 2).1=1)(hd:blk vs (deep-1) 3 (c4 c.L b.2.1 2).2 b.2.2=d):r7 c ps blk vs deep J l=(row 7 ByteArray.empty (g8 c vs (c4 c.L J 14).2).1 n5 [] b.1 d.1,vs,d.2.1,d.2.2):=by unfold r7 iZ;rw[if_neg (by omega),if_neg (by omega),if_neg (by omega),if_neg (by omega),if_neg (by omega),if_pos ⟨h,h2⟩,hb];unfold ifK;rw[if_pos h3,hd]
theorem r_if2 (h:(c4 c.L J 14).1=11)(h2:0<deep)(hb:blk vs (deep-1) 3 (g8 c vs (c4 c.L J 14).2).2 l=b)(h3:¬(c4 c.L b.2.1 2).1=1):r7 c ps blk vs deep J l=(row 7 ByteArray.empty (g8 c vs (c4 c.L J 14).2).1 n5 [] b.1 .nil,vs,(c4 c.L b.2.1 2).2,b.2.2):=by unfold r7 iZ;rw[if_neg (by omega),if_neg (by omega),if_neg (by omega),if_neg (by omega),if_neg (by omega),if_pos ⟨h,h2⟩,hb];unfold ifK;rw[if_neg h3]
theorem r_while (h:(c4 c.L J 14).1=12)(h2:0<deep)(hb:blk vs (deep-1) 3 (g8 c vs (c4 c.L J 14).2).2 l=b):r7 c ps blk vs deep J l=(row 8 ByteArray.empty (g8 c vs (c4 c.L J 14).2).1 n5 [] b.1 .nil,vs,b.2.1,b.2.2):=by unfold r7 iZ;rw[if_neg (by omega),if_neg (by omega),if_neg (by omega),if_neg (by omega),if_neg (by omega),if_neg (by omega),if_pos ⟨h,h2⟩,hb]
theorem r_ret (h:(c4 c.L J 14).1=13)(h2:(c4 c.L (c4 c.L J 14).2 3).1=1):r7 c ps blk vs deep J l=(row 9 ByteArray.empty l4 n5 [] .nil .nil,vs,(c4 c.L (c4 c.L J 14).2 3).2,l):=by unfold r7 iZ;rw[if_neg (by omega),if_neg (by omega),if_neg (by omega),if_neg (by omega),if_neg (by omega),if_neg (by omega),if_neg (by omega),if_pos ⟨h,h2⟩]
theorem RK (h:(c4 c.L J 14).1=13)(h2:¬(c4 c.L (c4 c.L J 14).2 3).1=1)(hb:blk vs 0 2 (s9 c ps vs (c4 c.L (c4 c.L J 14).2 3).2).2 l=b):r7 c ps blk vs deep J l=prK vs (s9 c ps vs (c4 c.L (c4 c.L J 14).2 3).2).1 b:=by unfold r7 iZ;rw[if_neg (by omega),if_neg (by omega),if_neg (by omega),if_neg (by omega),if_neg (by omega),if_neg (by omega),if_neg (by omega),if_neg (by omega),if_pos h,hb]
theorem IW (h7:7<(c4 c.L J 14).1)(h13:¬(c4 c.L J 14).1=13)(h8:(c4 c.L J 14).1=8→vs.length=0)(h9:¬(c4 c.L J 14).1=9)(h10:¬(c4 c.L J 14).1=10)(h11:(c4 c.L J 14).1=11→deep≤0)(h12:(c4 c.L J 14).1=12→deep≤0)(hb:blk vs 0 2 (s9 c ps vs (c4 c.L J 14).2).2 l=b):r7 c ps blk vs deep J l=prK vs (s9 c ps vs (c4 c.L J 14).2).1 b:=by unfold r7 iZ;rw[if_neg (by omega),if_neg (by omega),if_neg (by omega),if_neg (by omega),if_neg (by omega),if_neg (by omega),if_neg (by omega),if_neg (by omega),if_neg h13,hb]
end
variable {out:Sl}
theorem cS {c:Core}{ps:List Pm}{blk:List BA→Int→Int→Int→Int→BR}{n:Nat}{vs vs':List BA}{deep J l J' l':Int}{S:Sl}{R:BR}(h:gS c ps blk (n+1) vs deep out J l=R)(hl:0<l)(hr:r7 c ps blk vs deep J (l-1)=(S,vs',J',l')):gS c ps blk n vs' deep (out.app S) J' l'=R:=by rw[gS,if_neg (by omega),hr]at h;exact h
theorem AL {c:Core}{ps:List Pm}{blk:List BA→Int→Int→Int→Int→BR}{n:Nat}{vs:List BA}{deep J l:Int}{R:BR}(h:gS c ps blk n vs deep out J l=R)(hl:n=0∨l≤0):R=(out,J,l):=by
 rw[←h];cases n with
 | zero=>rfl
 | succ n=>rw[gS,if_pos (by omega)]
theorem bI {c:Core}(hc:OkC c){ps:List Pm}{fu:Nat}(hfu:fu≤23){all vs vs':List BA}{left0 deep J l J' l':Int}{out S:Sl}(h0:left0≤fu+1)(hd:0≤deep)(ho:OkB (DK c ps) c.L all left0 (deep.toNat+1) (out,J,l))(hv:∀x∈vs,x∈z4 out all)(hl:0<l)
  (hr:r7 c ps (g5 c ps fu) vs deep J (l-1)=(S,vs',J',l')):OkB (DK c ps) c.L all left0 (deep.toNat+1) (out.app S,J',l')∧l'≤l-1∧∀x∈vs',x∈z4 (out.app S) all:=by
 have hl2:=ho.ol;have hw:=ho.wt;have hdp:=ho.dep;simp only at hl2 hw hdp;obtain ⟨r1,r2,r3⟩:=AA hc (ps:=ps) (blk:=g5 c ps fu) (vars:=vs) (all:=z4 out all) (deep:=deep) (I:=J) (left:=l-1) ho.oi ⟨by omega,by omega⟩ hd hv (ho.fr.mono t86) fun d most I all' l' a1 a2 a3 a4 a5 a6 a7=>iC hc fu vs d most I all' l' a1 a2 a3 a4 (by omega) (by omega) a6 a7;rw[hr]at r1 r2 r3;have q1:=r1.ol;have q2:=r1.wt;have q3:=r1.dep;simp only at q1 q2 q3 r2 r3;refine ⟨⟨r1.oi,⟨q1.1,t86⟩,GS.app.2 ⟨ho.gs,r1.gs⟩,?_,?_,?_⟩,r2,?_⟩
 ·simp only[fW];exact r1.fr
 ·simp only[Sl.I7];omega
 ·simp only[zY];omega
 ·rw[fW];exact r3
def Fc (l:List Mx):Prop:=∀j,j<l.length→(l.getD j w5).name=mnm j∧0≤(l.getD j w5).size∧(l.getD j w5).size≤3∧((l.getD j w5).re=true→(l.getD j w5).size=0)
def Fe (l:List Gl):Prop:=∀j,j<l.length→(l.getD j lM).name=gnm j ∧ -10≤(l.getD j lM).init∧(l.getD j lM).init≤10
def RL (N n:Nat)(l:List Pm):Prop:=(n=N∧l=[])∨(N=1∧n=0∧l.map (·.name)=[pnm 1])∨(N=2∧n=1∧l.map (·.name)=[pnm 2])∨(N=2∧n=0∧l.map (·.name)=[pnm 2,pnm 1])
def RM (l:List Fu):Prop:=∀j,j<l.length→(l.getD j j0).name=fnm j∧(j=0→(l.getD j j0).params=[])∧
  ((l.getD j j0).params.map (·.name)=[]∨(l.getD j j0).params.map (·.name)=[pnm 1]∨(l.getD j j0).params.map (·.name)=[pnm 2,pnm 1])
variable {j:Nat}
theorem vJ {α:Type}{l:List α}{x d:α}(h:j<(l++[x]).length):(j<l.length∧(l++[x]).getD j d=l.getD j d)∨(j=l.length∧(l++[x]).getD j d=x):=by
 simp at h;by_cases hj:j<l.length
 ·exact .inl ⟨hj,by simp[List.getD,List.getElem?_append_left hj]⟩
 ·obtain rfl:j=l.length:=by omega
  exact .inr ⟨rfl,by simp[List.getD]⟩
theorem Fc.snoc {l:List Mx}(h:Fc l){m:Mx}(h1:m.name=mnm l.length)(h2:0≤m.size∧m.size≤3)(h3:m.re=true→m.size=0):Fc (l++[m]):=fun j hj=>by
 rcases vJ (d:=w5) hj with ⟨q,e⟩ | ⟨rfl,e⟩
 ·rw[e];exact h j q
 ·rw[e];exact ⟨h1,h2.1,h2.2,h3⟩
theorem Fe.snoc {l:List Gl}(h:Fe l){m:Gl}(h1:m.name=gnm l.length)(h2:-10≤m.init∧m.init≤10):Fe (l++[m]):=fun j hj=>by
 rcases vJ (d:=lM) hj with ⟨q,e⟩ | ⟨rfl,e⟩
 ·rw[e];exact h j q
 ·rw[e];exact ⟨h1,h2⟩
theorem RM.snoc {l:List Fu}(h:RM l){f:Fu}(h1:f.name=fnm l.length)(h2:l.length=0→f.params=[])(h3:f.params.map (·.name)=[]∨f.params.map (·.name)=[pnm 1]∨f.params.map (·.name)=[pnm 2,pnm 1]):RM (l++[f]):=fun j hj=>by
 rcases vJ (d:=j0) hj with ⟨q,e⟩ | ⟨rfl,e⟩
 ·rw[e];exact h j q
 ·rw[e];exact ⟨h1,h2,h3⟩
variable {N n:Nat}{l:List Pm}
theorem RL.step (h:RL N n l)(hn:0<n)(hN:N≤2){p:Pm}(hp:p.name=pnm n):RL N (n-1) (l++[p]):=by
 rcases h with ⟨rfl,rfl⟩ | ⟨_,h,_⟩ | ⟨rfl,rfl,h⟩ | ⟨_,h,_⟩
 ·have:n=1∨n=2:=by omega
  rcases this with rfl | rfl
  ·exact .inr (.inl ⟨rfl,rfl,by simp[hp]⟩)
  ·exact .inr (.inr (.inl ⟨rfl,rfl,by simp[hp]⟩))
 ·omega
 ·exact .inr (.inr (.inr ⟨rfl,rfl,by simp[h,hp]⟩))
 ·omega
theorem RL.fin (h:RL N n l)(hn:n=0∨l=[])(hN:N≤2):l.map (·.name)=[]∨l.map (·.name)=[pnm 1]∨l.map (·.name)=[pnm 2,pnm 1]:=by
 rcases h with ⟨rfl,rfl⟩ | ⟨_,_,h⟩ | ⟨_,h1,h⟩ | ⟨_,_,h⟩
 ·exact .inl rfl
 ·exact .inr (.inl h)
 ·rcases hn with hn | hn
  ·omega
  ·subst hn;exact .inl rfl
 ·exact .inr (.inr h)
theorem RL.len (h:RL N n l):l.length≤2:=by
 have:l.length=(l.map (·.name)).length:=by simp
 rcases h with ⟨rfl,rfl⟩ | ⟨_,_,h⟩ | ⟨_,_,h⟩ | ⟨_,_,h⟩
 ·simp
 all_goals rw[this,h];simp
def cU (l:List Pm):List BA:=(l.filter fun x=>! x.mu).map (·.name)
theorem K5 (h:j<l.length):cU (l.take (j+1))=cU (l.take j)++(if (l.getD j iA).mu then [] else [(l.getD j iA).name]):=by unfold cU;rw[List.take_add_one,List.filter_append,List.map_append];congr 1;simp only[List.getD_eq_getElem?_getD,List.getElem?_eq_getElem h,Option.toList_some,Option.getD_some,List.filter_cons,List.filter_nil];cases l[j].mu<;>rfl
def setBody (fs:List Fu)(i:Nat)(B:Sl):List Fu:=fs.set i { fs.getD i j0 with body:=B }
def nO (fs:List Fu):List (BA×List Pm):=fs.map fun f=>(f.name,f.params)
variable {fs:List Fu}{i:Nat}{B:Sl}
theorem lA:(setBody fs i B).length=fs.length:=by simp[setBody]
theorem lB (h:i<fs.length):(setBody fs i B).getD j j0=if j=i then { fs.getD i j0 with body:=B } else fs.getD j j0:=by
 unfold setBody;by_cases e:j=i
 ·subst e;simp[List.getD,h]
 ·rw[if_neg e];simp[List.getD,List.getElem?_set_ne (Ne.symm e)]
theorem pR (h:i<fs.length):nO (setBody fs i B)=nO fs:=by
 refine List.ext_getElem (by simp[nO,setBody]) fun j h1 h2=>?_;have hj:j<fs.length:=by simpa [nO] using h2
 have e:=lB (j:=j) (B:=B) h;have e1:(setBody fs i B).getD j j0=(setBody fs i B)[j]'(by rw[lA];exact hj):=by simp[List.getD,lA,hj]
 have e2:fs.getD j j0=fs[j]:=by simp[List.getD,hj]
 simp only[nO,List.getElem_map];rw[←e1,←e2,e];split
 ·rename_i q;subst q;rfl
 ·rfl
theorem RM.nO {l l':List Fu}(h:RM l)(e:nO l'=nO l):RM l':=fun j hj=>by
 have hl:l'.length=l.length:=by have:=congrArg List.length e;simpa [Un.nO] using this
 have e1:∀(m:List Fu),j<m.length→(Un.nO m).getD j (ByteArray.empty,[])=((m.getD j j0).name,(m.getD j j0).params):=fun m hm=>by simp[Un.nO,List.getD,hm]
 have h1:=e1 l' hj;have h2:=e1 l (by omega);rw[e,h2]at h1;injection h1 with h3 h4;have:=h j (by omega);rw[h3,h4]at this;exact this
structure Mr (gs:List Gl)(ms:List Mx)(fs:List Fu)(i:Nat)(left:Int):Prop where
 body:∀j,j<i→GS ⟨gs.map (·.name),ms,nO fs,(fs.getD j j0).params⟩ (fs.getD j j0).body (gs.map (·.name)++cU (fs.getD j j0).params)∧(fs.getD j j0).body.dep≤3
 wt:sD fs i≤2*(24-left).toNat
 ol:0≤left∧left≤24
theorem xW {l l':List Fu}:∀i,(∀j,j<i→(l.getD j j0).body=(l'.getD j j0).body)→sD l i=sD l' i
 | 0,_=>rfl
 | i+1,h=>by rw[sD,sD,xW i fun j hj=>h j (by omega),h i (by omega)]
theorem Mr.step {gs:List Gl}{ms:List Mx}{fs:List Fu}{i:Nat}{left left':Int}{L:List Int}{B:Sl}{I':Int}(h:Mr gs ms fs i left)(hi:i<fs.length)
  (hb:OkB ⟨gs.map (·.name),ms,nO fs,(fs.getD i j0).params⟩ L (gs.map (·.name)++cU (fs.getD i j0).params) left 3 (B,I',left')):Mr gs ms (setBody fs i B) (i+1) left':=by
 have hol:=hb.ol;have hwt:=hb.wt;have h1:=h.ol;have h2:=h.wt;simp only at hol hwt;refine ⟨fun j hj=>?_,?_,by omega⟩
 ·rw[pR hi,lB hi];by_cases e:j=i
  ·subst e;rw[if_pos rfl];exact ⟨hb.gs,hb.dep⟩
  ·rw[if_neg e];exact h.body j (by omega)
 ·have e1:sD (setBody fs i B) i=sD fs i:=xW i fun j hj=>by rw[lB hi,if_neg (by omega)]
  rw[sD,e1,lB hi,if_pos rfl];simp only;omega
variable {gs:List Gl}
theorem prog_ok {ms:List Mx}{left:Int}(hg:Fe gs)(hgl:gs.length≤2)(hm:Fc ms)(hml:1≤ms.length∧ms.length≤4)(hf:RM fs)(hfl:1≤fs.length∧fs.length≤4)(hb:Mr gs ms fs fs.length left):GP ⟨gs,ms,fs⟩:=by have hw:=hb.wt;have hl:=hb.ol;refine ⟨⟨hgl,hg,hml,hm,hfl,hf⟩,fun i hi=>?_,by show sD fs fs.length≤48;omega⟩;exact hb.body i hi
theorem DQ {ps:List Pm}(hg:Fe gs)(hgl:gs.length≤2)(hp:ps.map (·.name)=[]∨ps.map (·.name)=[pnm 1]∨ps.map (·.name)=[pnm 2,pnm 1]):Fr 24 (gs.map (·.name)++cU ps):=by
 intro j hj hm;refine J2 j hj ?_;rcases List.mem_append.1 hm with hm | hm
 ·obtain ⟨g,hg1,hg2⟩:=List.mem_map.1 hm;obtain ⟨k,hk,rfl⟩:=bX (d:=lM) hg1;rw[←hg2,(hg k hk).1];exact List.mem_append.2 (.inl (List.mem_map.2 ⟨k,List.mem_range.2 (by omega),rfl⟩))
 ·obtain ⟨p,hp1,hp2⟩:=List.mem_map.1 hm;have hp3:p.name∈ps.map (·.name):=List.mem_map.2 ⟨p,(List.mem_filter.1 hp1).1,rfl⟩;rw[hp2]at hp3;refine List.mem_append.2 (.inr (List.mem_append.2 (.inr (List.mem_append.2 (.inr ?_)))));rcases hp with e | e | e
  ·rw[e]at hp3;simp at hp3
  ·rw[e]at hp3;simp at hp3;rw[hp3];simp
  ·rw[e]at hp3;simpa using hp3
theorem okC_of {L:List Int}{ms:List Mx}{gF:Nat}{ar:Bool}(hm:Fc ms)(hml:1≤ms.length∧ms.length≤4)(hf:RM fs)(hfl:1≤fs.length∧fs.length≤4):OkC ⟨L,gs,ms,fs,gF,ar⟩:=by
 refine ⟨hml,fun i hi=>⟨(hm i hi).2.1,(hm i hi).2.2.1⟩,hfl,fun f hff=>?_⟩;obtain ⟨k,hk,rfl⟩:=bX (d:=j0) hff;have h1:=(hf k hk).2.2;have h2:(fs.getD k j0).params.length=((fs.getD k j0).params.map (·.name)).length:=by simp
 rw[h2];rcases h1 with e | e | e<;>rw[e]<;>simp
end Go.Un
end
section
namespace Go.Proofs.YtonbocmibeikmaaGreat
open Go.Ab Go.Un
theorem vK {s:BA}:tG s=WB.any fun x=>L8 x==L8 s:=by simp only[tG,hasB,ByteArray.toList_eq];rfl
theorem IX:∀j,j<24→tG (vnm j)=false:=by
  intro j hj;rw[vK];have key:∀j,j<24→(WB.any fun x=>L8 x==L8 (vnm j))=false:=by decide
  exact key j hj
theorem IY:∀j,j<2→tG (gnm j)=false:=by
  intro j hj;rw[vK];have key:∀j,j<2→(WB.any fun x=>L8 x==L8 (gnm j))=false:=by decide
  exact key j hj
theorem IZ:∀j,j<4→tG (mnm j)=false:=by
  intro j hj;rw[vK];have key:∀j,j<4→(WB.any fun x=>L8 x==L8 (mnm j))=false:=by decide
  exact key j hj
theorem JA:∀j,j<4→tG (fnm j)=false:=by
  intro j hj;rw[vK];have key:∀j,j<4→(WB.any fun x=>L8 x==L8 (fnm j))=false:=by decide
  exact key j hj
theorem S2:∀j,j<3→tG (pnm j)=false:=by
  intro j hj;rw[vK];have key:∀j,j<3→(WB.any fun x=>L8 x==L8 (pnm j))=false:=by decide
  exact key j hj
variable {pre th el rest:Sl}{k:Int}{n:BA}{e:Ex}{r:Rf}{xs:List Ar}
theorem A6:List.take 11 (List.drop (pre.len*11) (o9 (pre.app (.cons k n e r xs th el rest))))=[.int .i64 k,.str n,.int .i64 e.op,.int .i64 e.num,.str e.name,.vec e.args.length (n7 e.args),.str r.name,.vec r.idx.length (n7 r.idx),.vec xs.length (bE xs),.vec th.len (o9 th),.vec el.len (o9 el)]:=by rw[read_s rfl,rowS,bN];rfl
variable {h:c7}{vars:List BA}
theorem A7 (hv:z7 vars)(hg:GE vars 2 e):CB 182 [.agg [.int .i64 e.op,.int .i64 e.num,.str e.name,.vec e.args.length (n7 e.args)]] h (.str (cG e)):=by rw[←bN];exact vH hv.n (by omega) hg h
theorem A8 (hv:z7 vars)(hg:GE vars 2 e):CB 159 [.agg [.int .i64 e.op,.int .i64 e.num,.str e.name,.vec e.args.length (n7 e.args)]] h (.bool true):=by rw[←bN];exact AI hv (by omega) e hg
theorem z7.snoc (h:z7 vars){j:Nat}(hj:j<24):z7 (vars++[vnm j]):=by
  intro x hx;rcases List.mem_append.1 hx with hx | hx
  · exact h x hx
  · replace hx:=s8z hx
    subst hx;exact ⟨sZ,IX j hj⟩
theorem S3 {pre:Sl}{k:Int}{n:BA}{e:Ex}{r:Rf}{xs:List Ar}{th el rest:Sl}:(pre.app (.cons k n e r xs th el rest)).wt=pre.wt+(1+th.wt+el.wt+rest.wt):=by rw[Sl.I7,Sl.wt]
theorem w9 {pre:Sl}{k:Int}{n:BA}{e:Ex}{r:Rf}{xs:List Ar}{th el rest:Sl}:(pre.app (.cons k n e r xs th el rest)).len=pre.len+(rest.len+1):=by rw[Go.Un.Sl.cB,Go.Un.Sl.len]
theorem eZ {k:Int}{n:BA}{e:Ex}{r:Rf}{xs:List Ar}{th el rest:Sl}:(Sl.cons k n e r xs th el rest).dep=max (max th.dep el.dep+1) rest.dep:=rfl
theorem eI:pre.app (.cons k n e r xs th el rest)=(pre.app (.cons k n e r xs th el .nil)).app rest:=by rw[Sl.I6];rfl
theorem RN:(((pre.app (.cons k n e r xs th el .nil)).len:Nat):Int)=(pre.len:Int)+1:=by rw[Go.Un.Sl.cB];simp[Go.Un.Sl.len]
theorem xX {tabs:BA}(h:Cl (L8 tabs) 0):Cl (L8 (tabs++gR)) 0:=aW h J1
attribute [local go_sem] nA aF o2 bD cM bF l8 Int.natCast_nonneg Int.natCast_inj List.length_map wrap64 DN lW A5 aE mJ eq_mk mK A6 Nat.reduceMul
theorem RO {E:Env}(hE:sY E)(S:Sl)(ih:∀S':Sl,S'.wt<S.wt→∀(vars:List BA) (tabs:BA),z7 vars→GS E S' vars→tabs.size+S'.dep≤10→Cl (L8 tabs) 0→∀h:c7,CB 164 [.vec S'.len (o9 S'),.str tabs] h (.str (lT S' tabs ByteArray.empty)))(vars:List BA)(tabs:BA)(hv0:z7 vars)(hG0:GS E S vars)(hd:tabs.size+S.dep≤10)(ht:Cl (L8 tabs) 0)(hw:S.wt≤1000):CB 164 [.vec S.len (o9 S),.str tabs] h (.str (lT S tabs ByteArray.empty)):=by
  refine .bz Tryz.f164 133 ?_;have hlw:=dD S;have hTs:=(jO hE S vars tabs ByteArray.empty 0 hv0.n hG0 hd ht Cl.nil).2;have hse:ByteArray.empty.size=0:=rfl;refine c60z ?_;refine .u0 (fun m st=>∃(Z:Sl) (pre:Sl) (rst:Sl) (vs:List BA) (out:BA),(m=rst.len∧(Z=S∧S=pre.app rst∧GS E rst vs∧z7 vs∧lT rst tabs out=lT S tabs ByteArray.empty∧tabs.size+rst.dep≤10))∧st=⟨mkS 133 [(0,AV.vec (Go.Un.Sl.len Z) (o9 Z)),(1,AV.str tabs),(5,AV.str out),(6,AV.int .i64 ((pre.len:Nat):Int))],h⟩) (.v ⟨S,Sl.nil,S,vars,ByteArray.empty,⟨rfl,⟨rfl,rfl,hG0,hv0,rfl,hd⟩⟩,rfl⟩ (hs:=t9)) ?_;rintro m sl h' ⟨Z,pre,rst,vs,out,⟨hm,⟨hZ,hS,hG,hv,hT,hdp⟩⟩,hst⟩;obtain ⟨rfl,rfl⟩:=St.mk.inj hst;clear hst;subst hZ;have hlen:=congrArg Go.Un.Sl.len hS;rw[Go.Un.Sl.cB]at hlen;have hos:out.size≤400000:=by have:=HL rst tabs out;rw[hT]at this;omega
  refine c0z ?_;refine u2z ?_ ?_
  ·intro e1 qe1;refine c2z ?_;obtain ⟨k,n,e,r,xs,th,el,rest,rfl⟩:=Go.Un.Sl.oD (s:=rst) (by omega);subst hS;have hwc:=@S3 pre k n e r xs th el rest;have hlc:=@w9 pre k n e r xs th el rest;have hdc:=@eZ k n e r xs th el rest;rcases hG with ⟨rfl,⟨j,hj,rfl⟩,hn,he,rfl,rfl,rfl,rfl,hr⟩ | ⟨rfl,hn,he,rfl,rfl,rfl,rfl,hr⟩ | ⟨rfl | rfl,⟨f,hf,rfl,ha⟩,rfl,rfl,rfl,rfl,hr⟩ | ⟨rfl | rfl,rfl,rfl,hR,rfl,rfl,rfl,hr⟩ | ⟨rfl,rfl,he,rfl,rfl,hth,hel,hr⟩ | ⟨rfl,rfl,he,rfl,rfl,hth,rfl,hr⟩ | ⟨rfl,rfl,rfl,rfl,rfl,rfl,rfl,hr⟩
   ·have hes:=(cJ hv.n he).2;have hb:D8 2=104:=rfl;have hns:=z1 (sZ (j:=j));refine c187z ?_;refine c111z ?_;refine .so u9 (mkP 12 [0,1,0,4,15,31,0,64,192,511,1023,2047] []) ?_;refine .k 8 [] ?_;refine .ca rfl rfl (A7 hv he) ?_;refine .n [] ?_;change c8 ..;refine c126z ?_;have hT2:=hT;simp only[lT,show ((1:Int)=2)=False from by simp,show ((1:Int)=3)=False from by simp,show ((1:Int)=4)=False from by simp,show ((1:Int)=5)=False from by simp,show ((1:Int)=6)=False from by simp,show ((1:Int)=7)=False from by simp,show ((1:Int)=8)=False from by simp,if_true,if_false,true_or,or_true,or_false,false_or,or_self]at hT2;exact ⟨_,by omega,.v ⟨_,(pre.app (.cons 1 (vnm j) e n5 [] .nil .nil .nil)),rest,(vs++[vnm j]),_,⟨rfl,⟨rfl,eI,hr,(hv.snoc hj),hT2,by omega⟩⟩,rfl⟩ (he:=by rfl) (hs:=t9)⟩
   ·have hes:=(cJ hv.n he).2;have hb:D8 2=104:=rfl;have hns:=z1 (hv _ hn).1;refine c187z ?_;refine c9z ?_;refine c111z ?_;refine .c5 [0,1,5,6,7] ?_;refine .so u9 (mkP 11 [0,0,2,7,15,0,32,96,255,511,1023] []) ?_;refine .k 7 [] ?_;refine .ca rfl rfl (A7 hv he) ?_;refine .n [] ?_;change c8 ..;refine c126z ?_;have hT2:=hT;simp only[lT,show ((2:Int)=1)=False from by simp,show ((2:Int)=3)=False from by simp,show ((2:Int)=4)=False from by simp,show ((2:Int)=5)=False from by simp,show ((2:Int)=6)=False from by simp,show ((2:Int)=7)=False from by simp,show ((2:Int)=8)=False from by simp,if_true,if_false,true_or,or_true,or_false,false_or,or_self]at hT2;exact ⟨_,by omega,.v ⟨_,(pre.app (.cons 2 n e n5 [] .nil .nil .nil)),rest,vs,_,⟨rfl,⟨rfl,eI,hr,hv,hT2,by omega⟩⟩,rfl⟩ (he:=by rfl) (hs:=t9)⟩
   ·have hns:=z1 (hE.fn f hf);have has:=(Q8 hE hv.n ha (hE.fp f hf)).2.1;have hxl:=(kT hE hv.n ha).1;have hfl:=hE.fp f hf;refine c198z ?_;refine .c5 [0,1,5,6,7,23] ?_;refine c111z ?_;refine .so u9 (mkP 10 [0,0,2,7,0,16,48,127,255,511] []) ?_;refine .k 6 [] ?_;refine .ca rfl rfl (IV hE hv.n xs (kT hE hv.n ha).2 (by omega)) ?_;refine .n [] ?_;change c8 ..;refine c126z ?_;have hT2:=hT;simp only[lT,show ((3:Int)=1)=False from by simp,show ((3:Int)=2)=False from by simp,show ((3:Int)=4)=False from by simp,show ((3:Int)=5)=False from by simp,show ((3:Int)=6)=False from by simp,show ((3:Int)=7)=False from by simp,show ((3:Int)=8)=False from by simp,if_true,if_false,true_or,or_true,or_false,false_or,or_self]at hT2;exact ⟨_,by omega,.v ⟨_,(pre.app (.cons 3 f.1 l4 n5 xs .nil .nil .nil)),rest,vs,_,⟨rfl,⟨rfl,eI,hr,hv,hT2,by omega⟩⟩,rfl⟩ (he:=by rfl) (hs:=t9)⟩
   ·have hns:=z1 (hE.fn f hf);have has:=(Q8 hE hv.n ha (hE.fp f hf)).2.1;have hxl:=(kT hE hv.n ha).1;have hfl:=hE.fp f hf;refine c246z ?_;refine c111z ?_;refine .so u9 (mkP 11 [0,1,0,4,15,0,32,96,255,511,1023] []) ?_;refine .k 7 [] ?_;refine .ca rfl rfl (IV hE hv.n xs (kT hE hv.n ha).2 (by omega)) ?_;refine .n [] ?_;change c8 ..;refine c126z ?_;have hT2:=hT;simp only[lT,show ((4:Int)=1)=False from by simp,show ((4:Int)=2)=False from by simp,show ((4:Int)=3)=False from by simp,show ((4:Int)=5)=False from by simp,show ((4:Int)=6)=False from by simp,show ((4:Int)=7)=False from by simp,show ((4:Int)=8)=False from by simp,if_true,if_false,true_or,or_true,or_false,false_or,or_self]at hT2;exact ⟨_,by omega,.v ⟨_,(pre.app (.cons 4 f.1 l4 n5 xs .nil .nil .nil)),rest,vs,_,⟨rfl,⟨rfl,eI,hr,hv,hT2,by omega⟩⟩,rfl⟩ (he:=by rfl) (hs:=t9)⟩
   ·have hrs:=(hR.pw hE hv.n).2;refine c246z ?_;refine c9z ?_;refine c111z ?_;refine c166z ?_;refine .ca rfl rfl (AK hE hv.n hR) ?_;refine c25z ?_;refine c126z ?_;have hT2:=hT;simp only[lT,show ((5:Int)=1)=False from by simp,show ((5:Int)=2)=False from by simp,show ((5:Int)=3)=False from by simp,show ((5:Int)=4)=False from by simp,show ((5:Int)=6)=False from by simp,show ((5:Int)=7)=False from by simp,show ((5:Int)=8)=False from by simp,if_true,if_false,true_or,or_true,or_false,false_or,or_self]at hT2;exact ⟨_,by omega,.v ⟨_,(pre.app (.cons 5 ByteArray.empty l4 r [] .nil .nil .nil)),rest,vs,_,⟨rfl,⟨rfl,eI,hr,hv,hT2,by omega⟩⟩,rfl⟩ (he:=by rfl) (hs:=t9)⟩
   ·have hrs:=(hR.pw hE hv.n).2;refine c246z ?_;refine c121z ?_;refine c111z ?_;refine .c5 [0,1,5,6,7] ?_;refine c166z ?_;refine .ca rfl rfl (AK hE hv.n hR) ?_;refine c25z ?_;refine c126z ?_;have hT2:=hT;simp only[lT,show ((6:Int)=1)=False from by simp,show ((6:Int)=2)=False from by simp,show ((6:Int)=3)=False from by simp,show ((6:Int)=4)=False from by simp,show ((6:Int)=5)=False from by simp,show ((6:Int)=7)=False from by simp,show ((6:Int)=8)=False from by simp,if_true,if_false,true_or,or_true,or_false,false_or,or_self]at hT2;exact ⟨_,by omega,.v ⟨_,(pre.app (.cons 6 ByteArray.empty l4 r [] .nil .nil .nil)),rest,vs,_,⟨rfl,⟨rfl,eI,hr,hv,hT2,by omega⟩⟩,rfl⟩ (he:=by rfl) (hs:=t9)⟩
   ·have hes:=(cJ hv.n he).2;have hb:D8 2=104:=rfl;have hts:(tabs++gR).size=tabs.size+1:=by rw[aE];rfl
    have hths:=(jO hE th vs (tabs++gR) ByteArray.empty 0 hv.n hth (by omega) (xX ht) Cl.nil).2;have hels:=(jO hE el vs (tabs++gR) ByteArray.empty 0 hv.n hel (by omega) (xX ht) Cl.nil).2;refine c246z ?_;refine c121z ?_;refine c9z ?_;refine .seq ?_;refine .c5 [0,1,5,6,7,23] ?_;refine c111z ?_;refine .sk ?_;refine .T ?_;refine c89z ?_;refine c20z ?_;refine .ss u9 (mkP 18 [0,0,3,0,8,24,63,127,0,256,0,1024,3896,8191,0,32767,65535,131071] []) ?_;refine .k 5 [] ?_;refine .ca rfl rfl (A7 hv he) ?_;refine .k 6 [] ?_;refine .ca rfl rfl (ih th (by omega) vs (tabs++gR) hv hth (by omega) (xX ht) _) ?_;refine .n [] ?_;refine .c5 [0,1,5,6,7] ?_;refine .z ?_;refine u2z ?_ ?_
    ·intro e2 qe2;refine .r ?_;refine .e 6 ?_;refine .ca rfl rfl (ih el (by omega) vs (tabs++gR) hv hel (by omega) (xX ht) _) ?_;refine c25z ?_;refine c126z ?_;have hT2:=hT;have hel0:0<el.len:=by omega
     simp only[lT,show ((7:Int)=1)=False from by simp,show ((7:Int)=2)=False from by simp,show ((7:Int)=3)=False from by simp,show ((7:Int)=4)=False from by simp,show ((7:Int)=5)=False from by simp,show ((7:Int)=6)=False from by simp,show ((7:Int)=8)=False from by simp,if_true,if_false,true_or,or_true,or_false,false_or,or_self,if_pos hel0]at hT2;exact ⟨_,by omega,.v ⟨_,(pre.app (.cons 7 ByteArray.empty e n5 [] th el .nil)),rest,vs,_,⟨rfl,⟨rfl,eI,hr,hv,hT2,by omega⟩⟩,rfl⟩ (he:=by rfl) (hs:=t9)⟩
    intro e2 qe2;refine c4z ?_;refine c47z ?_;have hT2:=hT;have hel0:¬0<el.len:=by omega
    simp only[lT,show ((7:Int)=1)=False from by simp,show ((7:Int)=2)=False from by simp,show ((7:Int)=3)=False from by simp,show ((7:Int)=4)=False from by simp,show ((7:Int)=5)=False from by simp,show ((7:Int)=6)=False from by simp,show ((7:Int)=8)=False from by simp,if_true,if_false,true_or,or_true,or_false,false_or,or_self,if_neg hel0]at hT2;exact ⟨_,by omega,.v ⟨_,(pre.app (.cons 7 ByteArray.empty e n5 [] th el .nil)),rest,vs,_,⟨rfl,⟨rfl,eI,hr,hv,hT2,by omega⟩⟩,rfl⟩ (he:=by rfl) (hs:=t9)⟩
   ·have hes:=(cJ hv.n he).2;have hb:D8 2=104:=rfl;have hts:(tabs++gR).size=tabs.size+1:=by rw[aE];rfl
    have hths:=(jO hE th vs (tabs++gR) ByteArray.empty 0 hv.n hth (by omega) (xX ht) Cl.nil).2;refine c246z ?_;refine c121z ?_;refine c9z ?_;refine .seq ?_;refine c85z ?_;refine c1z ?_;refine .T ?_;refine c89z ?_;refine .T ?_;refine .c5 [0,1,5,6,7] ?_;refine c1z ?_;refine .ss u9 (mkP 18 [0,0,3,0,8,24,63,127,0,256,0,1024,3896,8191,0,32767,65535,131071] []) ?_;refine .k 5 [] ?_;refine .ca rfl rfl (A7 hv he) ?_;refine .k 6 [] ?_;refine .ca rfl rfl (ih th (by omega) vs (tabs++gR) hv hth (by omega) (xX ht) _) ?_;refine .n [] ?_;refine .c5 [0,1,5,6,7] ?_;refine c9z ?_;refine c4z ?_;refine c47z ?_;have hT2:=hT;simp only[lT,show ((8:Int)=1)=False from by simp,show ((8:Int)=2)=False from by simp,show ((8:Int)=3)=False from by simp,show ((8:Int)=4)=False from by simp,show ((8:Int)=5)=False from by simp,show ((8:Int)=6)=False from by simp,show ((8:Int)=7)=False from by simp,if_true,if_false,true_or,or_true,or_false,false_or,or_self,Go.Un.Sl.len,Nat.lt_irrefl]at hT2;exact ⟨_,by omega,.v ⟨_,(pre.app (.cons 8 ByteArray.empty e n5 [] th .nil .nil)),rest,vs,_,⟨rfl,⟨rfl,eI,hr,hv,hT2,by omega⟩⟩,rfl⟩ (he:=by rfl) (hs:=t9)⟩
   ·skip;refine c246z ?_;refine c121z ?_;refine c9z ?_;refine .seq ?_;refine c85z ?_;refine c1z ?_;refine c225z ?_;refine c1z ?_;refine c151z ?_;have hT2:=hT;simp only[lT,show ((9:Int)=1)=False from by simp,show ((9:Int)=2)=False from by simp,show ((9:Int)=3)=False from by simp,show ((9:Int)=4)=False from by simp,show ((9:Int)=5)=False from by simp,show ((9:Int)=6)=False from by simp,show ((9:Int)=7)=False from by simp,show ((9:Int)=8)=False from by simp,if_true,if_false,true_or,or_true,or_false,false_or,or_self]at hT2;exact ⟨_,by omega,.v ⟨_,(pre.app (.cons 9 ByteArray.empty l4 n5 [] .nil .nil .nil)),rest,vs,_,⟨rfl,⟨rfl,eI,hr,hv,hT2,by omega⟩⟩,rfl⟩ (he:=by rfl) (hs:=t9)⟩
  intro e1 qe1;refine .exit ?_;obtain rfl:=Go.Un.Sl.zP (show rst.len=0 by omega);rw[lT]at hT;refine c216z ?_;exact .ret (.ex (hq:=by (exact congrArg AV.str hT)))
theorem JB {E:Env}(hE:sY E):∀(n:Nat) (S:Sl),S.wt≤n→n≤1000→∀(vars:List BA) (tabs:BA),z7 vars→GS E S vars→tabs.size+S.dep≤10→Cl (L8 tabs) 0→∀h:c7,CB 164 [.vec S.len (o9 S),.str tabs] h (.str (lT S tabs ByteArray.empty))
  | n,S,hn,h1,vars,tabs,hv,hG,hd,ht,h=>by
    refine RO hE S (fun S' hS'=>?_) vars tabs hv hG hd ht (by omega);cases n with
    | zero=>omega
    | succ n=>exact JB hE n S' (by omega) (by omega)
end Go.Proofs.YtonbocmibeikmaaGreat
end
section
namespace Go.Proofs.YtonbocmibeikmaaGreat
open Go.Ab Go.Un
structure Frame where
  b0:Blk
  b1:Blk
  b2:Blk
  z:Blk
  m:Blk
  g:Blk
  rest:c7
def Frame.n (e:Frame):Nat:=e.rest.length+9
def hB (c:Core)(e:Frame)(I left:Int):c7:=
  e.b0::e.b1::e.b2::e.z::⟨0,false,118,2,[.vec c.L.length (g6 c.L),.int .i64 I],0⟩::
  ⟨0,false,129,6,[.ptr 4 0 0,.vec c.gs.length (p4 c.gs),.vec c.ms.length (c9 c.ms),.own 8 c.gF 0 c.fs.length,.int .i64 left,.bool c.ar],0⟩::
  e.m::e.g::⟨c.gF,false,136,3,n8 c.fs,0⟩::e.rest
section
variable {c:Core}{e:Frame}{I left k:Int}{l:c7}
theorem cH:(hB c e I left).length=e.n:=by simp[hB,Frame.n]
theorem hB_1:(hB c e I left)[4]?=some ⟨0,false,118,2,[.vec c.L.length (g6 c.L),.int .i64 I],0⟩:=rfl
theorem hB_2:(hB c e I left)[5]?=some ⟨0,false,129,6,[.ptr 4 0 0,.vec c.gs.length (p4 c.gs),.vec c.ms.length (c9 c.ms),.own 8 c.gF 0 c.fs.length,.int .i64 left,.bool c.ar],0⟩:=rfl
theorem hB_5:(hB c e I left)[8]?=some ⟨c.gF,false,136,3,n8 c.fs,0⟩:=rfl
theorem Ai:(hB c e I left++l)[4]?=some ⟨0,false,118,2,[.vec c.L.length (g6 c.L),.int .i64 I],0⟩:=rfl
theorem Aj:(hB c e I left++l)[5]?=some ⟨0,false,129,6,[.ptr 4 0 0,.vec c.gs.length (p4 c.gs),.vec c.ms.length (c9 c.ms),.own 8 c.gF 0 c.fs.length,.int .i64 left,.bool c.ar],0⟩:=rfl
theorem Ak:(hB c e I left++l)[8]?=some ⟨c.gF,false,136,3,n8 c.fs,0⟩:=rfl
theorem Al:(hB c e I left++l).set 5 ⟨0,false,129,6,[.ptr 4 0 0,.vec c.gs.length (p4 c.gs),.vec c.ms.length (c9 c.ms),.own 8 c.gF 0 c.fs.length,.int .i64 k,.bool c.ar],0⟩=hB c e I k++l:=rfl
variable {j:Nat}
theorem fA:(hB c e I left++l)[e.n+j]?=l[j]?:=by rw[List.getElem?_append_right (by rw[cH];omega),cH,Nat.add_sub_cancel_left]
theorem A9:(hB c e I left++l)[e.n]?=l[0]?:=by rw[List.getElem?_append_right (by rw[cH];omega),cH,Nat.sub_self]
theorem fP {b:Blk}:(hB c e I left++l).set (e.n+j) b=hB c e I left++l.set j b:=by rw[List.set_append_right _ _ (by rw[cH];omega),cH,Nat.add_sub_cancel_left]
theorem S4 {b:Blk}:(hB c e I left++l).set e.n b=hB c e I left++l.set 0 b:=by rw[List.set_append_right _ _ (by rw[cH];omega),cH,Nat.sub_self]
variable {left':Int}
theorem gT {I':Int}:v5 (hB c e I left) (hB c e I' left'):=by
  refine v5.of ⟨.inl rfl,.inl rfl,.inl rfl,.inl rfl,.inr (gK.get ⟨.vec _ _,.int _ _,trivial⟩),.inr (gK.get ⟨.ptr _ _ _ ?_,.vec _ _,.vec _ _,.own _ _ _ _ ?_,.int _ _,.bool _,trivial⟩),.inl rfl,.inl rfl,.inl rfl,nL.refl _ _⟩
  · rw[cH];unfold Frame.n;omega
  · rw[cH];unfold Frame.n;omega
theorem B1 {I':Int}{l':c7}(hk:nL (e.n+l'.length) l l'):v5 (hB c e I left++l) (hB c e I' left'++l'):=
  gT.app (by rw[cH,cH]) (by rw[cH];exact hk)
end
theorem famB (c:Core)(e:Frame)(left:Int):bG 4 c.L e.n fun I=>hB c e I left:=⟨fun _=>rfl,fun _ _=>rfl,fun _=>cH⟩
theorem fZ {c:Core}{e:Frame}{left:Int}(l:c7)(I n:Int)(hI:OkI c.L I)(hL:c.L.length<4611686018427387904)(hn:0<n)(hm:n≤4611686018427387904):CH 75 [.ptr 4 0 0,.int .i64 n] (hB c e I left++l) (.int .i64 (c4 c.L I n).1) (hB c e (c4 c.L I n).2 left++l):=mH (famB c e left) l I n hI hL hn hm
theorem S5 {c:Core}{e:Frame}{left:Int}(l:c7)(I v:Int)(hI:OkI c.L I)(hL:c.L.length<4611686018427387904)(names:List BA)(hN:names.length<1000)(hv:0≤v∧v<1000):CH 158 [.ptr 4 0 0,.vec names.length (aB names),.int .i64 v] (hB c e I left++l) (.agg (s8 (dJ c.L names v.toNat I).1)) (hB c e (dJ c.L names v.toNat I).2 left++l):=by have h:=VY hL names hN v.toNat (by omega) ((famB c e left).app l) I hI;rw[Int.toNat_of_nonneg hv.1]at h;exact h
variable {i:Nat}
theorem pS {l:List Mx}(h:i<l.length):List.take 1 (List.drop (i*3+2) (c9 l))=[AV.int .i64 (l.getD i w5).size]:=by have:=congrArg (fun x=>x.drop 2) (zQ h);simp only[List.drop_take,List.drop_drop]at this;simpa using this
theorem RP {l:List Mx}(h:i<l.length):List.take 1 (List.drop (i*3) (c9 l))=[AV.str (l.getD i w5).name]:=by have:=congrArg (fun x=>x.take 1) (zQ h);simp only[List.take_take]at this;simpa using this
theorem AM {l:List Pm}(h:i<l.length):List.take 1 (List.drop (i*2) (v9 l))=[AV.str (l.getD i iA).name]:=by have:=congrArg (fun x=>x.take 1) (HF h);simp only[List.take_take]at this;simpa using this
theorem lC {l:List Pm}(h:i<l.length):List.take 1 (List.drop (i*2+1) (v9 l))=[AV.bool (l.getD i iA).mu]:=by have:=congrArg (fun x=>x.drop 1) (HF h);simp only[List.drop_take,List.drop_drop]at this;simpa using this
variable {vars:List BA}{size:Int}
theorem idx_pos {c:Core}{I:Int}(h:c.ar=true)(h2:(c4 c.L I 3).1=1):gN c vars size I=dJ c.L vars 1 (c4 c.L I 3).2:=by rw[gN,if_pos h,if_pos h2]
theorem idx_neg {c:Core}{I:Int}(h:c.ar=true)(h2:¬(c4 c.L I 3).1=1):gN c vars size I=(.leaf 1 (c4 c.L (c4 c.L I 3).2 size).1 ByteArray.empty,(c4 c.L (c4 c.L I 3).2 size).2):=by rw[gN,if_pos h,if_neg h2]
theorem idx_no {c:Core}{I:Int}(h:c.ar=false):gN c vars size I=(.leaf 1 (c4 c.L I size).1 ByteArray.empty,(c4 c.L I size).2):=by rw[gN,if_neg t198]
theorem wex_pos {c:Core}{I:Int}(h:c.ar=true):g8 c vars I=dJ c.L vars (1+(c4 c.L I 2).1).toNat (c4 c.L I 2).2:=by rw[g8,if_pos h]
theorem wex_neg {c:Core}{I:Int}(h:c.ar=false):g8 c vars I=dJ c.L vars 0 I:=by rw[g8,if_neg t198]
attribute [local go_sem] l8 aF p8 aM o2 Int.natCast_nonneg Int.natCast_inj List.length_map cH hB_1 hB_2 hB_5 Ai Aj Ak Al fA A9 fP S4
theorem frz_E {n d:Nat}{H:c7}{a:Ex}:r6 (iL n H (d+1)) (s8 a)=some (s8 a):=by rw[bN];rfl
theorem RQ {r:Rf}:oO (EV ⟨true,r,l4⟩) (.bool true::(Z1 r++[.int .i64 0,.int .i64 0,.str ByteArray.empty,.nils])):=⟨.inl rfl,.inl rfl,.inl rfl,.inl rfl,.inl rfl,.inl rfl,.inr ⟨rfl,rfl⟩,trivial⟩
theorem JC {x:Ex}:oO (EV ⟨false,n5,x⟩) (.bool false::.str ByteArray.empty::.nils::s8 x):=⟨.inl rfl,.inl rfl,.inr ⟨rfl,rfl⟩,oO.refl _⟩
theorem frz_A {n d:Nat}{H:c7}{l:List Ar}:r6 (lK n H (d+1)) (bE l)=some (bE l):=by
  induction l with
  | nil=>rfl
  | cons a l ih=>
    refine xU ?_ ih;simp only[EV,r6,pH,pI,mW,DL]
section
attribute [local go_sem] fY
theorem c_index {c:Core}{e:Frame}{left I:Int}(hc:OkC c)(hI:OkI c.L I)(hL:c.L.length<4611686018427387904)(vars:List BA)(hN:vars.length<1000)(size:Int)(hs:0<size∧size≤3):CH 157 [.ptr 5 0 0,.vec vars.length (aB vars),.int .i64 size] (hB c e I left) (.agg (s8 (gN c vars size I).1)) (hB c e (gN c vars size I).2 left):=by
  refine .wz Tryz.f157 32 ?_;have h3:=l7 hI (n:=3) (by omega);refine c19z ?_;refine c22z ?_;refine .spl 11 rfl rfl (fun e1=>?_) (fun e1=>?_)
  ·try simp only[e1]
   have qe1:=fact e1;refine .k 4 [(4,11)] ?_;refine .ch rfl rfl (fZ _ _ 3 hI hL (by omega) (by omega)) ?_;refine .m [(4,11)] ?_;refine u2z ?_ ?_
   ·intro e2 qe2;refine .c5 [0,1,6] ?_;refine c22z ?_;refine .ch rfl rfl (S5 _ _ 1 h3.2.2 hL vars hN (by omega)) ?_;refine c180z ?_;exact ⟨hB _ _ _ _,_,_,rfl,t70,gT,t7,t73⟩
   intro e2 qe2;refine .sk ?_;refine .c5 [0,2,6] ?_;refine c22z ?_;refine .ch rfl rfl (fZ _ _ size (by first | exact h3.2.2 | exact hI) hL (by omega) (by omega)) ?_;refine c180z ?_;exact ⟨hB _ _ _ _,_,_,rfl,t70,gT,t7,t73⟩
  try simp only[e1]
  have qe1:=fact e1;refine .m [(4,11)] ?_;refine c20z ?_;refine .c5 [0,2,6] ?_;refine c22z ?_;refine .ch rfl rfl (fZ _ _ size (by first | exact h3.2.2 | exact hI) hL (by omega) (by omega)) ?_;refine c180z ?_;exact ⟨hB _ _ _ _,_,_,rfl,t70,gT,t7,t73⟩
end
section
attribute [local go_sem] fY wrap64
theorem c_wexpr {c:Core}{e:Frame}{left I:Int}(hc:OkC c)(hI:OkI c.L I)(hL:c.L.length<4611686018427387904)(vars:List BA)(hN:vars.length<1000):CH 128 [.ptr 5 0 0,.vec vars.length (aB vars)] (hB c e I left) (.agg (s8 (g8 c vars I).1)) (hB c e (g8 c vars I).2 left):=by
  refine .wz Tryz.f128 28 ?_;have h2:=l7 hI (n:=2) (by omega);refine c89z ?_;refine u2z ?_ ?_
  ·intro e1 qe1;refine c22z ?_;refine .ch rfl rfl (S5 _ _ 0 hI hL vars hN (by omega)) ?_;refine c180z ?_;exact ⟨hB _ _ _ _,_,_,rfl,t70,gT,t7,t123⟩
  intro e1 qe1;refine .sk ?_;refine .sm u9 (mkP 13 [0,1,3,7,0,0,32,96,224,480,992,2047,4095] [9,11,12]) [0,1,2,3,4] ?_;refine eE.p (pd:=[]) 9 ?_;refine eE.s5 rfl rfl rfl rfl rfl wU (fZ _ _ 2 hI hL (by omega) (by omega)) ?_;refine eE.p 1 ?_;refine eE.s5 rfl rfl rfl rfl rfl PN (S5 _ _ _ h2.2.2 hL vars hN (by omega)) ?_;refine eE.p 1 ?_;refine eE.nil t10 ?_;refine c3z ?_;exact ⟨hB _ _ _ _,_,_,rfl,t70,gT,t7,t123⟩
end
theorem jZ {l:List BA}{x:BA}:aB (l++[x])=aB l++[.str x]:=by simp[aB]
theorem DR {c:Core}(h:i<c.ms.length):(c.ms.map (·.name)).take (i+1)=(c.ms.map (·.name)).take i++[(c.ms.getD i w5).name]:=by rw[List.take_add_one];simp[List.getD,h]
theorem K6 (l m:List Pm):extra (l++m)=extra l++extra m:=by
  induction l with
  | nil=>rfl
  | cons p l ih=>simp only[List.cons_append,extra];split<;>simp[ih]
variable {j:Nat}
theorem xY {l:List Pm}(h:j<l.length):l.take (j+1)=l.take j++[l.getD j iA]:=by rw[List.take_add_one];simp[List.getD,h]
variable {ps:List Pm}
theorem JD {c:Core}:l3 c (ps.take 0)=c.ms.map (·.name):=by simp[l3,extra]
theorem rn_t {c:Core}(h:j<ps.length)(hm:(ps.getD j iA).mu=true):l3 c (ps.take (j+1))=l3 c (ps.take j)++[(ps.getD j iA).name]++[(ps.getD j iA).name]:=by rw[xY h];simp only[l3,K6,List.append_assoc];simp only[extra,hm,if_true];rfl
theorem rn_f {c:Core}(h:j<ps.length)(hm:(ps.getD j iA).mu=false):l3 c (ps.take (j+1))=l3 c (ps.take j):=by rw[xY h];simp only[l3,K6];simp only[extra,hm,Bool.false_eq_true,if_false,List.append_nil]
theorem ref_pos {c:Core}{I:Int}(h1:(c4 c.L I (l3 c ps).length).1<c.ms.length)(h2:0<(c.ms.getD (c4 c.L I (l3 c ps).length).1.toNat w5).size):s9 c ps vars I=
    (⟨(l3 c ps).getD (c4 c.L I (l3 c ps).length).1.toNat ByteArray.empty,[(gN c vars (c.ms.getD (c4 c.L I (l3 c ps).length).1.toNat w5).size (c4 c.L I (l3 c ps).length).2).1]⟩,(gN c vars (c.ms.getD (c4 c.L I (l3 c ps).length).1.toNat w5).size (c4 c.L I (l3 c ps).length).2).2):=if_pos ⟨h1,h2⟩
theorem ref_neg {c:Core}{I:Int}(h:¬((c4 c.L I (l3 c ps).length).1<c.ms.length∧0<(c.ms.getD (c4 c.L I (l3 c ps).length).1.toNat w5).size)):s9 c ps vars I=
    (⟨(l3 c ps).getD (c4 c.L I (l3 c ps).length).1.toNat ByteArray.empty,[]⟩,(c4 c.L I (l3 c ps).length).2):=if_neg h
theorem encN_ne {l:List BA}(h:0<l.length):aB l≠[]:=by intro e;have:=congrArg List.length e;rw[aF,List.length_nil]at this;omega
theorem JE {x:Ex}:n7 [x]=s8 x:=by simp[n7]
theorem JF {c:Core}{e:Frame}{I left:Int}{fb rb:Blk}{g n:Nat}{zs:List BA}{x:AV}(hz:zs.length=n)(hn:n<1000) :
    j6 cfg 9 (hB c e I left++[fb,rb,p9 9 1 g (aB zs),⟨0,false,9,1,[x],0⟩]) (.own (e.n+2) g 0 n) (.own (e.n+3) 0 0 1)=some (.own (e.n+2) (g+1) 0 (n+1),hB c e I left++[fb,rb,p9 9 1 (g+1) (aB zs++[x]),⟨0,false,9,1,[x],0⟩]):=by
  have hb:(hB c e I left++[fb,rb,p9 9 1 g (aB zs),⟨0,false,9,1,[x],0⟩])[e.n+2]?=some (p9 9 1 g (aB zs)):=fA;rw[u7 (C:=cfg) (K:=1) (m:=1) (new:=[x]) hb rfl (by omega) (by rw[aF,hz,Nat.mul_one]) rfl (by omega) t134 rfl (by decide) (by omega),fP];rfl
theorem DS {c:Core}{e:Frame}{I left:Int}{fb rb:Blk}{g n:Nat}{zs:List BA}{x y:AV}(hz:zs.length=n)(hn:n<1000) :
    j6 cfg 9 (hB c e I left++[fb,rb,p9 9 1 g (aB zs),⟨0,false,9,1,[x,y],0⟩]) (.own (e.n+2) g 0 n) (.own (e.n+3) 0 0 2)=some (.own (e.n+2) (g+1) 0 (n+2),hB c e I left++[fb,rb,p9 9 1 (g+1) (aB zs++[x,y]),⟨0,false,9,1,[x,y],0⟩]):=by
  have hb:(hB c e I left++[fb,rb,p9 9 1 g (aB zs),⟨0,false,9,1,[x,y],0⟩])[e.n+2]?=some (p9 9 1 g (aB zs)):=fA;rw[u7 (C:=cfg) (K:=1) (m:=2) (new:=[x,y]) hb rfl (by omega) (by rw[aF,hz,Nat.mul_one]) rfl (by omega) t134 rfl (by decide) (by omega),fP];rfl
theorem WQ {n:Nat}{l:List BA}:∀x∈aB l,Refs n x:=by intro x hx;obtain ⟨y,_,rfl⟩:=List.mem_map.1 hx;exact .str _
theorem Frame.n_ge (e:Frame):9≤e.n:=by unfold Frame.n;omega
theorem RR {c:Core}{e:Frame}{left I:Int}{l:c7}(hc:OkC c)(hI:OkI c.L I)(hL:c.L.length<4611686018427387904)(vars:List BA)(hN:vars.length<1000)(size:Int)(hs:0<size∧size≤3):CH 157 [.ptr 5 0 0,.vec vars.length (aB vars),.int .i64 size] (hB c e I left++l) (.agg (s8 (gN c vars size I).1)) (hB c e (gN c vars size I).2 left++l):=c_index (e:=⟨e.b0,e.b1,e.b2,e.z,e.m,e.g,e.rest++l⟩) hc hI hL vars hN size hs
theorem AN {c:Core}{e:Frame}{left I:Int}{l:c7}(hc:OkC c)(hI:OkI c.L I)(hL:c.L.length<4611686018427387904)(vars:List BA)(hN:vars.length<1000):CH 128 [.ptr 5 0 0,.vec vars.length (aB vars)] (hB c e I left++l) (.agg (s8 (g8 c vars I).1)) (hB c e (g8 c vars I).2 left++l):=c_wexpr (e:=⟨e.b0,e.b1,e.b2,e.z,e.m,e.g,e.rest++l⟩) hc hI hL vars hN
section
attribute [local go_sem] fY wrap64 eA JF DS RP pS AM lC rS J4 R3 zZ max2
theorem c_ref {c:Core}{e:Frame}{left I:Int}(hc:OkC c)(hI:OkI c.L I)(hL:c.L.length<4611686018427387904)(vars:List BA)(hN:vars.length<1000)(f:Fu)(hp:f.params.length≤2):CH 127 [.ptr 5 0 0,.agg (eA f),.vec vars.length (aB vars)] (hB c e I left) (.agg (Z1 (s9 c f.params vars I).1)) (hB c e (s9 c f.params vars I).2 left):=by
  refine .wz Tryz.f127 107 ?_;have hml:=hc.ml;refine c60z ?_;refine c8.sB 7 rfl ?_;refine .u0 (fun m st=>∃(i:Nat),(m=c.ms.length-i∧i≤c.ms.length)∧st=⟨mkS 107 [(0,AV.ptr 5 0 0),(2,AV.vec vars.length (aB vars)),(4,AV.ptr e.n 0 0),(6,AV.ptr (e.n+1) 0 0),(7,AV.own (e.n+2) i 0 i),(8,AV.int .i64 ((i:Nat):Int))],hB c e I left++[⟨0,false,136,3,[.str f.name,.vec f.params.length (v9 f.params),.vec f.body.len (o9 f.body)],0⟩,⟨0,false,187,2,[.str ByteArray.empty,.nils],0⟩,p9 9 1 i (aB ((c.ms.map (·.name)).take i))]⟩) (.v ⟨0,⟨rfl,by omega⟩,rfl⟩ (hs:=t37) (hr:=t1)) ?_;rintro m sl h' ⟨i,⟨hm,hi⟩,hst⟩;obtain ⟨rfl,rfl⟩:=St.mk.inj hst;clear hst;have htk:((c.ms.map (·.name)).take i).length=i:=by simp;omega
  refine c0z ?_;refine u2z ?_ ?_
  ·intro e1 qe1;refine c2z ?_;refine .c5 [0,2,4,6,7,8] ?_;refine c91z ?_;refine .c5 [0,2,4,6,7,8] ?_;refine .rz ?_;exact ⟨_,by omega,.v ⟨(i+1),⟨rfl,by omega⟩,rfl⟩ (he:=by (rw[DR (by omega),jZ];simp only[List.append_assoc,List.cons_append,List.nil_append];rfl)) (hl:=t28) (hk:=t113) (hs:=t37) (hr:=t1)⟩
  intro e1 qe1;refine .exit ?_;obtain rfl:i=c.ms.length:=by omega
  change c8 ..;refine .c5 [0,2,4,6,7] ?_;refine c17z ?_;refine .u0 (fun m st=>∃(j:Nat) (g:Nat),(m=f.params.length-j∧j≤f.params.length)∧st=⟨mkS 107 [(0,AV.ptr 5 0 0),(2,AV.vec vars.length (aB vars)),(4,AV.ptr e.n 0 0),(6,AV.ptr (e.n+1) 0 0),(7,AV.own (e.n+2) g 0 (l3 c (f.params.take j)).length),(9,AV.int .i64 ((c.ms.length:Nat):Int)),(10,AV.int .i64 ((j:Nat):Int))],hB c e I left++[⟨0,false,136,3,[.str f.name,.vec f.params.length (v9 f.params),.vec f.body.len (o9 f.body)],0⟩,⟨0,false,187,2,[.str ByteArray.empty,.nils],0⟩,p9 9 1 g (aB (l3 c (f.params.take j)))]⟩) (.v ⟨0,c.ms.length,⟨rfl,by omega⟩,rfl⟩ (hs:=t57) (hr:=t1)) ?_ (he:=by (rw[JD,show (c.ms.map (·.name)).take c.ms.length=c.ms.map (·.name) from List.take_of_length_le (by simp)]));rintro m sl h' ⟨j,g,⟨hm,hj⟩,hst⟩;obtain ⟨rfl,rfl⟩:=St.mk.inj hst;clear hst;have hxl:=(mG hc (f.params.take j)).2;have hxt:(f.params.take j).length≤2:=by simp;omega
  refine c0z ?_;refine u2z ?_ ?_
  ·intro e2 qe2;refine c72z ?_;refine u2z ?_ ?_
   ·intro e3 qe3;refine .c5 [0,2,4,6,7,9,10] ?_;refine c8.jK u9 (mkP 16 [0,0,2,0,14,30,62,0,128,0,896,1920,3968,8190,16383,32767] [13,14]) [0] (by kernel_rfl) (by kernel_rfl) ?_;refine eE.p (pd:=[]) 16 ?_;refine c134z ?_;refine .c5 [0,2,4,6,7,9,10] ?_;refine .rz ?_;have hxs:=congrArg List.length (rn_t (c:=c) (j:=j) (ps:=f.params) (by omega) (by assumption));simp only[List.length_append,List.length_singleton]at hxs;exact ⟨_,by omega,.v ⟨(j+1),(g+1),⟨rfl,by omega⟩,rfl⟩ (he:=by (rw[rn_t (by omega) (by assumption),jZ,jZ];simp only[List.append_assoc,List.cons_append,List.nil_append];rfl)) (hl:=t28) (hk:=t113) (hs:=t57) (hr:=t1)⟩
   intro e3 qe3;refine c4z ?_;refine .c5 [0,2,4,6,7,9,10] ?_;refine .rz ?_;have hxs:=congrArg List.length (rn_f (c:=c) (j:=j) (ps:=f.params) (by omega) (by assumption));exact ⟨_,by omega,.v ⟨(j+1),g,⟨rfl,by omega⟩,rfl⟩ (he:=by (rw[rn_f (by omega) (by assumption)];exact (List.append_nil _).symm)) (hl:=t28) (hk:=t113) (hs:=t57) (hr:=t1)⟩
  intro e2 qe2;refine .exit ?_;obtain rfl:j=f.params.length:=by omega
  rw[List.take_length]at hxl ⊢;change c8 ..;have hrl:=mG hc f.params;have hk:=l7 hI (n:=((l3 c f.params).length:Int)) (by omega);rw[cP (encN_ne hrl.1)];refine c139z ?_;refine .ch rfl rfl (fZ _ _ _ hI hL (by omega) (by omega)) ?_;refine .n ?_;refine .c5 [0,2,6,7,9,11] ?_;refine c19z ?_;refine c28z ?_;refine .spl 80 rfl rfl (fun e4=>?_) (fun e4=>?_)
  ·try simp only[e4]
   have qe4:=fact e4;refine .k 8 [(3,80)] ?_;refine .m [(3,80)] ?_;refine u2z ?_ ?_
   ·intro e5 qe5;refine .c5 [0,2,6,11,12] ?_;have hsz:=hc.mx (c4 c.L I (l3 c f.params).length).1.toNat (by omega);refine c70z ?_;refine .e 3 ?_;refine .ch rfl rfl (RR hc hk.2.2 hL vars hN _ (by omega)) ?_;refine c25z ?_;refine .c5 [6,12] ?_;refine c24z ?_;exact ⟨hB _ _ _ _,_,_,rfl,t70,gT,t7,t84⟩
   intro e5 qe5;refine .sk ?_;refine .c5 [6,12] ?_;refine c24z ?_;exact ⟨hB _ _ _ _,_,_,rfl,t70,gT,t7,t84⟩
  try simp only[e4]
  have qe4:=fact e4;refine .k 8 [(3,80)] ?_;refine .m [(3,80)] ?_;refine c20z ?_;refine .c5 [6,12] ?_;refine c24z ?_;exact ⟨hB _ _ _ _,_,_,rfl,t70,gT,t7,t84⟩
end
end Go.Proofs.YtonbocmibeikmaaGreat
end
section
namespace Go.Proofs.YtonbocmibeikmaaGreat
open Go.Ab Go.Un
structure Sco where
  p:Go.Un.Pg
  l:List Ent
  loc:Int
  st:Int
  code:List Ins
  sites:List Int
structure Frm where
  pre:c7
  rest:c7
def Frm.k (e:Frm):Nat:=e.pre.length
def Frm.n (e:Frm):Nat:=e.pre.length+(e.rest.length+3)
def z8 (k:Nat)(s:Sco):Blk:=⟨0,false,198,10,[.vec s.p.globals.length (p4 s.p.globals),.vec s.p.mutexes.length (c9 s.p.mutexes),.vec s.p.funcs.length (n8 s.p.funcs),.vec s.l.length (j5 s.l),.int .i64 s.loc,.int .i64 s.st,.int .i64 0,.int .i64 0,.own (k+1) s.code.length 0 s.code.length,.own (k+2) s.sites.length 0 s.sites.length],0⟩
def hT (e:Frm)(b:Blk)(c:List Ins)(ss:List Int):c7:=e.pre++(b::p9 54 12 c.length (p5 c)::p9 3 1 ss.length (g6 ss)::e.rest)
section
variable {e:Frm}{b b':Blk}{c c':List Ins}{ss ss':List Int}{l:c7}{j:Nat}
theorem aG:(hT e b c ss).length=e.n:=by simp[hT,Frm.n]
theorem Frm.lt (e:Frm):e.k<e.n∧e.k+1<e.n∧e.k+2<e.n:=by unfold Frm.k Frm.n;omega
theorem hT_0:(hT e b c ss)[e.k]?=some b:=by rw[hT,Frm.k,List.getElem?_append_right (Nat.le_refl _),Nat.sub_self];rfl
theorem hT_1:(hT e b c ss)[e.k+1]?=some (p9 54 12 c.length (p5 c)):=by rw[hT,Frm.k,List.getElem?_append_right (by omega),Nat.add_sub_cancel_left];rfl
theorem hT_2:(hT e b c ss)[e.k+2]?=some (p9 3 1 ss.length (g6 ss)):=by rw[hT,Frm.k,List.getElem?_append_right (by omega),Nat.add_sub_cancel_left];rfl
theorem RS:(hT e b c ss++l)[e.k]?=some b:=by rw[List.getElem?_append_left (by rw[aG];exact e.lt.1),hT_0]
theorem RT:(hT e b c ss++l)[e.k+1]?=some (p9 54 12 c.length (p5 c)):=by rw[List.getElem?_append_left (by rw[aG];exact e.lt.2.1),hT_1]
theorem RU:(hT e b c ss++l)[e.k+2]?=some (p9 3 1 ss.length (g6 ss)):=by rw[List.getElem?_append_left (by rw[aG];exact e.lt.2.2),hT_2]
theorem eC:(hT e b c ss++l)[e.n+j]?=l[j]?:=by rw[List.getElem?_append_right (by rw[aG];omega),aG,Nat.add_sub_cancel_left]
theorem B2:(hT e b c ss++l)[e.n]?=l[0]?:=by rw[List.getElem?_append_right (by rw[aG];omega),aG,Nat.sub_self]
theorem gX:(hT e b c ss++l).set (e.n+j) b'=hT e b c ss++l.set j b':=by rw[List.set_append_right _ _ (by rw[aG];omega),aG,Nat.add_sub_cancel_left]
theorem S6:(hT e b c ss++l).set e.n b'=hT e b c ss++l.set 0 b':=by rw[List.set_append_right _ _ (by rw[aG];omega),aG,Nat.sub_self]
theorem RV:(hT e b c ss).set e.k b'=hT e b' c ss:=by rw[hT,Frm.k,List.set_append_right _ _ (Nat.le_refl _),Nat.sub_self];rfl
theorem AO:(hT e b c ss++l).set e.k b'=hT e b' c ss++l:=by rw[List.set_append_left _ _ (by rw[aG];exact e.lt.1),RV]
theorem hT_p1:(hT e b c ss).set (e.k+1) (p9 54 12 c'.length (p5 c'))=hT e b c' ss:=by rw[hT,Frm.k,List.set_append_right _ _ (by omega),Nat.add_sub_cancel_left];rfl
theorem hT_p2:(hT e b c ss).set (e.k+2) (p9 3 1 ss'.length (g6 ss'))=hT e b c ss':=by rw[hT,Frm.k,List.set_append_right _ _ (by omega),Nat.add_sub_cancel_left];rfl
theorem WR:(hT e b c ss++l).set (e.k+1) (p9 54 12 c'.length (p5 c'))=hT e b c' ss++l:=by rw[List.set_append_left _ _ (by rw[aG];exact e.lt.2.1),hT_p1]
theorem hT_p2a:(hT e b c ss++l).set (e.k+2) (p9 3 1 ss'.length (g6 ss'))=hT e b c ss'++l:=by rw[List.set_append_left _ _ (by rw[aG];exact e.lt.2.2),hT_p2]
theorem WS:hT e b c ss++l=hT ⟨e.pre,e.rest++l⟩ b c ss:=by simp[hT]
end
theorem WT (l:List Ins):aA (p5 l):=aA.flat fun i=>by rw[eM,bN];exact .cons .int (.cons .int (.cons .bool (.cons .int (.cons .int (.cons .str (.cons .vec (.cons .bool (.cons .int (.cons .vec (.cons .vec (.cons .vec .nil)))))))))))
theorem xE (l:List Int):aA (g6 l):=aA.map fun _=>.int
theorem B3 {e:Frm}{b b':Blk}{c c':List Ins}{ss ss':List Int}(hb:∀x∈b'.cells,Refs e.n x):v5 (hT e b c ss) (hT e b' c' ss'):=by unfold hT;refine v5.app (v5.refl _) rfl ⟨.inr ?_,.inr (by rw[o3];exact (WT _).refs _),.inr (by rw[o3];exact (xE _).refs _),nL.refl _ _⟩;rw[show e.pre.length+(b'::p9 54 12 c'.length (p5 c')::p9 3 1 ss'.length (g6 ss')::e.rest).length=e.n from by simp[Frm.n]];exact hb
variable {s:Sco}
theorem hT_keep {e:Frm}{k:Nat}{s':Sco}:k=e.k→v5 (hT e (z8 k s) s.code s.sites) (hT e (z8 k s') s'.code s'.sites):=by
  rintro rfl;refine B3 (gK.get ⟨.vec _ _,.vec _ _,.vec _ _,.vec _ _,.int _ _,.int _ _,.int _ _,.int _ _,.own _ _ _ _ ?_,.own _ _ _ _ ?_,trivial⟩)
  · exact e.lt.2.1
  · exact e.lt.2.2
theorem gA {f:FuncId}{args:List AV}{x:AV}{s':Sco}{l:c7}{e:Frm}(h:CH f args (hT ⟨e.pre,e.rest++l⟩ (z8 e.k s) s.code s.sites) x (hT ⟨e.pre,e.rest++l⟩ (z8 e.k s') s'.code s'.sites)):CH f args (hT e (z8 e.k s) s.code s.sites++l) x (hT e (z8 e.k s') s'.code s'.sites++l):=by rw[WS,WS];exact h
theorem DT {α:Type}(f:α→List AV)(K j:Nat)(hK:∀a,(f a).length=K)(hj:j<K)(d:α){l:List α}{i:Nat}(h:i<l.length):List.take 1 (List.drop (i*K+j) (l.flatMap f))=List.take 1 (List.drop j (f (l.getD i d))):=by rw[←cL f K hK d h,List.drop_take,List.take_take,List.drop_drop,Nat.min_eq_left (by omega)]
theorem kA {l:List Ent}{i:Nat}(h:i<l.length):List.take 1 (List.drop (i*3) (j5 l))=[.str (l.getD i jN).name]:=DT iM 3 0 (fun _=>rfl) (by omega) jN h
variable {x:BA}
theorem find_at {l:List Ent}:∀{i:Nat},i<l.length→(∀d,d<i→((l.getD d jN).name.toList==x.toList)=false)→((l.getD i jN).name.toList==x.toList)=true→bP l x=some (l.getD i jN):=by
  have tl:∀{a b:BA},(a.toList==b.toList)=decide (a=b):=by
    intro a b;rw[ByteArray.toList_eq,ByteArray.toList_eq,Bool.eq_iff_iff];simp only[beq_iff_eq,decide_eq_true_eq];constructor
    · intro h
      exact ByteArray.ext (Array.toList_inj.1 h)
    · rintro rfl;rfl
  induction l with
  | nil=>intro i h;simp at h
  | cons e l ih=>
    intro i hi h1 h2;rw[bP,List.find?_cons];cases i with
    | zero=>
      rw[tl]at h2;simp only[List.getD_cons_zero]at h2 ⊢;rw[h2]
    | succ i=>
      have h0:=h1 0 (by omega);rw[tl]at h0;simp only[List.getD_cons_zero]at h0;rw[h0];simp only[List.getD_cons_succ]at h2 ⊢;exact ih (by simpa using hi) (fun d hd=>by have:=h1 (d+1) (by omega);simpa using this) h2
theorem find_no {l:List Ent}(h:∀d,d<l.length→((l.getD d jN).name.toList==x.toList)=false):bP l x=none:=by rw[bP,List.find?_eq_none];intro e he;obtain ⟨i,hi,rfl⟩:=bX (d:=jN) he;have:=h i hi;intro hc;simp only[decide_eq_true_eq]at hc;rw[hc]at this;simp at this
theorem find_nx {l:List Ent}{i:Nat}(h:∀d,d<i→((l.getD d jN).name.toList==x.toList)=false)(e:((l.getD i jN).name.toList==x.toList)=false):∀d,d<i+1→((l.getD d jN).name.toList==x.toList)=false:=fun d hd=>by
  by_cases hdi:d=i
  · rw[hdi];exact e
  · exact h d (by omega)
variable {v:Ent}
theorem AP {l:List Ent}(h:bP l x=some v):AV.tup [.agg [.str v.name,.int .i64 v.kind,.int .i64 v.n],.bool true]=.tup [.agg (iM (eU l x)),.bool (bP l x).isSome]:=by rw[eG h,h];rfl
theorem AQ {l:List Ent}(h:bP l x=none):AV.tup [.agg [.str ByteArray.empty,.int .i64 0,.int .i64 0],.bool false]=.tup [.agg (iM (eU l x)),.bool (bP l x).isSome]:=by rw[eU,h];rfl
variable {i:Ins}
theorem lD:eM i=[.int .i64 i.op,.int .i64 i.target,.bool i.global,.int .i64 i.e.op,.int .i64 i.e.num,.str i.e.name,.vec i.e.args.length (n7 i.e.args),.bool i.pl.param,.int .i64 i.pl.index,.vec i.pl.at'.length (n7 i.pl.at'),.vec i.ints.length (n7 i.ints),.vec i.places.length (dP i.places)]:=by rw[eM,bN];rfl
theorem S7 {l:List Ins}:p5 (l++[i])=p5 l++eM i:=by simp[p5]
theorem pT {l:List Int}{i:Int}:g6 (l++[i])=g6 l++[.int .i64 i]:=by simp[g6]
theorem Ba (l:List Ex):aA (n7 l):=aA.flat fun e=>by rw[bN];exact .cons .int (.cons .int (.cons .str (.cons .vec .nil)))
theorem JG (l:List Pl):aA (dP l):=aA.flat fun p=>.cons .bool (.cons .int (.cons .vec .nil))
theorem vL:List.take 12 (eM i)=eM i:=List.take_of_length_le (by rw[aR];omega)
variable {b0:Blk}
theorem RW {e:Frm}{b:Blk}{c:List Ins}{ss:List Int}{l:c7}{n:Nat}(hn:c.length=n)(hl:n<100000):j6 cfg 54 (hT e b c ss++(b0::⟨1,false,54,12,eM i,0⟩::l)) (.own (e.k+1) n 0 n) (.own (e.n+1) 1 0 1)=some (.own (e.k+1) (n+1) 0 (n+1),hT e b (c++[i]) ss++(b0::⟨1,false,54,12,eM i,0⟩::l)):=by
  subst hn;have h1:(c++[i]).length=c.length+1:=by simp
  rw[u7 (C:=cfg) (K:=12) (m:=1) (new:=eM i) RT rfl (by omega) (by rw[u4,Nat.mul_comm]) (by rw[aR]) (by omega) (by simp[rd,eC,aR,vL]) rfl (by decide) (by omega),←S7,←h1,WR]
theorem K7 {e:Frm}{b:Blk}{c:List Ins}{ss:List Int}{l:c7}{n:Nat}(hn:c.length=n)(hl:n<100000):j6 cfg 54 (hT e b c ss++(b0::⟨1,false,54,12,[.int .i64 i.op,.int .i64 i.target,.bool i.global,.int .i64 i.e.op,.int .i64 i.e.num,.str i.e.name,.vec i.e.args.length (n7 i.e.args),.bool i.pl.param,.int .i64 i.pl.index,.vec i.pl.at'.length (n7 i.pl.at'),.vec i.ints.length (n7 i.ints),.vec i.places.length (dP i.places)],0⟩::l)) (.own (e.k+1) n 0 n) (.own (e.n+1) 1 0 1)=some (.own (e.k+1) (n+1) 0 (n+1),hT e b (c++[i]) ss++(b0::⟨1,false,54,12,[.int .i64 i.op,.int .i64 i.target,.bool i.global,.int .i64 i.e.op,.int .i64 i.e.num,.str i.e.name,.vec i.e.args.length (n7 i.e.args),.bool i.pl.param,.int .i64 i.pl.index,.vec i.pl.at'.length (n7 i.pl.at'),.vec i.ints.length (n7 i.ints),.vec i.places.length (dP i.places)],0⟩::l)):=by rw[←lD];exact RW hn hl
theorem AR {e:Frm}{b b1:Blk}{c:List Ins}{ss:List Int}{l:c7}{t:Int}{n:Nat}(hn:ss.length=n)(hl:n<100000):j6 cfg 3 (hT e b c ss++(b0::b1::⟨1,false,3,1,[.int .i64 t],0⟩::l)) (.own (e.k+2) n 0 n) (.own (e.n+2) 1 0 1)=some (.own (e.k+2) (n+1) 0 (n+1),hT e b c (ss++[t])++(b0::b1::⟨1,false,3,1,[.int .i64 t],0⟩::l)):=by
  subst hn;have h1:(ss++[t]).length=ss.length+1:=by simp
  rw[u7 (C:=cfg) (K:=1) (m:=1) (new:=[.int .i64 t]) RU rfl (by omega) (by rw[l8,Nat.mul_one]) rfl (by omega) (by simp[rd,eC]) rfl (by decide) (by omega),←pT,←h1,hT_p2a]
attribute [local go_sem] j6 rd s6 o2 bD cM u4 aR fQ dI p8 bA aM l8 bF Int.natCast_nonneg Int.natCast_inj List.length_map wrap64 fY jA jB AB J4 R3 AD zZ max2 eY cR bH Nat.reduceMul mY kA z8 iM pS lC vL aG hT_0 hT_1 hT_2 RS RT RU eC B2 gX S6 RV AO
variable {h:c7}
theorem WV (l:List Ent)(x:BA)(hl:l.length<1000000):CB 89 [.vec l.length (j5 l),.str x] h (.tup [.agg (iM (eU l x)),.bool (bP l x).isSome]):=by
  refine .bz Tryz.f89 25 ?_;refine c17z ?_;refine .cA (fun m st=>∃(i:Nat),(m=l.length-i∧((∀d,d<i→((l.getD d jN).name.toList==x.toList)=false)∧i≤l.length))∧st=⟨mkS 25 [(0,AV.vec l.length (j5 l)),(1,AV.str x),(4,AV.ptr h.length 0 0),(6,AV.int .i64 ((i:Nat):Int))],h++[⟨0,false,145,3,[.str ByteArray.empty,.int .i64 0,.int .i64 0],0⟩]⟩) _ (.v ⟨0,⟨rfl,⟨t107,by omega⟩⟩,rfl⟩) ?_;rintro m sl h' ⟨i,⟨hm,⟨hI,hi⟩⟩,hst⟩;obtain ⟨rfl,rfl⟩:=St.mk.inj hst;refine c0z ?_;refine u2z ?_ ?_
  ·intro e1 qe1;refine c72z ?_;refine u2z ?_ ?_
   ·intro e2 qe2;refine .c5 [0,4,6] ?_;refine .z ?_;exact .ret (.ex (hq:=t165))
   intro e2 qe2;refine c4z ?_;refine .c5 [0,1,4,6] ?_;refine .rz ?_;exact ⟨_,by omega,.v ⟨(i+1),⟨rfl,⟨find_nx hI (by assumption),by omega⟩⟩,rfl⟩⟩
  intro e1 qe1;refine .exit ?_;obtain rfl:i=l.length:=by omega
  refine c216z ?_;exact .ret (.ex (hq:=t165))
theorem S8 {l:List Ent}(hf:bP l x=some v)(hl:l.length<1000000):CB 89 [.vec l.length (j5 l),.str x] h (.tup [.agg [.str v.name,.int .i64 v.kind,.int .i64 v.n],.bool true]):=by have:=WV (h:=h) l x hl;rw[←AP hf]at this;exact this
theorem JH {l:List Ent}(hf:bP l x=none)(hl:l.length<1000000):CB 89 [.vec l.length (j5 l),.str x] h (.tup [.agg [.str ByteArray.empty,.int .i64 0,.int .i64 0],.bool false]):=by have:=WV (h:=h) l x hl;rw[←AQ hf]at this;exact this
theorem c_var {e:Frm}(hl:s.l.length<1000000)(t:Int)(hf:bP s.l x=some v)(hk:v.kind=1∨v.kind=4):CB 167 [.ptr e.k 0 0,.str x,.int .i64 t] (hT e (z8 e.k s) s.code s.sites) (.agg [.str v.name,.int .i64 v.kind,.int .i64 v.n]):=by
  refine .bz Tryz.f167 37 ?_;refine .z ?_;refine c22z ?_;refine .ca rfl rfl (S8 hf hl) ?_;refine .n ?_;refine .sb ?_;refine .c5 [0,2,6,7,8] ?_;refine c9z ?_;refine c28z ?_;refine .spl 28 rfl rfl (fun e1=>?_) (fun e1=>?_)
  ·try simp only[e1]
   have qe1:=fact e1;refine .m [(3,28)] ?_;refine uFbz ?_;intro e2 qe2;refine c4z ?_;refine c238z ?_;exact .ret (.ex (hf:=t2) (hq:=by rfl))
  try simp only[e1]
  have qe1:=fact e1;refine .m [(3,28)] ?_;refine c46z ?_;refine c238z ?_;exact .ret (.ex (hf:=t2) (hq:=by rfl))
theorem c_ex1 {e:Frm}(hl:s.l.length<1000000)(t:Int)(n:Int):CB 166 [.ptr e.k 0 0,.agg (s8 (.leaf 1 n ByteArray.empty)),.int .i64 t] (hT e (z8 e.k s) s.code s.sites) (.agg (s8 (fR s.l (.leaf 1 n ByteArray.empty)))):=by refine c258z ?_;refine c20z ?_;refine c19z ?_;refine .c5 [0,2,4,6,8] ?_;refine c148z ?_;refine .c5 [6,8] ?_;refine .z ?_;exact .ret (.ex (hf:=t2) (hq:=by rfl))
theorem c_ex2 {e:Frm}(hl:s.l.length<1000000)(t:Int)(n:Int)(hf:bP s.l x=some v)(hk:v.kind=1∨v.kind=4):CB 166 [.ptr e.k 0 0,.agg (s8 (.leaf 2 n x)),.int .i64 t] (hT e (z8 e.k s) s.code s.sites) (.agg (s8 (fR s.l (.leaf 2 n x)))):=by
  refine c258z ?_;refine .T ?_;refine c28z ?_;refine .ca rfl rfl (gA (c_var hl t hf hk)) ?_;refine c35z ?_;refine c238z ?_;refine u2z ?_ ?_
  ·intro e1 qe1;refine .z ?_;exact .ret (.ex (hf:=t2) (hq:=t206))
  intro e1 qe1;refine .sk ?_;refine .z ?_;exact .ret (.ex (hf:=t2) (hq:=t206))
theorem c_exU {e:Frm}(hl:s.l.length<1000000)(t:Int)(o:Int)(a:Ex)(ho:o≠2)(iha:∀e:Frm,CB 166 [.ptr e.k 0 0,.agg (s8 a),.int .i64 t] (hT e (z8 e.k s) s.code s.sites) (.agg (s8 (fR s.l a)))):CB 166 [.ptr e.k 0 0,.agg (s8 (.un o a)),.int .i64 t] (hT e (z8 e.k s) s.code s.sites) (.agg (s8 (fR s.l (.un o a)))):=by refine c258z ?_;refine uFbz ?_;intro e1 qe1;refine .sk ?_;refine c19z ?_;refine .c5 [0,2,4,6,8] ?_;refine c14z ?_;refine c220z ?_;refine c40z ?_;refine c33z ?_;refine c66z ?_;refine c167z ?_;refine .cn [true] [512,0] [_] rfl rfl (by simp only[kJ,and_true,List.cons_append,List.nil_append];exact gA (iha _)) ?_;refine c82z ?_;refine c104z ?_;refine c55z ?_;refine c265z ?_;refine .rz ?_;refine c44z ?_;refine .c5 [6,8,49] ?_;refine .z ?_;exact .ret (.ex (hf:=t2) (hq:=by rfl))
theorem c_exB {e:Frm}(hl:s.l.length<1000000)(t:Int)(o:Int)(a b:Ex)(ho:o≠2)(iha:∀e:Frm,CB 166 [.ptr e.k 0 0,.agg (s8 a),.int .i64 t] (hT e (z8 e.k s) s.code s.sites) (.agg (s8 (fR s.l a))))(ihb:∀e:Frm,CB 166 [.ptr e.k 0 0,.agg (s8 b),.int .i64 t] (hT e (z8 e.k s) s.code s.sites) (.agg (s8 (fR s.l b)))):CB 166 [.ptr e.k 0 0,.agg (s8 (.bin o a b)),.int .i64 t] (hT e (z8 e.k s) s.code s.sites) (.agg (s8 (fR s.l (.bin o a b)))):=by refine c258z ?_;refine uFbz ?_;intro e1 qe1;refine .sk ?_;refine c19z ?_;refine .c5 [0,2,4,6,8] ?_;refine c14z ?_;refine c149z ?_;refine c40z ?_;refine c33z ?_;refine c66z ?_;refine c167z ?_;refine .cn [true] [512,0] [_] rfl rfl (by simp only[kJ,and_true,List.cons_append,List.nil_append];exact gA (iha _)) ?_;refine c82z ?_;refine c104z ?_;refine c55z ?_;refine c265z ?_;refine .rz ?_;refine c79z ?_;refine .c5 [0,2,4,6,8,9] ?_;refine c40z ?_;refine c33z ?_;refine c66z ?_;refine c167z ?_;refine .cn [true] [512,0] [_] rfl rfl (by simp only[kJ,and_true,List.cons_append,List.nil_append];exact gA (ihb _)) ?_;refine c82z ?_;refine c104z ?_;refine c55z ?_;refine c265z ?_;refine .rz ?_;refine c44z ?_;refine .c5 [6,8,49] ?_;refine .z ?_;exact .ret (.ex (hf:=t2) (hq:=by rfl))
theorem My {s:Sco}(hl:s.l.length<1000000)(t:Int){vars:List BA}(hv:∀x∈vars,∃v,bP s.l x=some v∧(v.kind=1∨v.kind=4)):∀{d:Nat} {a:Ex},GE vars d a→∀e:Frm,CB 166 [.ptr e.k 0 0,.agg (s8 a),.int .i64 t] (hT e (z8 e.k s) s.code s.sites) (.agg (s8 (fR s.l a)))
  | d,.leaf o n x,hg,e=>by
    rcases jP.1 hg with ⟨rfl,_,_,rfl⟩ | ⟨rfl,_,h1⟩
    · exact c_ex1 hl t n
    · obtain ⟨v,h2,h3⟩:=hv x h1
      exact c_ex2 hl t n h2 h3
  | 0,.un o a,hg,e=>hg.elim
  | 0,.bin o a b,hg,e=>hg.elim
  | d+1,.un o a,hg,e=>c_exU hl t o a (by have:=hg.1;omega) (My hl t hv hg.2)
  | d+1,.bin o a b,hg,e=>c_exB hl t o a b (by have:=hg.1;omega) (My hl t hv hg.2.1) (My hl t hv hg.2.2)
theorem sz_0 {m:Int}(h:m=0):decide (m > 0)=false:=by simp;omega
theorem sz_1 {m:Int}(h:0<m):decide (m > 0)=true:=by simp;omega
theorem nB {l:List Fu}{i:Nat}(h:i<l.length):List.take 1 (List.drop (i*3+1) (n8 l))=[AV.vec (l.getD i j0).params.length (v9 (l.getD i j0).params)]:=DT eA 3 1 (fun _=>rfl) (by omega) j0 h
variable {y:BA}
theorem c_ref5 {e:Frm}(hl:s.l.length<1000000)(t:Int){n:Int}(hf:bP s.l x=some ⟨y,5,n⟩):CB 169 [.ptr e.k 0 0,.agg [.str x,.vec 0 []],.int .i64 t] (hT e (z8 e.k s) s.code s.sites) (.agg [.bool true,.int .i64 n,.vec 0 []]):=by refine .bz Tryz.f169 92 ?_;refine .z ?_;refine c26z ?_;refine c123z ?_;refine c249z ?_;refine c165z ?_;refine .sb ?_;refine c9z ?_;refine .c5 [0,2,4,6,7,9] ?_;refine .s ?_;refine .k 8 [(3,63)] ?_;refine .n ?_;refine .F ?_;refine c84z ?_;refine .k 8 [(3,31)] ?_;refine .k 8 [(3,31)] ?_;refine .n [] ?_;refine .c5 [0,2,4,6,9,10] ?_;refine c9z ?_;refine c4z ?_;refine c5z ?_;refine c61z ?_;refine c239z ?_;exact .ret (.ex (hf:=t2) (hq:=by rfl))
section
attribute [local go_sem] sz_0
theorem c_ref2 {e:Frm}(hl:s.l.length<1000000)(t:Int){n:Int}(hf:bP s.l x=some ⟨y,2,n⟩)(hn:0≤n∧n<s.p.mutexes.length)(hz:(s.p.mutexes.getD n.toNat w5).size=0):CB 169 [.ptr e.k 0 0,.agg [.str x,.vec 0 []],.int .i64 t] (hT e (z8 e.k s) s.code s.sites) (.agg [.bool false,.int .i64 n,.vec 0 []]):=by refine .bz Tryz.f169 92 ?_;refine .z ?_;refine c26z ?_;refine c123z ?_;refine c249z ?_;refine c165z ?_;refine .sb ?_;refine c9z ?_;refine .c5 [0,2,4,6,7,9] ?_;refine .s ?_;refine .k 8 [(3,63)] ?_;refine .n ?_;refine .F ?_;refine c84z ?_;refine .k 8 [(3,31)] ?_;refine .k 8 [(3,31)] ?_;refine .n [] ?_;refine .c5 [0,2,4,6,9,10] ?_;refine c9z ?_;refine c4z ?_;refine c5z ?_;refine c61z ?_;refine c239z ?_;exact .ret (.ex (hf:=t2) (hq:=by rfl))
end
section
attribute [local go_sem] sz_1
variable {vars:List BA}
theorem c_ref1 {e:Frm}(hl:s.l.length<1000000)(t:Int){n:Int}(hf:bP s.l x=some ⟨y,2,n⟩)(hn:0≤n∧n<s.p.mutexes.length)(hz:0<(s.p.mutexes.getD n.toNat w5).size)(hv:∀x∈vars,∃v,bP s.l x=some v∧(v.kind=1∨v.kind=4)){d:Nat}{a:Ex}(ha:GE vars d a):CB 169 [.ptr e.k 0 0,.agg [.str x,.vec 1 (s8 a)],.int .i64 t] (hT e (z8 e.k s) s.code s.sites) (.agg [.bool false,.int .i64 n,.vec 1 (s8 (fR s.l a))]):=by refine .bz Tryz.f169 92 ?_;refine .z ?_;refine c26z ?_;refine c123z ?_;refine c249z ?_;refine c165z ?_;refine .sb ?_;refine c9z ?_;refine .c5 [0,2,4,6,7,9] ?_;refine .s ?_;refine .k 8 [(3,63)] ?_;refine .n ?_;refine .F ?_;refine c84z ?_;refine .k 8 [(3,31)] ?_;refine .k 8 [(3,31)] ?_;refine .n [] ?_;refine .c5 [0,2,4,6,9,10] ?_;refine c9z ?_;refine c4z ?_;refine c5z ?_;refine c220z ?_;refine .c5 [0,2,4,6,9,11] ?_;refine c40z ?_;refine c33z ?_;refine c66z ?_;refine c167z ?_;refine .cn [true] [512,0] [_] rfl rfl (by simp only[kJ,and_true,List.cons_append,List.nil_append];exact gA (My hl t hv ha _)) ?_;refine c82z ?_;refine c104z ?_;refine c55z ?_;change c8 ..;refine .c5 [0,2,4,6,9,11] ?_;refine .rz ?_;refine c44z ?_;refine c239z ?_;exact .ret (.ex (hf:=t2) (hq:=by rfl))
end
variable {vars:List BA}
theorem c_refL {e:Frm}(hl:s.l.length<1000000)(t:Int){E:Env}{c:Ctx}(sc:SC E c vars s.l)(hE:E.mutexes=s.p.mutexes)(hc:c.nm=s.p.mutexes.length){r:Rf}(g:GR E vars r):CB 169 [.ptr e.k 0 0,.agg [.str r.name,.vec r.idx.length (n7 r.idx)],.int .i64 t] (hT e (z8 e.k s) s.code s.sites) (.agg (I8 (qY s.l r))):=by
  obtain ⟨x,idx⟩:=r;rcases g with ⟨m,hm,hn,⟨hz,a,hi,ha⟩ | ⟨hz,hi⟩⟩ | ⟨p,hp,hmu,hn,hi⟩
  · simp only at hn hi
    subst hn hi;obtain ⟨v,h1,h2,h3,h4,h5⟩:=sc.mx m hm;obtain ⟨y,k,n⟩:=v;simp only at h2 h3 h4 h5;subst h2;rw[hE]at h5;have:=c_ref1 (e:=e) hl t h1 ⟨h3,by omega⟩ (by rw[h5];exact hz) sc.var ha;simp only[qY,eG h1,I8,List.map_cons,List.map_nil,List.length_cons,List.length_nil,n7,List.flatMap_cons,List.flatMap_nil,List.append_nil];exact this
  · simp only at hn hi
    subst hn hi;obtain ⟨v,h1,h2,h3,h4,h5⟩:=sc.mx m hm;obtain ⟨y,k,n⟩:=v;simp only at h2 h3 h4 h5;subst h2;rw[hE]at h5;have:=c_ref2 (e:=e) hl t h1 ⟨h3,by omega⟩ (by rw[h5];exact hz);simp only[qY,eG h1];exact this
  · simp only at hn hi
    subst hn hi;obtain ⟨v,h1,h2,h3,h4⟩:=sc.pm p hp hmu;obtain ⟨y,k,n⟩:=v;simp only at h2 h3 h4;subst h2;have:=c_ref5 (e:=e) hl t h1;simp only[qY,eG h1];exact this
end Go.Proofs.YtonbocmibeikmaaGreat
end
