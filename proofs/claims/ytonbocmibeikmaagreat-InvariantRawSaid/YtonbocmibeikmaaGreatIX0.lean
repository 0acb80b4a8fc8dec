/- My own texts, put together by a program of mine. -/
import Derived.WalkKit
import Derived.Orders
import Derived.Below
import Derived.Laws.StructEq
import Derived.Laws.Strings
import Derived.Laws.IdiomStrings
import Derived.Laws.Append
import Derived.Laws.MakeOwn
import Derived.Laws.BytesString
import Derived.Deep.LoopGhost
import Derived.Lib.AppendZeros
import Derived.KernelRfl
set_option linter.unusedSimpArgs false
set_option linter.unusedVariables false
set_option maxRecDepth 100000
set_option maxHeartbeats 4000000
namespace Go
section
variable {p q:Prop}
theorem t0 (h:p:=by simp (maxSteps:=2000000) (disch:=omega) only [go_sem,Nat.reduceBEq,Nat.reduceAdd,Nat.reduceSub,Nat.reduceLeDiff,Nat.reduceMul,reduceIte,reduceCtorEq,Int.reduceNeg,Int.reduceToNat,Nat.reduceLT,Int.reduceLE,Int.reduceLT,Int.reduceAdd,Int.reduceSub,Int.reduceMul,F.Nh,F.Ni,F.len,F.Nj,F.Nl,F.eY,F.put0,wrap64,tD,RK,RL,o7,iF,T8,AQ,M7,T7,AR,D0,max2,show (((d+1:Nat):Int)-1)=(d:Int) from by omega,show ((2:Int)=0)=False from by simp,if_pos,if_neg];rfl):p:=h
theorem t1 (h:p:=by repeat' (first | refine ⟨?_,?_⟩ | exact trivial | exact .any | exact .int _ _ | exact .bool _ | exact .str _ | exact .vec _ _ | exact .j4 | exact .own _ _ _ _ (by simp only[List.length_append,dG,List.length_cons,List.length_nil];have:=e.n_ge;omega) | exact .ptr _ _ _ (by simp only[List.length_append,dG,List.length_cons,List.length_nil];have:=e.n_ge;omega))):p:=h
theorem t2 (h:p:=by first | rfl | (simp only[List.append_assoc,List.cons_append,List.nil_append,uB,lZ,dW,vY,B6,vZ,qN,B7,uC,eN,wB,B8,qO,uD,qP,oE,oF,o6,bF,fG,E7,Nat.lt_irrefl,if_false,reduceIte,List.getElem?_cons_succ,List.getElem?_cons_zero,Nat.not_lt,Nat.le_add_right,Nat.le_refl,and_self,if_true,Bool.false_eq_true,Nat.zero_add,Nat.one_mul,Nat.mul_one,List.drop_zero,o7,T8,iF,IQ,EJ,IP,Nat.reduceMul,Option.map_some,List.length_append,List.length_cons,List.length_nil];rfl)):p:=h
theorem t3 (h:p:=by first | exact .any | exact .int _ _ | exact .bool _ | exact .str _ | exact .vec _ _ | exact .j4 | exact .own _ _ _ _ (by simp) | exact .ptr _ _ _ (by simp)):p:=h
theorem t4 (h:p:=by simp (maxSteps:=2000000) (disch:=omega) only [go_sem,Nat.reduceBEq,Nat.reduceAdd,Nat.reduceSub,Nat.reduceLeDiff,Nat.reduceMul,reduceIte,reduceCtorEq,Int.reduceNeg,Int.reduceToNat,Nat.reduceLT,Int.reduceLE,Int.reduceLT,Int.reduceAdd,Int.reduceSub,Int.reduceMul,F.Nh,F.Ni,F.len,F.Nj,F.Nl,F.eY,F.put0,wrap64,tD,RK,RL,o7,iF,T8,AQ,M7,T7,AR,D0,max2,if_pos,if_neg];rfl):p:=h
theorem t5 (h:p:=by (first | (refine congrArg AV.bool (tS ⟨⟨hW0,hODD⟩,fun p hp=>hI p (by omega)⟩).symm) | (refine congrArg AV.bool (nY fun hh=>?_).symm;exact absurd ((hh.2 pc (by omega)).2 _ (show (o3 ((c8 u (itI c i)).getD pc g0) pc).getD k 0∈nxI u c i pc from j0 (d:=0) (by omega))) (by assumption)) | (refine congrArg AV.bool (nY fun hh=>?_).symm;exact absurd (hz.2 (hh.2 pc (by omega)).1) (by assumption)) | (refine congrArg AV.bool (nY fun hh=>?_).symm;exact absurd hh.1.1 (by assumption)) | (refine congrArg AV.bool (nY fun hh=>?_).symm;have h2:=hh.1.2 (by assumption);have h3:=hmu.1 (by assumption);omega))):p:=h
theorem t6 (h:p:=by first | exact .inl rfl | exact .inr ⟨rfl,rfl⟩):p:=h
theorem t7 (h:p:=by repeat' (first | refine ⟨?_,?_⟩ | exact trivial | rfl | (refine congrArg (AV.int _) ?_;omega) | (rw[hlo]) | (rw[hvl2]) | (simp only[hlo];omega) | exact (by rw[List.length_append,dG];rfl) | (refine congrArg (AV.own _ _ _) ?_;simp;done) | (refine congrArg (AV.own _ _ _) ?_;simp;omega))):p:=h
theorem t8 (h:p:=by repeat' (first | refine ⟨?_,?_⟩ | exact trivial | rfl | (refine congrArg (AV.int _) ?_;omega) | exact (congrArg (fun k=>AV.own k 0 0 0) (by simp)) | (refine congrArg (AV.own _ _ _) ?_;simp;done) | (refine congrArg (AV.own _ _ _) ?_;simp;omega))):p:=h
theorem t9 (h:p:=by first | rfl | (simp only[uB,lZ,dW,vY,B6,vZ,qN,B7,uC,eN,wB,B8,qO,uD,qP,oE,oF,o6,dG,gP,E5,Nat.lt_irrefl,if_false,reduceIte,List.getElem?_cons_succ,List.getElem?_cons_zero,Nat.not_lt,Nat.le_add_right,Nat.le_refl,and_self,if_true,Bool.false_eq_true,Nat.zero_add,Nat.one_mul,Nat.mul_one,List.drop_zero,o7,T8,iF,IQ,EJ,IP,frz_E,frz_A,Nat.reduceMul,Option.map_some];rfl)):p:=h
theorem t10 (h:p:=by first | rfl | (simp only[uB,lZ,dW,vY,B6,vZ,qN,B7,uC,eN,wB,B8,qO,uD,qP,oE,oF,o6,F.len,F.Nj,F.Nl,Nat.lt_irrefl,if_false,reduceIte,List.getElem?_cons_succ,List.getElem?_cons_zero,Nat.not_lt,Nat.le_add_right,Nat.le_refl,and_self,if_true,Bool.false_eq_true,Nat.zero_add,Nat.one_mul,Nat.mul_one,List.drop_zero,o7,T8,iF,IQ,EJ,IP,Nat.reduceMul];rfl)):p:=h
theorem t11 (h:p:=by repeat' (first | refine ⟨?_,?_⟩ | exact trivial | rfl | (refine congrArg (AV.int _) ?_;omega) | exact congrArg (AV.int .i64) SP | (refine congrArg (AV.own _ _ _) ?_;simp;done) | (refine congrArg (AV.own _ _ _) ?_;simp;omega))):p:=h
theorem t12 (h:p:=by simp (maxSteps:=2000000) (disch:=omega) only [go_sem,simprocAttr,if_pos,if_neg,hb1,hb2];rfl):p:=h
theorem t13 (h:p:=by simp only[PW,GK];first | (simp (maxSteps:=2000000) (disch:=omega) only [go_sem,simprocAttr,if_pos,if_neg]) | skip;repeat (first | trivial | refine ⟨?_,?_⟩)):p:=h
theorem t14 (h:p:=by simp (maxSteps:=2000000) (disch:=omega) only [go_sem,Nat.reduceBEq,Nat.reduceAdd,Nat.reduceSub,Nat.reduceLeDiff,Nat.reduceMul,reduceIte,reduceCtorEq,Int.reduceNeg,Int.reduceToNat,Nat.reduceLT,Int.reduceLE,Int.reduceLT,Int.reduceAdd,Int.reduceSub,Int.reduceMul,sT,if_false,show ((10:Int)=0)=False from by simp,if_pos,if_neg];rfl):p:=h
theorem t15 (h:p:=by simp (maxSteps:=2000000) (disch:=omega) only [go_sem,Nat.reduceBEq,Nat.reduceAdd,Nat.reduceSub,Nat.reduceLeDiff,Nat.reduceMul,reduceIte,reduceCtorEq,Int.reduceNeg,Int.reduceToNat,Nat.reduceLT,Int.reduceLE,Int.reduceLT,Int.reduceAdd,Int.reduceSub,Int.reduceMul,XM,XN,IZ,kH,rd,XO,JA,show ((10:Int)=0)=False from by simp,show (⟨#[dig m0]⟩:BA)=⟨[dig m0].toArray⟩ from rfl,sT,if_pos,if_neg];rfl):p:=h
theorem t16 (h:p:=by (first | exact congrArg (AV.int .i64) (chI_1 (by omega) (by omega)).symm | exact congrArg (AV.int .i64) (chI_2 (by omega) (by omega)).symm | exact congrArg (AV.int .i64) (chI_0 (by omega) (by omega)).symm)):p:=h
theorem t17 (h:p:=by first | exact (List.append_nil _).symm | (simp only[List.append_assoc,List.cons_append,List.nil_append];rfl)):p:=h
theorem t18 (h:p:=by simp only[HS,yD,lE,mX];first | rfl | (simp (maxSteps:=2000000) (disch:=omega) only [go_sem,Nat.reduceBEq,Nat.reduceAdd,Nat.reduceSub,Nat.reduceLeDiff,Nat.reduceMul,reduceIte,reduceCtorEq,Int.reduceNeg,Int.reduceToNat,Nat.reduceLT,Int.reduceLE,Int.reduceLT,Int.reduceAdd,Int.reduceSub,Int.reduceMul,F.Nh,F.Ni,F.len,F.Nj,F.Nl,F.eY,F.put0,wrap64,tD,RK,RL,o7,iF,T8,AQ,M7,T7,AR,D0,max2,show (((d+1:Nat):Int)-1)=(d:Int) from by omega,show ((2:Int)=0)=False from by simp,if_pos,if_neg];rfl)):p:=h
theorem t19 (h:p:=by (first | (refine congrArg AV.bool (tS ⟨by omega,G6.1 (fun p hp=>hJ p (by omega))⟩).symm) | (refine congrArg AV.bool (nY fun hh=>?_).symm;have h1:=hh.1;omega) | (refine congrArg AV.bool (nY fun hh=>?_).symm;have h1:=(hh.2 _ (j0 (d:=[]) (show j<T.length by omega))).1;omega) | (refine congrArg AV.bool (nY fun hh=>?_).symm;have h1:=(hh.2 _ (j0 (d:=[]) (show j<T.length by omega))).2 _ (j0 (d:=0) (show d<(T.getD j []).length by omega));have h2:=h1.1;have h3:=h1.2;omega))):p:=h
theorem t20 (h:p:=by simp (maxSteps:=2000000) (disch:=omega) only [go_sem,Nat.reduceBEq,Nat.reduceAdd,Nat.reduceSub,Nat.reduceLeDiff,Nat.reduceMul,reduceIte,reduceCtorEq,Int.reduceNeg,Int.reduceToNat,Nat.reduceLT,Int.reduceLE,Int.reduceLT,Int.reduceAdd,Int.reduceSub,Int.reduceMul,show (0-(n+1)) = -(n+1) from by omega,show (⟨#[45]⟩:BA).size=1 from rfl,if_pos,if_neg];rfl):p:=h
theorem t21 (h:p:=by repeat' (first | refine ⟨?_,?_⟩ | exact trivial | exact .any | exact .int _ _ | exact .bool _ | exact .str _ | exact .vec _ _ | exact .j4 | exact .own _ _ _ _ (by simp only[List.length_append,bF,List.length_cons,List.length_nil];have:=e.lt;omega) | exact .ptr _ _ _ (by simp only[List.length_append,bF,List.length_cons,List.length_nil];have:=e.lt;omega))):p:=h
theorem t22 (h:p:=by first | (rw[eP,if_pos (by omega)];unfold wO;rw[if_pos (by omega)];exact ⟨rfl,rfl⟩) | (rw[eP,if_pos (by omega)];unfold wO;rw[if_neg (by omega),if_pos (by omega)];exact ⟨rfl,rfl⟩) | (rw[eP,if_pos (by omega)];unfold wO;rw[if_neg (by omega),if_neg (by omega)];exact ⟨rfl,rfl⟩) | (rw[eP,if_neg (by omega),if_pos (by omega)];exact ⟨rfl,rfl⟩) | (rw[eP,if_neg (by omega),if_neg (by omega)];exact ⟨rfl,rfl⟩)):p:=h
theorem t23 (h:p:=by simp (maxSteps:=2000000) (disch:=omega) only [go_sem,Nat.reduceBEq,Nat.reduceAdd,Nat.reduceSub,Nat.reduceLeDiff,Nat.reduceMul,reduceIte,reduceCtorEq,Int.reduceNeg,Int.reduceToNat,Nat.reduceLT,Int.reduceLE,Int.reduceLT,Int.reduceAdd,Int.reduceSub,Int.reduceMul,F.get,F.set,F.len];rfl):p:=h
theorem t24 (h:p:=by repeat' (first | refine ⟨?_,?_⟩ | exact trivial | rfl | (refine congrArg (AV.int _) ?_;omega) | exact congrArg AV.str (TM (by assumption) (by omega)) | exact congrArg AV.str (TN (by assumption) (by omega)) | exact congrArg AV.str (TO (by assumption) (by omega)) | exact congrArg AV.str (TP (by assumption) (by omega)) | (refine congrArg (AV.own _ _ _) ?_;simp;done) | (refine congrArg (AV.own _ _ _) ?_;simp;omega))):p:=h
theorem t25 (h:p:=by (first | (refine congrArg AV.bool (nY fun hh=>?_).symm;have h1:=hh.1.1;have h2:=hh.1.2;simp_all;done) | (refine congrArg AV.bool (nY (clo_f (show j<r9 u c i by omega) fun hh=>?_)).symm;have h1:=tS hh;simp_all;done) | (refine congrArg AV.bool (tS ⟨⟨?_,?_⟩,fun p hp=>hI p (by omega)⟩).symm<;>simp_all<;>omega))):p:=h
theorem t26 (h:p:=by exact E6 ⟨.inl rfl,(by first | exact .inl rfl | exact .inr XR),.inr (by rw[o9];exact YU _),trivial⟩):p:=h
theorem t27 (h:p:=by repeat' (first | exact trivial | exact pV.refl _ | exact .inl rfl | exact .inr ⟨rfl,rfl⟩ | refine ⟨?_,?_⟩ | refine pV.app (pV.refl _) ?_)):p:=h
theorem t28 (h:p:=by simp only[kept,List.replicate,List.append_assoc,List.cons_append,List.nil_append];rfl):p:=h
theorem t29 (h:p:=by repeat' (first | refine ⟨?_,?_⟩ | exact trivial | rfl | (refine congrArg (AV.int _) ?_;omega) | (rw[O7];simp[bH]) | (rw[BX hT (by omega) (by omega)]) | (rw[LQ (by omega)]) | (refine congrArg (AV.own _ _ _) ?_;simp;done) | (refine congrArg (AV.own _ _ _) ?_;simp;omega))):p:=h
theorem t30 (h:p:=by (refine congrArg (AV.int .i64) ?_;rw[sgn];first | (rw[if_pos ⟨by omega,by simp_all⟩];rfl) | (rw[if_neg (fun h=>by omega),if_pos (by simp_all)];rfl) | (rw[if_neg (fun h=>by omega),if_neg (by simp_all)];rfl) | (rw[if_neg (fun h=>by simp_all),if_pos (by simp_all)];rfl) | (rw[if_neg (fun h=>by simp_all),if_neg (by simp_all)];rfl))):p:=h
theorem t31 (h:p:=by simp only[List.length_append,dG,List.length_cons,List.length_nil];omega):p:=h
theorem t32 (h:p:=by repeat' (first | refine ⟨?_,?_⟩ | exact trivial | rfl | (refine congrArg (AV.int _) ?_;omega) | exact congrArg AV.str (SE (by assumption) (by omega)) | exact congrArg AV.str (SF (by assumption) (by omega)) | exact congrArg AV.str (SG (by assumption) (by omega)) | exact congrArg AV.str (SH (by assumption) (by omega)))):p:=h
theorem t33 (h:p:=by repeat' (first | refine ⟨?_,?_⟩ | exact trivial | rfl | (refine congrArg (AV.int _) ?_;omega) | exact congrArg AV.str (TQ (by assumption) (by omega)) | exact congrArg AV.str (TR (by assumption) (by omega)) | exact congrArg AV.str (TS (by assumption) (by omega)) | exact congrArg AV.str (TU (by assumption) (by omega)))):p:=h
theorem t34 (h:p:=by repeat' (first | exact trivial | exact .int _ _ | exact .bool _ | exact .vec _ _ | exact .own _ _ _ _ (by simp) | exact .ptr _ _ _ (by simp) | refine ⟨?_,?_⟩)):p:=h
theorem t35 (h:p:=by exact hT_same ⟨.inl rfl,.inl rfl,.inr (iW.get ⟨.int _ _,.int _ _,.bool _,.int _ _,.int _ _,.str _,.j4,.bool _,.int _ _,.j4,.own _ _ _ _ (by simp only[List.length_cons,List.length_nil];omega),.own _ _ _ _ (by simp only[List.length_cons,List.length_nil];omega),trivial⟩),.inl rfl,.inr (by rw[o9];exact (Ck _).refs _),.inr (by rw[o9];exact (JV _).refs _),trivial⟩):p:=h
theorem t36 (h:p:=by rw[v9];rfl):p:=h
theorem t37 (h:p:=by exact (aI.refl _).app rfl ⟨.inl rfl,.inl rfl,.inr ((UI _).refs _),.inl rfl,.inr (iW.get ⟨.own _ _ _ _ (by simp),.own _ _ _ _ (by simp),.vec _ _,trivial⟩),.inr (by rw[o9];exact (UH _).refs _),.inr ((yJ _).refs _),trivial⟩):p:=h
theorem t38 (h:p:=by first | rfl | (simp (disch:=omega) only [simprocAttr,if_pos,List.append_assoc,List.cons_append,List.nil_append,lZ,dW,qN,o6,v9,jI,oF,Nat.lt_irrefl,if_false,eN,Nat.le_refl,Nat.le_add_right];rfl)):p:=h
theorem t39 (h:p:=by simp only[HS,yD,lE,mX];first | rfl | (simp (maxSteps:=2000000) (disch:=omega) only [go_sem,Nat.reduceBEq,Nat.reduceAdd,Nat.reduceSub,Nat.reduceLeDiff,Nat.reduceMul,reduceIte,reduceCtorEq,Int.reduceNeg,Int.reduceToNat,Nat.reduceLT,Int.reduceLE,Int.reduceLT,Int.reduceAdd,Int.reduceSub,Int.reduceMul,F.Nh,F.Ni,F.len,F.Nj,F.Nl,F.eY,F.put0,wrap64,tD,RK,RL,o7,iF,T8,AQ,M7,T7,AR,D0,max2,if_pos,if_neg];rfl)):p:=h
theorem t40 (h:p:=by repeat' (first | refine ⟨?_,?_⟩ | exact trivial | rfl | (refine congrArg (AV.int _) ?_;omega) | exact (by rw[List.length_append,dG];rfl) | (refine congrArg (AV.own _ _ _) ?_;simp;done) | (refine congrArg (AV.own _ _ _) ?_;simp;omega))):p:=h
theorem t41 (h:p:=by (simp only[List.append_assoc,List.cons_append,List.nil_append,List.length_append,List.length_cons,List.length_nil];rfl)):p:=h
theorem t42 (h:p:=by first | rfl | rfl):p:=h
theorem t43 (h:p:=by (first | exact Nat.le_refl _ | (simp only[F.len];first | done | exact Nat.le_refl _))):p:=h
theorem t44 (h:p:=by (simp only[List.append_assoc,List.cons_append,List.nil_append];rfl)):p:=h
theorem t45 (h:p:=by (obtain ⟨hq1,hq2⟩:=MY (m:=mx) hL (show i<c.insts.length by omega) hI (fun hh=>by first | (have h1:dcd ((t.getD i []).length=r9 u c i∧∀r∈(t.getD i []),tT u mx r)=true:=tS ⟨hh.1,hh.2.1⟩;have h2:dcd ((t.getD i []).length=r9 u c i∧∀r∈(t.getD i []),tT u mx r)=false:=(by assumption);rw[h1]at h2;cases h2) | (have h1:=hh.2.2.1;have h2:=hh.2.2.2;omega));rw[hq1,hq2])):p:=h
theorem t46 (h:p:=by (first | (refine congrArg AV.bool ?_;rw[Bool.eq_iff_iff];simp[isL,isD];omega) | (refine congrArg AV.bool ?_;rw[Bool.eq_iff_iff];simp[isL]))):p:=h
theorem t47 (h:p:=by exact (aI.refl _).app rfl ⟨.inl rfl,.inl rfl,.inr ((CC _).refs _),.inl rfl,trivial⟩):p:=h
theorem t48 (h:p:=by (first | (refine congrArg AV.bool (nY fun hh=>?_).symm;have h1:=hz.2 hh.1;simp_all) | (refine congrArg AV.bool ?_;have hC:AtC u c L E i pc:=(by first | exact MT (by rw[hop];omega) | exact hz.1 (by simp_all));rw[Bool.eq_iff_iff,Bool.not_eq_true',lD,←Bool.not_eq_true,lD];exact ((not_congr atN_ix).trans Classical.not_not).trans ⟨fun h=>⟨hC,h⟩,fun h=>h.2⟩))):p:=h
theorem t49 (h:p:=by repeat' (first | refine ⟨?_,?_⟩ | exact trivial | rfl | (refine congrArg (AV.int _) ?_;omega) | (rw[YE (by assumption)]) | (rw[YF (by assumption)]))):p:=h
theorem t50 (h:p:=by first | omega | (simp only[gC,cP,pN];omega)):p:=h
theorem t51 (h:p:=by (rw[mB,lR];simp only[List.append_assoc,List.cons_append,List.nil_append];rfl)):p:=h
theorem t52 (h:p:=by first | omega | (simp only[iQ,dB,lM];omega)):p:=h
theorem t53 (h:p:=by simp (maxSteps:=2000000) (disch:=omega) only [go_sem,Nat.reduceBEq,Nat.reduceAdd,Nat.reduceSub,Nat.reduceLeDiff,Nat.reduceMul,reduceIte,reduceCtorEq,Int.reduceNeg,Int.reduceToNat,Nat.reduceLT,Int.reduceLE,Int.reduceLT,Int.reduceAdd,Int.reduceSub,Int.reduceMul,F.get,F.set,F.len,wrap64,yZ,Int.add_sub_cancel,if_pos,if_neg];rfl):p:=h
theorem t54 (h:p:=by repeat' (first | refine ⟨?_,?_⟩ | exact trivial | rfl | (refine congrArg (AV.int _) ?_;omega) | simp | exact (by simp) | (refine congrArg (AV.own _ _ _) ?_;simp;done) | (refine congrArg (AV.own _ _ _) ?_;simp;omega))):p:=h
theorem t55 (h:p:=by repeat' (first | refine ⟨?_,?_⟩ | exact trivial | rfl | (refine congrArg (AV.int _) ?_;omega) | simp | (refine congrArg (AV.own _ _ _) ?_;simp;done) | (refine congrArg (AV.own _ _ _) ?_;simp;omega))):p:=h
theorem t56 (h:p:=by repeat' (first | refine ⟨?_,?_⟩ | exact trivial | rfl | (refine congrArg (AV.int _) ?_;omega) | (rw[hnl]) | (rw[List.length_append,show eA ((fs2.getD s j7).params.take 0)=[] from rfl];simp) | (refine congrArg (AV.own _ _ _) ?_;simp;done) | (refine congrArg (AV.own _ _ _) ?_;simp;omega))):p:=h
theorem t57 (h:p:=by exact aI.of ⟨.inl rfl,.inl rfl,.inl rfl,.inl rfl,.inr rO,.inr (iW.get t34),.inl rfl,.inl rfl,.inr (by rw[o9];exact z7.refs (NO _) _),.inl rfl,trivial⟩):p:=h
theorem t58 (h:p:=by exact (aI.refl _).app rfl ⟨.inl rfl,.inl rfl,.inl rfl,.inr ((plnT _).refs _),trivial⟩):p:=h
theorem t59 (h:p:=by exact aI.of ⟨.inr (by rw[o9];exact z7.refs (mI hpl qW) _),trivial⟩):p:=h
theorem t60 (h:p:=by (first | exact congrArg AV.bool (decide_eq_false (fun e=>by have:=congrArg List.length e;omega)).symm | exact congrArg AV.bool (decide_eq_false (ne_at (by omega))).symm | exact congrArg AV.bool (decide_eq_true (eq_all (by omega) (fun d hd=>hI d (by omega)))).symm)):p:=h
theorem t61 (h:p:=by (first | (refine congrArg AV.bool (nY fun hh=>?_).symm;have h1:=hh.1;omega) | (refine congrArg AV.bool (nY fun hh=>?_).symm;have h1:=tS hh.2.2;simp_all;done) | (refine congrArg AV.bool ?_;exact shp_all (by omega) (lD.1 (by simp_all;done))))):p:=h
theorem t62 (h:p:=by repeat' (first | refine ⟨?_,?_⟩ | exact trivial | rfl | (refine congrArg (AV.int _) ?_;omega) | (rw[JS,List.length_map];first | done | rfl) | (rw[hxs]) | (refine congrArg (AV.own _ _ _) ?_;simp;done) | (refine congrArg (AV.own _ _ _) ?_;simp;omega))):p:=h
theorem t63 (h:p:=by first | (rw[eP];unfold wO;rw[if_pos (by omega)];exact ⟨rfl,rfl⟩) | (rw[eP];unfold wO;rw[if_neg (by omega),if_pos (by omega)];exact ⟨rfl,rfl⟩) | (rw[eP];unfold wO;rw[if_neg (by omega),if_neg (by omega)];exact ⟨rfl,rfl⟩)):p:=h
theorem t64 (h:p:=by repeat' (first | refine ⟨?_,?_⟩ | exact trivial | rfl | (refine congrArg (AV.int _) ?_;omega) | exact congrArg AV.str (txtGl_0 (by simpa using (by assumption:(p.globals.getD i mU).init=0))) | exact congrArg AV.str (txtGl_1 (by assumption)))):p:=h
theorem t65 (h:p:=by simp;omega):p:=h
theorem t66 (h:p:=by simp[Op.operands]):p:=h
theorem t67 (h:p:=by (first | (rw[ixB_at hI (by omega) (by assumption)]) | (rw[YN (fun d hd=>hI d (by omega))]))):p:=h
theorem t68 (h:p:=by (refine congrArg (AV.int .i64) ?_;simp only[hgt,mx];simp_all;try ((repeat' split)<;>omega))):p:=h
theorem t69 (h:p:=by (first | (rw[show chI it ((c8 u it).getD pc g0) (m:Int)=1 from by omega]) | (rw[show chI it ((c8 u it).getD pc g0) (m:Int) = -1 from by omega]) | (rw[show chI it ((c8 u it).getD pc g0) (m:Int)=0 from by omega]))):p:=h
theorem t70 (h:p:=by (first | exact (YB (by omega)).symm | exact (YC (by omega)).symm | exact (LJ (by omega)).symm | exact (YD (by omega) (by omega) (by omega)).symm)):p:=h
theorem t71 (h:p:=by (first | exact (KZ (by omega)).symm | exact (LA (by omega)).symm | exact LL (by omega) | exact (LC (by omega) (by omega) (by omega)).symm)):p:=h
theorem t72 (h:p:=by simp only[gP];rfl):p:=h
theorem t73 (h:p:=by simp only[WS,yD,lE,mX];first | rfl | (simp (maxSteps:=2000000) (disch:=omega) only [go_sem,Nat.reduceBEq,Nat.reduceAdd,Nat.reduceSub,Nat.reduceLeDiff,Nat.reduceMul,reduceIte,reduceCtorEq,Int.reduceNeg,Int.reduceToNat,Nat.reduceLT,Int.reduceLE,Int.reduceLT,Int.reduceAdd,Int.reduceSub,Int.reduceMul,show (0-(n+1)) = -(n+1) from by omega,show (⟨#[45]⟩:BA).size=1 from rfl,if_pos,if_neg];rfl)):p:=h
theorem t74 (h:p:=by simp only[sY,and_true,List.cons_append,List.nil_append];exact ⟨eB.u9 rfl rfl rfl rfl xZ (dD (L:=K) I4 3 hI4 hK (by omega) (by omega)) rfl,eB.u9 rfl rfl rfl rfl xZ (dD (L:=K) I4 3 hI4 hK (by omega) (by omega)) rfl,eB.u9 rfl rfl rfl rfl xZ (dD (L:=K) I4 3 hI4 hK (by omega) (by omega)) rfl,eB.u9 rfl rfl rfl rfl xZ (dD (L:=K) I4 3 hI4 hK (by omega) (by omega)) rfl⟩):p:=h
theorem t75 (h:p:=by simp +decide (maxSteps:=2000000) (disch:=omega) only [go_sem,Nat.reduceBEq,Nat.reduceAdd,Nat.reduceSub,Nat.reduceLeDiff,Nat.reduceMul,reduceIte,reduceCtorEq,Int.reduceNeg,Int.reduceToNat,Nat.reduceLT,Int.reduceLE,Int.reduceLT,Int.reduceAdd,Int.reduceSub,Int.reduceMul,wrap64 (mF hn hm).1 (mF hn hm).2,show n≠0 from by omega,show (n=0)=False from by simp;omega];rfl):p:=h
theorem t76 (h:p:=by (first | rfl | (rw[MN];simp only[List.append_assoc,List.cons_append,List.nil_append];rfl))):p:=h
theorem t77 (h:p:=by repeat' (first | refine ⟨?_,?_⟩ | exact trivial | rfl | (refine congrArg (AV.int _) ?_;omega) | (rw[O7];simp[bH]) | (rw[BX hT (by omega) (by omega)]) | (rw[LQ (by omega)]))):p:=h
theorem t78 (h:p:=by intro d hd;omega):p:=h
theorem t79 (h:p:=by (simp only[dG];exact Nat.le_refl _)):p:=h
theorem t80 (h:p:=by (obtain ⟨hq1,hq2⟩:=raw_len (u:=u) (m:=mx) (fun hh:Lng c t e=>by have:=hh.1;have:=hh.2;omega);rw[hq1,hq2])):p:=h
theorem t81 (h:p:=by (simp only[hasD];first | (rw[decide_eq_true (show 0≤d∧d≤8 from by omega),Bool.true_and]) | (rw[decide_eq_false (show ¬(0≤d∧d≤8) from by omega),Bool.false_and]))):p:=h
theorem t82 (h:p:=by (rw[mB,mB,mB,lR,lR];simp only[List.append_assoc,List.cons_append,List.nil_append];rfl)):p:=h
theorem t83 (h:p:=by first | (rw[idx_pos (by assumption) (by omega)];exact ⟨rfl,rfl⟩) | (rw[idx_neg (by assumption) (by omega)];exact ⟨rfl,rfl⟩) | (rw[idx_no (by assumption)];exact ⟨rfl,rfl⟩)):p:=h
theorem t84 (h:p:=by exact (aI.refl _).app rfl ⟨.inl rfl,.inl rfl,.inl rfl,.inr ((sJ _).refs _),.inr (iW.get ⟨.vec _ _,.vec _ _,.vec _ _,.own _ _ _ _ (by simp),.int _ _,.int _ _,.int _ _,.int _ _,.own _ _ _ _ (by simp),.own _ _ _ _ (by simp),trivial⟩),.inl rfl,.inl rfl,.inr (iW.get ⟨.str _,.int _ _,.int _ _,.int _ _,.j4,trivial⟩),trivial⟩):p:=h
theorem t85 (h:p:=by (refine congrArg AV.bool ?_;rw[Bool.eq_iff_iff];simp only[nA,Bool.or_eq_true,Bool.and_eq_true,decide_eq_true_eq,beq_iff_eq,reduceCtorEq,true_iff,false_iff,eq_self];omega)):p:=h
theorem t86 (h:p:=by simp (maxSteps:=2000000) (disch:=omega) only [go_sem,Nat.reduceBEq,Nat.reduceAdd,Nat.reduceSub,Nat.reduceLeDiff,Nat.reduceMul,reduceIte,reduceCtorEq,Int.reduceNeg,Int.reduceToNat,Nat.reduceLT,Int.reduceLE,Int.reduceLT,Int.reduceAdd,Int.reduceSub,Int.reduceMul,F.get,F.set,F.len,wrap64,yZ,Int.add_sub_cancel,if_pos,if_neg,M8];rfl):p:=h
theorem t87 (h:p:=by (first | exact congrArg AV.bool (decide_eq_true (ext_T (by omega) (fun d hd=>hI d (by omega)))).symm | exact congrArg AV.bool (decide_eq_false (fun f=>by subst f;simp_all)).symm)):p:=h
theorem t88 (h:p:=by exact aI.of ⟨.inl rfl,.inl rfl,.inl rfl,.inl rfl,.inr rO,.inr (iW.get t34),.inr (by rw[o9];exact z7.refs (YV _) _),.inl rfl,.inl rfl,trivial⟩):p:=h
theorem t89 (h:p:=by simp only[WT,yD,lE,mX];first | rfl | (simp (maxSteps:=2000000) (disch:=omega) only [go_sem,Nat.reduceBEq,Nat.reduceAdd,Nat.reduceSub,Nat.reduceLeDiff,Nat.reduceMul,reduceIte,reduceCtorEq,Int.reduceNeg,Int.reduceToNat,Nat.reduceLT,Int.reduceLE,Int.reduceLT,Int.reduceAdd,Int.reduceSub,Int.reduceMul,F.get,F.set,F.len];rfl)):p:=h
theorem t90 (h:p:=by (first | (rw[←hk,XH (by omega)]) | (rw[←hk,IX (nosp_of (by omega) (by omega) (by omega) (by omega))]))):p:=h
theorem t91 (h:p:=by (rw[xQ];simp only[List.append_assoc,List.cons_append,List.nil_append];rfl)):p:=h
theorem t92 (h:p:=by (first | (refine congrArg AV.bool (decide_eq_true ?_).symm;have h2:X.getD i 0=v:=(by first | omega | simp_all);rw[←h2];exact j0 (by omega)) | (refine congrArg AV.bool (decide_eq_false fun hh=>?_).symm;obtain ⟨j,hj,hh2⟩:=List.getElem_of_mem hh;exact hI j (by omega) (by simp[List.getD,hj,hh2])))):p:=h
theorem t93 (h:p:=by simp only[List.length_append,hz];simp;omega):p:=h
theorem t94 (h:p:=by rw[hH];exact hRw.look (h:=[⟨0,false,27,3,[.vec p.globals.length (u0 p.globals),.vec p.c4.length (g6 p.c4),.vec p.funcs.length (o8 p.funcs)],0⟩,bU u,bC c,bU u,bC c,⟨c.insts.length,false,32,1,(s9 (dM u c mx c.insts.length)).set i0 (.own 9 0 0 (r9 u c i0)),0⟩]) hj):p:=h
theorem t95 (h:p:=by simp (maxSteps:=2000000) (disch:=omega) only [go_sem,simprocAttr,if_pos,if_neg,g5,g9,hrk];rfl):p:=h
theorem t96 (h:p:=by first | (rw[ref_pos (by omega) (by omega)];refine ⟨?_,rfl⟩;simp only[AG,JT];rfl) | (rw[ref_neg (by omega)];exact ⟨rfl,rfl⟩)):p:=h
theorem t97 (h:p:=by have:(nxI u c i pc).length=(o3 ((c8 u (itI c i)).getD pc g0) pc).length:=rfl;omega):p:=h
theorem t98 (h:p:=by first | rfl | (congr 1;omega) | (rw[hvt];congr 1;omega)):p:=h
theorem t99 (h:p:=by have h8:(nxI u c i pc)[j]=(nxI u c i pc).getD j 0:=(by simp[List.getD,hj5]);rw[h8];rfl):p:=h
theorem t100 (h:p:=by simp only[List.length_set];exact hz):p:=h
theorem t101 (h:p:=by simp only;omega):p:=h
theorem t102 (h:p:=by simp only[sY,and_true,List.cons_append,List.nil_append];exact ⟨eB.u9 rfl rfl rfl rfl xZ (iG _ _ (c.fs.length:Int) h14.2.2 hL (by omega) (by omega)) rfl,eB.u9 rfl rfl rfl rfl xZ (iG _ _ (c.fs.length:Int) h14.2.2 hL (by omega) (by omega)) rfl⟩):p:=h
theorem t103 (h:p:=by (exact if ht:t=(pc:Int)+1 then (by first | (exfalso;omega) | exact (if_pos ht).symm) else (by first | (exfalso;omega) | (refine Eq.trans (vec2 (c:=min t ((pc:Int)+1)) (d:=max t ((pc:Int)+1)) ?_ ?_) (if_neg ht).symm<;>(first | omega | (split<;>omega)))))):p:=h
theorem t104 (h:p:=by repeat' (first | refine ⟨?_,?_⟩ | exact trivial | exact .any | exact .int _ _ | exact .bool _ | exact .str _ | exact .vec _ _ | exact .j4 | exact .own _ _ _ _ (by have:=e.lt;simp only[bF];omega) | exact .ptr _ _ _ (by have:=e.lt;simp only[bF];omega))):p:=h
theorem t105 (h:p:=by exact aI.of ⟨.inl rfl,.inl rfl,.inl rfl,.inl rfl,.inr rO,.inl rfl,.inl rfl,.inl rfl,.inl rfl,.inl rfl,.inl rfl,.inr (iW.get ⟨.str _,.own _ _ _ _ (by simp),.j4,trivial⟩),.inr (by rw[o9];exact z7.refs (YX _) _),trivial⟩):p:=h
theorem t106 (h:p:=by simp only[fG];rfl):p:=h
theorem t107 (h:p:=by (first | rfl | (exfalso;have h0:=hna.2 (by omega);simp_all) | (exfalso;have h0:=hna.1;simp only[isW]at h0;simp_all))):p:=h
theorem t108 (h:p:=by (first | (exfalso;have hpp:=hp (by assumption);omega) | (unfold yX;simp_all))):p:=h
theorem t109 (h:p:=by repeat' (first | refine ⟨?_,?_⟩ | exact trivial | rfl | (refine congrArg (AV.int _) ?_;omega) | (refine congrArg (AV.int .i64) ?_;rw[hs3]) | (refine congrArg (AV.own _ _ _) ?_;simp;done) | (refine congrArg (AV.own _ _ _) ?_;simp;omega))):p:=h
theorem t110 (h:p:=by have:=hTp.1;omega):p:=h
theorem t111 (h:p:=by exact (aI.refl _).app rfl ⟨.inl rfl,.inl rfl,.inr (by rw[o9];exact (xR _).refs _),trivial⟩):p:=h
theorem t112 (h:p:=by rw[hE]at h;cases h):p:=h
theorem t113 (h:p:=by simp only[List.length_append,List.length_cons,List.length_nil];omega):p:=h
theorem t114 (h:p:=by (first | exact congrArg AV.bool (decide_eq_true (by rw[←(show l.getD i 0=n by omega)];exact j0 (by omega))).symm | exact congrArg AV.bool (decide_eq_false (no_mem (fun d hd=>hI d (by omega)))).symm)):p:=h
theorem t115 (h:p:=by simpa using h2):p:=h
theorem t116 (h:p:=by exact (aI.refl _).app rfl ⟨.inl rfl,.inr (by rw[o9];exact (sJ _).refs _),trivial⟩):p:=h
theorem t117 (h:p:=by simp[rd,List.getElem?_cons_succ]):p:=h
theorem t118 (h:p:=by (rw[takeD (by omega),hat];simp only[List.append_assoc,List.cons_append,List.nil_append];rfl)):p:=h
theorem t119 (h:p:=by (first | (refine congrArg AV.bool (decide_eq_true ?_).symm;exact fun d hd=>hI d (by omega)) | (refine congrArg AV.bool (decide_eq_false fun hh=>?_).symm;have h1:=hh i (by omega);simp_all))):p:=h
theorem t120 (h:p:=by rw[←Array.getElem?_toList];exact List.getElem?_eq_getElem hj):p:=h
theorem t121 (h:p:=by simp only[List.length_append,List.length_cons,htl,hdl];omega):p:=h
theorem t122 (h:p:=by (first | exact congrArg (AV.int .i64) (fI_at (by omega) hI (by cases hx:l.getD i n8;cases x;simp_all)).symm | exact congrArg (AV.int .i64) (Dp (fun d hd=>hI d (by omega))).symm)):p:=h
theorem t123 (h:p:=by exact (aI.refl _).app rfl ⟨.inl rfl,.inl rfl,.inl rfl,.inr (iW.get ⟨.int _ _,.own _ _ _ _ (by simp),trivial⟩),.inr (by rw[o9];exact (yJ _).refs _),trivial⟩):p:=h
theorem t124 (h:p:=by simp only[lH,and_true,List.cons_append,List.nil_append];exact c_compZ (hst1.lt hk8) (by have:=hst1.1;omega) (hTp.lt hk8) t110 hTp.1 (by rw[List.append_nil];exact hRw.look hpc)):p:=h
theorem t125 (h:p:=by simp[Instr.makeInterface,u7 hu]):p:=h
theorem t126 (h:p:=by (first | exact congrArg AV.bool (decide_eq_true (fun d hd=>hI d (by omega))).symm | exact congrArg AV.bool (decide_eq_false (fun f=>by have:=f i (by omega);simp_all)).symm)):p:=h
theorem t127 (h:p:=by exact E6 ⟨.inl rfl,.inl rfl,.inr (by rw[o9];exact XR),trivial⟩):p:=h
theorem t128 (h:p:=by simp only[lH,and_true,List.cons_append,List.nil_append];exact ⟨dD (L:=K) I4 3 hI4 hK (by omega) (by omega),dD (L:=K) I4 3 hI4 hK (by omega) (by omega)⟩):p:=h
theorem t129 (h:p:=by first | exact .inl (by omega) | exact .inr (hp0 (by omega))):p:=h
theorem t130 (h:p:=by first | assumption | simp_all):p:=h
theorem t131 (h:p:=by (show jQ _ (hB c e J l++_) 6 (.own (e.n+2) go 0 out.len)=_;rw[dG,dW,if_neg (by omega)];exact lJ gP (by omega) hz (by omega) (frz_S _))):p:=h
theorem t132 (h:p:=by (exact congrArg AV.bool (by rw[dcd_eq.symm];exact congrArg dcd (propext ixB_iff)))):p:=h
theorem t133 (h:p:=by (simp_all [sgS,sgO,bA,g8];try rfl)):p:=h
theorem t134 (h:p:=by simp[Builtin.len_,u7 (bM g hu).1,goInt]):p:=h
theorem t135 (h:p:=by have:=(lQ hTp hst1).1;have:=hTq9.1;omega):p:=h
theorem t136 (h:p:=by exact aI.of ⟨.inl rfl,.inl rfl,.inl rfl,.inl rfl,.inl rfl,.inl rfl,.inl rfl,.inl rfl,.inl rfl,.inl rfl,.inr (z7.refs (Fz _) _),trivial⟩):p:=h
theorem t137 (h:p:=by rw[KA];omega):p:=h
theorem t138 (h:p:=by (rw[taken (d:=cS) (by omega),List.map_append,List.map_cons,List.map_nil];simp only[List.append_assoc,List.cons_append,List.nil_append];rfl)):p:=h
theorem t139 (h:p:=by (first | (refine congrArg AV.bool ?_;rw[Bool.eq_iff_iff];simp[isL,isD];omega) | (refine congrArg AV.bool ?_;rw[Bool.eq_iff_iff];simp[isD]))):p:=h
theorem t140 (h:p:=by (first | (refine congrArg AV.bool ?_;rw[nY (fun hh=>by have:=hh.1;omega)];rfl) | (refine congrArg AV.bool ?_;exact row_all (by omega)))):p:=h
theorem t141 (h:p:=by simpa using h1):p:=h
theorem t142 (h:p:=by have:=hst1.1;omega):p:=h
theorem t143 (h:p:=by (rw[hs1,hs2,hs3];simp only[List.append_assoc,List.cons_append,List.nil_append,Nat.add_zero,Int.natCast_add,Int.natCast_one];rfl)):p:=h
theorem t144 (h:p:=by (first | (rw[ED,if_pos (by omega),show (-(n+1)).toNat+1=(-(n+1)+1).toNat from by omega]) | (rw[ED,if_neg (by omega)]))):p:=h
theorem t145 (h:p:=by (have e9:He u c mx L E=i:=G5 hI (fun hh=>by have h1:=tS hh;simp_all) (by omega);rw[e9,errU,if_neg (by omega)])):p:=h
theorem t146 (h:p:=by (first | (rw[YL hI (by omega) (by omega)];exact congrArg (AV.int .i64) (by omega)) | (rw[YM (fun d hd=>hI d (by omega))]))):p:=h
theorem t147 (h:p:=by simp only[lH,and_true,List.cons_append,List.nil_append];exact iG _ _ (c.fs.length:Int) h14.2.2 hL (by omega) (by omega)):p:=h
theorem t148 (h:p:=by (first | exact congrArg AV.bool (has_t (i:=i) (by omega) (by assumption)).symm | exact congrArg AV.bool (has_f (by omega) hI).symm)):p:=h
theorem t149 (h:p:=by simpa using hu):p:=h
theorem t150 (h:p:=by simpa using hj):p:=h
theorem t151 (h:p:=by simp only[rd,gP];rfl):p:=h
theorem t152 (h:p:=by rw[shV,if_neg (by omega)]):p:=h
theorem t153 (h:p:=by simp only[Op.operands];simp;exact ⟨p.1,by simpa using hp⟩):p:=h
theorem t154 (h:p:=by exact (aI.refl _).app rfl ⟨.inl rfl,.inl rfl,.inl rfl,.inr (by rw[o9];exact (xR _).refs _),trivial⟩):p:=h
theorem t155 (h:p:=by simp[rd,v9]):p:=h
theorem t156 (h:p:=by rw[jI];rfl):p:=h
theorem t157 (h:p:=by (first | (rw[List.take_of_length_le (by omega)]) | (simp only[g8,List.length_take,List.map_take];congr 1;omega))):p:=h
theorem t158 (h:p:=by simpa using hv):p:=h
theorem t159 (h:p:=by first | (rw[c5,if_pos (by omega)];exact ⟨rfl,rfl⟩) | (rw[c5,if_neg (by omega)];exact ⟨rfl,rfl⟩)):p:=h
theorem t160 (h:p:=by show s.st+1+_≤_;omega):p:=h
theorem t161 (h:p:=by rw[List.length_set];exact hv):p:=h
theorem t162 (h:p:=by simp[eI.gX,h2,hl]):p:=h
theorem t163 (h:p:=by (rw[dF,par,par,hp,hq,hsi];rfl)):p:=h
theorem t164 (h:p:=by (first | exact (List.append_nil _).symm | (simp only[List.append_assoc,List.cons_append,List.nil_append];rfl))):p:=h
theorem t165 (h:p:=by (have e9:He u c mx L E=c.insts.length:=rM (fun d hd=>hI d (by omega));rw[e9,errU,if_pos rfl])):p:=h
theorem t166 (h:p:=by exact (aI.refl _).app rfl ⟨.inl rfl,.inl rfl,.inr (by rw[o9];exact (plnT _).refs _),trivial⟩):p:=h
theorem t167 (h:p:=by have:=(lQ hTp hst1).1;omega):p:=h
theorem t168 (h:p:=by simp[binOp,Op.intCmp]):p:=h
theorem t169 (h:p:=by (unfold nD;simp_all)):p:=h
theorem t170 (h:p:=by exact YR (by first | exact hX | exact Q9.zero | (rw[←hD];exact hX.own heq hRw) | exact hX.plain heq)):p:=h
theorem t171 (h:p:=by (rw[lA,if_neg hmem,←hkw];exact congrArg (fun k=>AV.vec k (g8 (l.take i++n::l.drop i))) t121)):p:=h
theorem t172 (h:p:=by rw[h1];simp):p:=h
theorem t173 (h:p:=by simpa using h):p:=h
theorem t174 (h:p:=by simp only[lH,and_true,List.cons_append,List.nil_append];exact iH (JZ hl t sc hE hc (har.1 hmu))):p:=h
theorem t175 (h:p:=by rw[u4,w9,Nat.mul_one]):p:=h
theorem t176 (h:p:=by simp only[lH,and_true,List.cons_append,List.nil_append];exact iH (TA hl t sc.var (har.2 hmu) _)):p:=h
theorem t177 (h:p:=by first | exact h10.2.2 | exact h2.2.2):p:=h
theorem t178 (h:p:=by rw[nV];have:=hRq.1;omega):p:=h
theorem t179 (h:p:=by first | (rw[num_pos (by omega)];exact ⟨rfl,rfl⟩) | (rw[num_neg (by omega)];exact ⟨rfl,rfl⟩)):p:=h
theorem t180 (h:p:=by rw[hfl];exact hnm.symm.trans hnm2):p:=h
theorem t181 (h:p:=by rw[cP,gC];omega):p:=h
theorem t182 (h:p:=by show 0≤s.st+1;omega):p:=h
theorem t183 (h:p:=by rw[bE];exact Nat.le_refl _):p:=h
theorem t184 (h:p:=by constructor<;>(simp only;omega)):p:=h
theorem t185 (h:p:=by (simp only[dF,par];simp_all)):p:=h
theorem t186 (h:p:=by rw[dB,iQ];omega):p:=h
theorem t187 (h:p:=by rw[List.length_set];exact hcl0):p:=h
theorem t188 (h:p:=by first | (rw[wex_pos t130];exact ⟨rfl,rfl⟩) | (rw[wex_neg t130];exact ⟨rfl,rfl⟩)):p:=h
theorem t189 (h:p:=by simpa using hl):p:=h
theorem t190 (h:p:=by first | exact BF (find_at (by omega) hI (by assumption)) | exact BG (find_no hI)):p:=h
theorem t191 (h:p:=by rw[List.length_set];exact hzs):p:=h
theorem t192 (h:p:=by rw[xB,BJ];omega):p:=h
theorem t193 (h:p:=by rw[show h.length+(J1.length+4)-(h.length+4)=J1.length from by omega];exact h18):p:=h
theorem t194 (h:p:=by exact E6 ⟨.inl rfl,.inl rfl,.inr (by rw[o9];exact refs_A),trivial⟩):p:=h
theorem t195 (h:p:=by first | rfl | (congr 1;omega)):p:=h
theorem t196 (h:p:=by first | rfl | exact (List.append_nil _).symm):p:=h
theorem t197 (h:p:=by exact (aI.refl _).app rfl ⟨.inl rfl,.inl rfl,.inr ((CC _).refs _),trivial⟩):p:=h
theorem t198 (h:p:=by rw[←hqc];exact hJ1.grow hu wc hi hjp hop (fun hs=>absurd (hne.2 hs) (by omega))):p:=h
theorem t199 (h:p:=by simp only[v7,List.length_append,List.length_cons,List.length_nil];omega):p:=h
theorem t200 (h:p:=by intro h;exact hp0 (by omega)):p:=h
theorem t201 (h:p:=by simp[execOp,resolve,invoke,builtin,h1]):p:=h
theorem t202 (h:p:=by (show _=bH (n5 a b);rw[hI.all hz (by omega)];simp[bH,n5])):p:=h
theorem t203 (h:p:=by simpa using hb):p:=h
theorem t204 (h:p:=by rw[V2,KA];omega):p:=h
theorem t205 (h:p:=by first | rfl | exact frz_13):p:=h
theorem t206 (h:p:=by (show _=bH (bG a b);rw[hI.all hz (by omega)];simp[bH,bG])):p:=h
theorem t207 (h:p:=by simp[Sl.wt];omega):p:=h
theorem t208 (h:p:=by simp[Sl.dep]):p:=h
theorem t209 (h:p:=by rw[hno]at hl;cases hl):p:=h
theorem t210 (h:p:=by simp[eI.gX,hE,hl]):p:=h
theorem t211 (h:p:=by (show AV.int .i64 _=_;rw[applyN,show i=r.length from by omega])):p:=h
theorem t212 (h:p:=by first | assumption | simp_all [isW]):p:=h
theorem t213 (h:p:=by have:=hTj.1;have:=hEj.1;omega):p:=h
theorem t214 (h:p:=by simp[Instr.sliceAt,Instr.slice,u7 hue,hr,run_sizeOf g hke]):p:=h
theorem t215 (h:p:=by rw[l8];exact Nat.le_refl _):p:=h
theorem t216 (h:p:=by (rw[X4];rfl)):p:=h
theorem t217 (h:p:=by simpa using hx):p:=h
theorem t218 (h:p:=by simp[Ex.args]):p:=h
theorem t219 (h:p:=by rw[h];decide):p:=h
theorem t220 (h:p:=by rw[List.getElem?_append_right (Nat.le_refl _),Nat.sub_self];rfl):p:=h
theorem t221 (h:p:=by rw[k1];exact hs):p:=h
theorem t222 (h:p:=by intro p hp;omega):p:=h
theorem t223 (h:p:=by first | exact it_ne1 (by omega) | exact it_ne2 (by assumption)):p:=h
theorem t224 (h:p:=by rw[List.drop_length];exact hk):p:=h
theorem t225 (h:p:=by rw[v9,eE hne];rfl):p:=h
theorem t226 (h:p:=by have:=hRq.1;omega):p:=h
theorem t227 (h:p:=by (simp only[iB,fK hf,if_true];simp_all [w8])):p:=h
theorem t228 (h:p:=by rw[iA,Nat.mul_comm]):p:=h
theorem t229 (h:p:=by (refine congrArg AV.agg ?_;rw[mM,hes,hps];rfl)):p:=h
theorem t230 (h:p:=by rw[ho];exact .call ht hb hc):p:=h
theorem s0z (h:p)(k:p→q:=by intro h;simp only[Option.bind_eq_bind,Option.bind_eq_some_iff]at h;exact h):q:=k h
theorem s1z (h:p)(k:p→q:=by intro h;simp only[iT,Option.some.injEq]at h;exact h):q:=k h
theorem s2z (h:p)(k:p→q:=by intro h;simp only[jQ,Option.some.injEq]at h;exact h):q:=k h
theorem s3z (h:p)(k:p→q:=by intro h;simp only[Bool.and_eq_true]at h;exact h):q:=k h
theorem s4z (h:p)(k:p→q:=by intro h;simp only[qF,Option.some.injEq]at h;exact h):q:=k h
theorem s5z (h:p)(k:p→q:=by intro h;simp only[Bool.and_eq_true,Nat.beq_eq]at h;exact h):q:=k h
theorem s6z (h:p)(k:p→q:=by intro h;simp only[Option.some.injEq,Prod.mk.injEq]at h;exact h):q:=k h
theorem s7z (h:p)(k:p→q:=by intro h;simp only[List.length_nil]at h;exact h):q:=k h
theorem s8z (h:p)(k:p→q:=by intro h;simp only[List.mem_cons,List.not_mem_nil,or_false]at h;exact h):q:=k h
theorem s9z (h:p)(k:p→q:=by intro h;simp only[List.mem_singleton]at h;exact h):q:=k h
theorem s10z (h:p)(k:p→q:=by intro h;simp only[decide_eq_true_eq,decide_eq_false_iff_not,Bool.not_eq_true',Bool.not_eq_false',Bool.not_eq_eq_eq_not,Bool.not_true,Bool.not_false,Int.not_le,Int.not_lt,beq_iff_eq,bne_iff_ne,ge_iff_le,gt_iff_lt,beq_eq_false_iff_ne,ne_eq,bne_eq_false_iff_eq]at h;exact h):q:=k h
theorem s11z (h:p)(k:p→q:=by intro h;simp only[beq_iff_eq,bne_iff_ne,decide_eq_true_eq,decide_eq_false_iff_not,beq_eq_false_iff_ne,ne_eq,bne_eq_false_iff_eq]at h;exact h):q:=k h
structure Hd (q:Prop):Prop where k:q
theorem u2z {r:Prop}(k1:q)(k2:r)(h:Hd q→Hd r→p:=by
 intro k1 k2;refine .spc rfl rfl (fun e=>?_) (fun e=>?_)
 ·have q:=fact e;(try simp only[e]);refine .T ?_;revert q;revert e;exact k1.1
 ·have q:=fact e;(try simp only[e]);refine .F ?_;revert q;revert e;exact k2.1):p:=h ⟨k1⟩ ⟨k2⟩
theorem uTbz (k:q)(h:Hd q→p:=by intro k;refine .spc rfl rfl (fun e=>?_) (fun e=>by exfalso;have q:=fact e;omega);have q:=fact e;(try simp only[e]);refine .T ?_;revert q;revert e;exact k.1):p:=h ⟨k⟩
theorem uFbz (k:q)(h:Hd q→p:=by intro k;refine .spc rfl rfl (fun e=>by exfalso;have q:=fact e;omega) (fun e=>?_);have q:=fact e;(try simp only[e]);refine .F ?_;revert q;revert e;exact k.1):p:=h ⟨k⟩
theorem uTcz (k:q)(h:Hd q→p:=by intro k;refine .spc rfl rfl (fun e=>?_) (fun e=>by exfalso;(simp at e;omega));have q:=fact e;(try simp only[e]);refine .T ?_;revert q;revert e;exact k.1):p:=h ⟨k⟩
theorem uFcz (k:q)(h:Hd q→p:=by intro k;refine .spc rfl rfl (fun e=>by exfalso;(simp at e;omega)) (fun e=>?_);have q:=fact e;(try simp only[e]);refine .F ?_;revert q;revert e;exact k.1):p:=h ⟨k⟩
theorem c0z (k:q)(h:Hd q→p:=by intro zk;refine .block ?_;refine .aR (fun m st=>∃(k:Nat),(m=(o3 ((c8 u (itI c i)).getD pc g0) pc).length-k∧((∀d,d<k→jA (n5 ((L.getD i []).getD pc []) (stS u c mx (exS u c mx L) i pc)) ((L.getD i []).getD ((o3 ((c8 u (itI c i)).getD pc g0) pc).getD d 0).toNat []))∧k≤(o3 ((c8 u (itI c i)).getD pc g0) pc).length))∧st=⟨mkS 147 [(2,AV.int .i64 ((mx:Nat):Int)),(3,AV.vec c.insts.length (s9 L)),(4,AV.vec c.insts.length (E.map l5)),(5,AV.int .i64 ((i:Nat):Int)),(6,AV.ptr h.length 0 0),(7,AV.ptr (h.length+1) 0 0),(13,AV.ptr (h.length+2) 0 0),(15,AV.int .i64 ((pc:Nat):Int)),(16,bH (stS u c mx (exS u c mx L) i pc)),(18,AV.vec (o3 ((c8 u (itI c i)).getD pc g0) pc).length (g8 (o3 ((c8 u (itI c i)).getD pc g0) pc))),(19,AV.int .i64 ((k:Nat):Int))],h++[⟨0,false,30,4,[.vec u.globals.length (g8 u.globals),.vec u.c4.length (g6 u.c4),.vec u.procs.length (l4 u.procs),.int .i64 u.main],0⟩,⟨0,false,34,3,[.vec c.insts.length (l7 c.insts),.vec c.calls.length (n4 c.calls),.vec c.roots.length (g8 c.roots)],0⟩,⟨0,false,46,2,[.int .i64 (itI c i).proc,.vec (itI c i).j5.length (g8 (itI c i).j5)],0⟩]⟩) _ (.v ⟨0,⟨rfl,⟨t78,by omega⟩⟩,rfl⟩) ?_;exact zk.1):p:=h ⟨k⟩
theorem c1z (k:q)(h:q→p:=by intro zk;refine .seq ?_;refine .z ?_;exact zk):p:=h k
theorem c2z (k:q)(h:q→p:=by intro zk;refine .rz ?_;change c9 ..;exact zk):p:=h k
theorem c3z (k:q)(h:q→p:=by intro zk;refine .sk ?_;refine .sb ?_;exact zk):p:=h k
theorem c4z (k:q)(h:q→p:=by intro zk;refine .ret ?_;refine Ends.m ?_;exact zk):p:=h k
theorem c5z (k:q)(h:q→p:=by intro zk;refine .skip ?_;change c9 ..;exact zk):p:=h k
theorem c6z (k:q)(h:q→p:=by intro zk;refine .z ?_;refine .F ?_;exact zk):p:=h k
theorem c7z (k:q)(h:q→p:=by intro zk;refine c1z ?_;refine .block ?_;exact zk):p:=h k
theorem c8z (k:q)(h:q→p:=by intro zk;refine .exit ?_;change c9 ..;exact zk):p:=h k
theorem c9z (k:q)(h:q→p:=by intro zk;refine o4.nil ?_;change c9 _ _ _ _ _;exact zk):p:=h k
theorem c10z (k:q)(h:q→p:=by intro zk;refine .c7 [] ?_;refine .z ?_;exact zk):p:=h k
theorem c11z (k:q)(h:q→p:=by intro zk;refine c9.seq ?_;refine c9.region z8 ?_;exact zk):p:=h k
theorem c12z (k:q)(h:q→p:=by intro zk;refine .s ?_;refine .e 3 ?_;exact zk):p:=h k
theorem c13z (k:q)(h:q→p:=by intro zk;change c9 _ _ _ _ _;refine c1z ?_;exact zk):p:=h k
theorem c15z (k:q)(h:q→p:=by intro zk;refine .z ?_;refine .block ?_;exact zk):p:=h k
theorem c16z (k:q)(h:q→p:=by intro zk;refine .z ?_;refine c7z ?_;exact zk):p:=h k
theorem c17z (k:q)(h:q→p:=by intro zk;refine .s ?_;refine .e 2 ?_;exact zk):p:=h k
theorem c18z (k:q)(h:q→p:=by intro zk;simp only[hU,List.set_cons_succ,List.set_cons_zero,lR];refine c2z ?_;exact zk):p:=h k
theorem c19z (k:q)(h:Hd q→p:=by intro zk;refine c17z ?_;refine .ca rfl rfl (sF _ (by omega) (by omega)) ?_;exact zk.1):p:=h ⟨k⟩
theorem c20z (k:q)(h:q→p:=by intro zk;refine .F ?_;refine .sk ?_;exact zk):p:=h k
theorem c22z (k:q)(h:q→p:=by intro zk;simp only[List.append_assoc,List.cons_append,List.nil_append,v9,s3,List.set_cons_succ,List.set_cons_zero,List.length_append,List.length_cons,List.length_nil,Nat.reduceAdd,Nat.zero_add];change c9 ..;exact zk):p:=h k
theorem c23z (k:q)(h:q→p:=by intro zk;refine .z ?_;refine .seq ?_;exact zk):p:=h k
theorem c25z (k:q)(h:q→p:=by intro zk;refine .n ?_;change c9 ..;exact zk):p:=h k
theorem c26z (k:q)(h:q→p:=by intro zk;refine .sg z8 (mkH 13 [0,1,3,7,0,16,63,127,255,255,0,1535,4095] [10,11] [] [0,1024,3072] [0,1,2,3,4,5,6,7,8,9]) 0 ?_;refine .p 3 ?_;exact zk):p:=h k
theorem c27z (k:q)(h:q→p:=by intro zk;refine .n ?_;refine .seq ?_;exact zk):p:=h k
theorem c28z (k:q)(h:q→p:=by intro zk;refine .z ?_;refine c4z ?_;exact zk):p:=h k
theorem c29z (k:q)(h:q→p:=by intro zk;refine .s ?_;refine .e 5 ?_;exact zk):p:=h k
theorem c30z (k:q)(h:q→p:=by intro zk;refine .s ?_;refine .e 4 ?_;exact zk):p:=h k
theorem c31z (k:q)(h:q→p:=by intro zk;refine .po [false,false,true,true] ?_;refine aB.nil rfl ?_;exact zk):p:=h k
theorem c32z (k:q)(h:q→p:=by intro zk;refine .po [false,true,true] ?_;refine .po [false,true,true] ?_;exact zk):p:=h k
theorem c33z (k:q)(h:q→p:=by intro zk;refine c6z ?_;refine c6z ?_;exact zk):p:=h k
theorem c34z (k:q)(h:Hd q→p:=by intro zk;refine c30z ?_;refine .ch rfl rfl (P8.V (vs:=vs) ih (l-1) (aQ out all) 0 2 hr9.2 (by omega) (by omega) (by omega) (by omega) (by omega) (by omega) hV (hO.fr.mono (by simp only;omega)) (by omega)) ?_;exact zk.1):p:=h ⟨k⟩
theorem c36z (k:q)(h:q→p:=by intro zk;refine .p 1 ?_;refine .rm [true] ?_;exact zk):p:=h k
theorem c39z (k:q)(h:q→p:=by intro zk;refine .s ?_;refine .e 8 ?_;exact zk):p:=h k
theorem c40z (k:q)(h:q→p:=by intro zk;refine .og z8 (mkH 14 [0,1,0,0,8,0,56,120,0,508,1020,2047,4095,8191] [9,10,11,13] [] [0,512,1536,3584,11776] [0,1]) 0 ?_;refine aB.aG t28 ?_;exact zk):p:=h k
theorem c41z (k:q)(h:q→p:=by intro zk;refine .sg z8 (mkH 15 [0,1,3,7,15,31,0,64,192,448,960,1984,4095,0,16383] [3,10,13,14] [(3,0),(13,1)] [0,8,1024,1032,8192,8200,9216,9224,25608] [0,1,2,3,4,5,6,7,8,9,10,11,12]) 2 ?_;refine aB.aG t28 ?_;exact zk):p:=h k
theorem c43z (k:q)(h:q→p:=by intro zk;refine c13z ?_;refine .F ?_;refine c8z ?_;exact zk):p:=h k
theorem c44z (k:q)(h:q→p:=by intro zk;refine .c7 [2,3,4,5,6,11,13,15,16,18,19,20] ?_;refine .rz ?_;exact zk):p:=h k
theorem c47z (k:q)(h:q→p:=by intro zk;refine .k 8 [] ?_;refine .n [] ?_;exact zk):p:=h k
theorem c48z (k:q)(h:q→p:=by intro zk;refine .F ?_;refine c5z ?_;exact zk):p:=h k
theorem c49z (k:q)(h:q→p:=by intro zk;refine .z ?_;refine c16z ?_;exact zk):p:=h k
theorem c52z (k:q)(h:q→p:=by intro zk;refine .ss z8 (mkP 21 [0,0,3,7,0,31,63,0,255,0,0,1536,3584,0,0,24576,57344,130560,261632,524287,1048575] []) ?_;refine .k 8 [] ?_;exact zk):p:=h k
theorem c54z (k:q)(h:q→p:=by intro zk;refine .en [true,true,true,true] [9224,9216,8200,8192,1032,1024,8,0] [_,_,_,_] ?_;refine .en [true,false,false,false,false,false,false,false] [25608,9224,9216,8200,8192,1032,1024,8,0] [_] ?_;exact zk):p:=h k
theorem c55z (k:q)(h:q→p:=by intro zk;refine .og z8 (mkH 11 [0,1,0,0,8,0,60,124,255,511,1023] [6,7,8,10] [] [0,64,192,448,1472] [0,1]) 0 ?_;refine aB.aG t28 ?_;exact zk):p:=h k
theorem c58z (k:q)(h:q→p:=by intro zk;refine .po [false,false,true,true,true] ?_;refine aB.nil rfl ?_;exact zk):p:=h k
theorem c63z (k:q)(h:q→p:=by intro zk;refine c8z ?_;refine c28z ?_;exact zk):p:=h k
theorem c64z (k:q)(h:q→p:=by intro zk;refine c15z ?_;refine .c7 [0,1,4,5,6,7,41] ?_;exact zk):p:=h k
theorem c66z (k:q)(h:q→p:=by intro zk;refine .s ?_;refine .e 1 ?_;exact zk):p:=h k
theorem c67z (k:q)(h:q→p:=by intro zk;refine c2z ?_;refine .rz ?_;exact zk):p:=h k
theorem c68z (k:q)(h:q→p:=by intro zk;refine c9.rounds 1 ?_;refine c43z ?_;exact zk):p:=h k
theorem c71z (k:q)(h:q→p:=by intro zk;refine .z ?_;refine .T ?_;exact zk):p:=h k
theorem c72z (k:q)(h:q→p:=by intro zk;refine .rn [true] ?_;refine .p 1 ?_;exact zk):p:=h k
theorem c73z (k:q)(h:q→p:=by intro zk;refine .ca rfl rfl (KD rfl) ?_;refine .k 8 [(33,94),(36,97),(43,104),(45,106)] ?_;exact zk):p:=h k
theorem c74z (k:q)(h:q→p:=by intro zk;refine .ss z8 (mkP 16 [0,1,0,4,0,28,60,124,255,511,1023,0,4095,8191,16383,32767] []) ?_;refine c47z ?_;exact zk):p:=h k
theorem c75z (k:q)(h:q→p:=by intro zk;refine .z ?_;refine .z ?_;exact zk):p:=h k
theorem c76z (k:q)(h:q→p:=by intro zk;refine .c7 [1,16,17,18,19,22,23] ?_;refine .s ?_;exact zk):p:=h k
theorem c77z (k:q)(h:q→p:=by intro zk;refine c9z ?_;refine c9.ret ?_;exact zk):p:=h k
theorem c79z (k:q)(h:q→p:=by intro zk;refine .z ?_;refine c12z ?_;exact zk):p:=h k
theorem c80z (k:q)(h:q→p:=by intro zk;refine c9.skip ?_;change c9 _ _ _ _ _;exact zk):p:=h k
theorem c81z (k:q)(h:q→p:=by intro zk;refine .ss z8 (mkP 15 [0,1,3,7,0,0,48,112,255,511,0,1024,3072,8191,16383] []) ?_;refine c47z ?_;exact zk):p:=h k
theorem c83z (k:q)(h:q→p:=by intro zk;refine .k 8 [(6,67),(8,69),(15,76),(18,79)] ?_;refine .k 8 [(15,76),(18,79),(24,85),(26,87)] ?_;exact zk):p:=h k
theorem c84z (k:q)(h:q→p:=by intro zk;refine .e 6 ?_;refine .ca rfl rfl (P2 hu wc hmx dC hi) ?_;exact zk):p:=h k
theorem c85z (k:q)(h:q→p:=by intro zk;refine c20z ?_;refine .seq ?_;exact zk):p:=h k
theorem c87z (k:q)(h:q→p:=by intro zk;refine c13z ?_;refine .T ?_;refine c3z ?_;exact zk):p:=h k
theorem c89z (k:q)(h:q→p:=by intro zk;refine .c7 [0,1,5,6] ?_;refine .rz ?_;exact zk):p:=h k
theorem c90z (k:q)(h:q→p:=by intro zk;refine c85z ?_;refine .c7 [0,1,5,6,7] ?_;exact zk):p:=h k
theorem c92z (k:q)(h:q→p:=by intro zk;refine .en [true,false] [1536,512,0] [_] ?_;refine .en [true,false,false] [3584,1536,512,0] [_] ?_;exact zk):p:=h k
theorem c94z (k:q)(h:q→p:=by intro zk;refine .c7 [0,2,4,6,7,9] ?_;refine .ss z8 (mkP 17 [0,1,3,7,15,31,63,127,255,15,527,2047,4095,8191,16383,32767,65535] []) ?_;exact zk):p:=h k
theorem c95z (k:q)(h:q→p:=by intro zk;refine .c7 [1,3] ?_;refine .z ?_;exact zk):p:=h k
theorem c98z (k:q)(h:q→p:=by intro zk;refine .r ?_;refine .e 8 ?_;exact zk):p:=h k
theorem c99z (k:q)(h:q→p:=by intro zk;refine .po [false,false,false,true,true,false,false,true,true] ?_;refine .po [false,true,false,true,false,true,false,true,false] ?_;exact zk):p:=h k
theorem c100z (k:q)(h:q→p:=by intro zk;refine .en [true,false] [192,64,0] [_] ?_;refine .en [true,false,false] [448,192,64,0] [_] ?_;exact zk):p:=h k
theorem c101z (k:q)(h:Hd q→p:=by intro zk;refine c12z ?_;refine .ca rfl rfl (rK hu w (show pc<(c8 u (itI c i)).length by omega)) ?_;exact zk.1):p:=h ⟨k⟩
theorem c102z (k:q)(h:q→p:=by intro zk;refine c29z ?_;refine .ca rfl rfl (iha _) ?_;exact zk):p:=h k
theorem c103z (k:q)(h:q→p:=by intro zk;refine .nil ?_;refine .block ?_;exact zk):p:=h k
theorem c105z (k:q)(h:q→p:=by intro zk;refine .n ?_;refine c4z ?_;exact zk):p:=h k
theorem c106z (k:q)(h:q→p:=by intro zk;refine .po [false,false,false,true,false,false,true,false] ?_;refine .po [false,false,false,false,true,false,false,true] ?_;exact zk):p:=h k
theorem c108z (k:q)(h:q→p:=by intro zk;refine .z ?_;refine c1z ?_;exact zk):p:=h k
theorem c110z (k:q)(h:q→p:=by intro zk;refine .rm [true] ?_;refine c36z ?_;exact zk):p:=h k
theorem c111z (k:q)(h:q→p:=by intro zk;refine .rn [true] ?_;refine .p 3 ?_;exact zk):p:=h k
theorem c112z (k:q)(h:q→p:=by intro zk;refine .c7 [0,5,6,7,8] ?_;refine .z ?_;exact zk):p:=h k
theorem c113z (k:q)(h:q→p:=by intro zk;refine c2z ?_;refine .c7 [1,3,4] ?_;refine .rz ?_;exact zk):p:=h k
theorem c114z (k:q)(h:Hd q→p:=by intro zk;refine .ca rfl rfl (W8 _ _ (hst1.lt hk8) t142 (hTp.lt hk8) t110) ?_;refine .k 8 [] ?_;exact zk.1):p:=h ⟨k⟩
theorem c115z (k:q)(h:q→p:=by intro zk;refine c98z ?_;refine c25z ?_;exact zk):p:=h k
theorem c116z (k:q)(h:q→p:=by intro zk;refine c12z ?_;refine .ch rfl rfl (iH (ith (p8 (cI s) ⟨6,0,false,iB s.l a,cS,[],[]⟩ s.st) sc rfl b1 _)) ?_;exact zk):p:=h k
theorem c117z (k:q)(h:q→p:=by intro zk;refine .k 8 [(6,67),(8,69)] ?_;refine .k 8 [(15,76),(18,79)] ?_;exact zk):p:=h k
theorem c118z (k:q)(h:q→p:=by intro zk;refine .p 1 ?_;refine .en [true,false,false,false] [11776,3584,1536,512,0] [_] ?_;exact zk):p:=h k
theorem c120z (k:q)(h:q→p:=by intro zk;refine .k 8 [(43,104),(45,106),(52,113)] ?_;refine .k 4 [(52,113),(55,116)] ?_;exact zk):p:=h k
theorem c121z (k:q)(h:q→p:=by intro zk;refine .c7 [3,4,8,10,12,13,14] ?_;refine .rz ?_;exact zk):p:=h k
theorem c122z (k:q)(h:q→p:=by intro zk;refine c9.DO rfl ?_;refine c80z ?_;exact zk):p:=h k
theorem c124z (k:q)(h:q→p:=by intro zk;refine c79z ?_;refine .ca rfl rfl (c_fcode hu w hpc) ?_;exact zk):p:=h k
theorem c125z (k:q)(h:q→p:=by intro zk;refine .p 1 ?_;refine .en [true,false,false,false] [1472,448,192,64,0] [_] ?_;exact zk):p:=h k
theorem c126z (k:q)(h:q→p:=by intro zk;refine .og z8 (mkH 13 [0,1,3,7,0,0,32,96,224,480,1023,2047,4095] [12] [] [0,4096] []) 0 ?_;refine .p 3 ?_;exact zk):p:=h k
theorem c127z (k:q)(h:q→p:=by intro zk;refine c27z ?_;refine .c7 [1,3,4,5] ?_;refine c17z ?_;exact zk):p:=h k
theorem c130z (k:q)(h:q→p:=by intro zk;simp only[hU,List.set_cons_succ,List.set_cons_zero,lR];refine .z ?_;exact zk):p:=h k
theorem c131z (k:q)(h:q→p:=by intro zk;refine c3z ?_;refine .z ?_;exact zk):p:=h k
theorem c133z (k:q)(h:q→p:=by intro zk;refine .s ?_;refine .e 6 ?_;exact zk):p:=h k
theorem c134z (k:q)(h:q→p:=by intro zk;refine c39z ?_;refine .n ?_;exact zk):p:=h k
theorem c136z (k:q)(h:q→p:=by intro zk;refine c110z ?_;refine .cl rfl rfl (fun _=>V0 hf hl) ?_;exact zk):p:=h k
theorem c137z (k:q)(h:q→p:=by intro zk;refine .sk ?_;refine .seq ?_;exact zk):p:=h k
theorem c138z (k:q)(h:q→p:=by intro zk;refine .c7 [2,3,4,5,6,11,13,15,16,18,19,20,21] ?_;refine c39z ?_;exact zk):p:=h k
theorem c139z (k:q)(h:q→p:=by intro zk;refine c29z ?_;refine .ca rfl rfl (ihb _) ?_;exact zk):p:=h k
theorem c140z (k:q)(h:q→p:=by intro zk;refine .c7 [0,1,5,6] ?_;refine c67z ?_;exact zk):p:=h k
theorem c141z (k:q)(h:q→p:=by intro zk;refine .c7 [0,2,3,6,11,12,13,14] ?_;refine c12z ?_;exact zk):p:=h k
theorem c142z (k:q)(h:q→p:=by intro zk;refine .c7 [2,3,4,5,6,11,13,16,18,19,20,21] ?_;refine c115z ?_;exact zk):p:=h k
theorem c144z (k:q)(h:Hd q→p:=by intro zk;refine .c7 [1,3] ?_;refine c19z ?_;exact zk.1):p:=h ⟨k⟩
theorem c145z (k:q)(h:q→p:=by intro zk;refine c32z ?_;refine aB.nil rfl ?_;exact zk):p:=h k
theorem c146z (k:q)(h:q→p:=by intro zk;refine .so z8 (mkP 13 [0,0,0,0,12,28,0,0,192,448,1020,2047,4095] [12]) ?_;refine c47z ?_;exact zk):p:=h k
theorem c147z (k:q)(h:q→p:=by intro zk;refine .n ?_;refine .block ?_;exact zk):p:=h k
theorem c149z (k:q)(h:q→p:=by intro zk;refine .c7 [2,3,4,5,6,11,13,15,16,18,19] ?_;refine c15z ?_;exact zk):p:=h k
theorem c151z (k:q)(h:q→p:=by intro zk;refine c9.seq ?_;refine c11z ?_;exact zk):p:=h k
theorem c152z (k:q)(h:q→p:=by intro zk;refine c20z ?_;refine .z ?_;exact zk):p:=h k
theorem c153z (k:q)(h:q→p:=by intro zk;refine .c7 [0,1,5] ?_;refine .rz ?_;exact zk):p:=h k
theorem c154z (k:q)(h:q→p:=by intro zk;refine .ss z8 (mkP 7 [0,0,3,7,0,16,63] []) ?_;refine .n [] ?_;exact zk):p:=h k
theorem c155z (k:q)(h:q→p:=by intro zk;refine c5z ?_;refine .c7 [2,3,4,5,6,7,13,15,16,18,19] ?_;exact zk):p:=h k
theorem c157z (k:q)(h:q→p:=by intro zk;refine .m [(19,201),(24,206),(27,209)] ?_;refine .F ?_;refine .skip ?_;exact zk):p:=h k
theorem c158z (k:q)(h:q→p:=by intro zk;refine c10z ?_;refine c4z ?_;exact zk):p:=h k
theorem c159z (k:q)(h:q→p:=by intro zk;refine c18z ?_;refine .rz ?_;exact zk):p:=h k
theorem c160z (k:q)(h:q→p:=by intro zk;refine .po [false,false,true,false,true,false,true,false,true] ?_;refine aB.nil rfl ?_;exact zk):p:=h k
theorem c161z (k:q)(h:q→p:=by intro zk;refine c6z ?_;refine .c7 [0,1,4,5,6,7,41] ?_;exact zk):p:=h k
theorem c162z (k:q)(h:q→p:=by intro zk;refine .po [false,false,true,false,true] ?_;refine .po [false,false,true,false,true] ?_;exact zk):p:=h k
theorem c163z (k:q)(h:q→p:=by intro zk;refine c15z ?_;refine c68z ?_;exact zk):p:=h k
theorem c164z (k:q)(h:q→p:=by intro zk;refine c9.rounds 3 ?_;refine c87z ?_;exact zk):p:=h k
theorem c165z (k:q)(h:q→p:=by intro zk;refine c31z ?_;change c9 ..;exact zk):p:=h k
theorem c166z (k:q)(h:Hd q→p:=by intro zk;refine .k 2 [] ?_;refine .ca rfl rfl (P3 _ _ t167 t135) ?_;exact zk.1):p:=h ⟨k⟩
theorem c168z (k:q)(h:q→p:=by intro zk;refine c29z ?_;refine .ca rfl rfl (G2 u mx) ?_;exact zk):p:=h k
theorem c169z (k:q)(h:q→p:=by intro zk;refine c25z ?_;refine .c7 [2,3,4,8,9,10] ?_;exact zk):p:=h k
theorem c170z (k:q)(h:Hd q→p:=by intro zk;refine c127z ?_;refine .ca rfl rfl (c_inn0 hp (by omega) hga) ?_;exact zk.1):p:=h ⟨k⟩
theorem c171z (k:q)(h:Hd q→p:=by intro zk;refine c127z ?_;refine .ca rfl rfl (c_inn1 hq (by omega) hgb) ?_;exact zk.1):p:=h ⟨k⟩
theorem c172z (k:q)(h:Hd q→p:=by intro zk;refine .ch rfl rfl (iH (TA (s:=cI s) t137 s.st sc.var he _)) ?_;refine .e 2 ?_;refine .ch rfl rfl (iH (nT t52 t50 ⟨6,0,false,iB s.l a,cS,[],[]⟩ s.st t27)) ?_;exact zk.1):p:=h ⟨k⟩
theorem c173z (k:q)(h:Hd q→p:=by intro zk;refine c9.qQ (γ:=12) (β:=11) (k:=1) (len:=ps.length) rfl hzp (by omega) (YX _) rfl (by decide) rfl ?_;simp only[List.cons_append,List.nil_append,List.set_cons_succ,List.set_cons_zero,List.length_cons,List.length_nil,Nat.reduceAdd,Nat.zero_add,cA];refine c9.viewN (β:=11) (k:=2) rfl rfl ?_;exact zk.1):p:=h ⟨k⟩
theorem c174z (k:q)(h:q→p:=by intro zk;refine .F ?_;refine .z ?_;exact zk):p:=h k
theorem c175z (k:q)(h:q→p:=by intro zk;refine c6z ?_;refine c71z ?_;exact zk):p:=h k
theorem c176z (k:q)(h:Hd q→p:=by intro zk;refine .block ?_;refine .sm z8 (mkP 11 [0,0,3,7,0,16,48,112,0,271,1023] [8,9]) [0,1,2,3,4,5,6,7] ?_;refine gJ.p (pd:=[]) 11 ?_;refine gJ.nil t13 ?_;refine .c7 [0,1,4,5,6,7] ?_;refine .z ?_;exact zk.1):p:=h ⟨k⟩
theorem c177z (k:q)(h:q→p:=by intro zk;refine c17z ?_;refine .ca rfl rfl (c_gcode hu wc hmx hS hi) ?_;exact zk):p:=h k
theorem c178z (k:q)(h:q→p:=by intro zk;refine .sk ?_;refine .block ?_;exact zk):p:=h k
theorem c179z (k:q)(h:q→p:=by intro zk;refine c113z ?_;refine c43z ?_;exact zk):p:=h k
theorem c183z (k:q)(h:q→p:=by intro zk;refine .sk ?_;refine .c7 [2,3,4,5,6,7,13,15,16] ?_;exact zk):p:=h k
theorem c184z (k:q)(h:Hd q→p:=by intro zk;refine c12z ?_;refine .ch rfl rfl (CR (vs:=vs) hc h14.2.2 hL (by omega) f hp) ?_;exact zk.1):p:=h ⟨k⟩
theorem c185z (k:q)(h:q→p:=by intro zk;refine .c7 [0,2,4,6,7,8] ?_;refine .z ?_;exact zk):p:=h k
theorem c186z (k:q)(h:q→p:=by intro zk;refine .r ?_;refine .e 4 ?_;exact zk):p:=h k
theorem c187z (k:q)(h:q→p:=by intro zk;refine c36z ?_;refine .p 2 ?_;exact zk):p:=h k
theorem c188z (k:q)(h:q→p:=by intro zk;refine .rn [true] ?_;refine .p 2 ?_;exact zk):p:=h k
theorem c189z (k:q)(h:q→p:=by intro zk;refine .rm [true] ?_;refine .p 1 ?_;exact zk):p:=h k
theorem c190z (k:q)(h:q→p:=by intro zk;refine .c7 [0,2,3,6,11,12,13,16] ?_;refine c2z ?_;exact zk):p:=h k
theorem c191z (k:q)(h:q→p:=by intro zk;refine .en [true] [2048,0] [_] ?_;refine .en [true,false] [6144,2048,0] [_] ?_;exact zk):p:=h k
theorem c192z (k:q)(h:q→p:=by intro zk;refine .z ?_;refine .c7 [0,2,3,6,11,12,13,16] ?_;exact zk):p:=h k
theorem c194z (k:q)(h:q→p:=by intro zk;refine .en [true] [4096,0] [_] ?_;refine aB.nil rfl ?_;exact zk):p:=h k
theorem c195z (k:q)(h:q→p:=by intro zk;change c9 ..;refine .rz ?_;exact zk):p:=h k
theorem c199z (k:q)(h:q→p:=by intro zk;refine .block ?_;refine c75z ?_;refine .s ?_;refine .k 8 [(2,31)] ?_;refine .m [(8,37)] ?_;refine .c7 [0,1,5,6,7,8,9] ?_;refine .s ?_;refine .k 8 [(2,43),(6,47)] ?_;refine .m [(6,47),(10,51)] ?_;refine .c7 [0,1,5,6,7,8,9,10] ?_;refine .zm [(2,57)] ?_;refine .seq ?_;refine .s ?_;refine .k 8 [(2,63),(6,67)] ?_;exact zk):p:=h k
theorem c200z (k:q)(h:q→p:=by intro zk;refine .po [false,true,true] ?_;refine aB.nil rfl ?_;exact zk):p:=h k
theorem c201z (k:q)(h:q→p:=by intro zk;change c9 ..;refine .c7 [0,2,3,6,11,12,13] ?_;exact zk):p:=h k
theorem c202z (k:q)(h:q→p:=by intro zk;refine c122z ?_;refine c11z ?_;exact zk):p:=h k
theorem c203z (k:q)(h:q→p:=by intro zk;refine .k 8 [(9,191),(12,194),(19,201)] ?_;refine .k 8 [(19,201),(24,206),(27,209)] ?_;refine c157z ?_;exact zk):p:=h k
theorem c207z (k:q)(h:q→p:=by intro zk;refine .c7 [3] ?_;refine .z ?_;exact zk):p:=h k
theorem c208z (k:q)(h:q→p:=by intro zk;change c9 ..;refine .c7 [0,2,4,6,7,10,11] ?_;exact zk):p:=h k
theorem c209z (k:q)(h:q→p:=by intro zk;refine .z ?_;refine c17z ?_;exact zk):p:=h k
theorem c210z (k:q)(h:q→p:=by intro zk;refine .T ?_;refine c10z ?_;exact zk):p:=h k
theorem c211z (k:q)(h:q→p:=by intro zk;refine .z ?_;refine .c7 [0,1,5,6,7] ?_;refine c16z ?_;exact zk):p:=h k
theorem c212z (k:q)(h:q→p:=by intro zk;refine .zm [(2,178)] ?_;refine .c7 [0,1,5,6,7,14] ?_;refine .s ?_;exact zk):p:=h k
theorem c213z (k:q)(h:q→p:=by intro zk;refine .k 8 [(43,104),(45,106),(52,113)] ?_;refine .k 2 [(55,116)] ?_;exact zk):p:=h k
theorem c214z (k:q)(h:q→p:=by intro zk;refine c5z ?_;refine .c7 [0,1,7,8] ?_;exact zk):p:=h k
theorem c216z (k:q)(h:q→p:=by intro zk;refine c64z ?_;refine c33z ?_;refine c1z ?_;exact zk):p:=h k
theorem c217z (k:q)(h:q→p:=by intro zk;refine .ca rfl rfl (E4 hv he) ?_;refine .k 8 [(24,85),(26,87),(33,94),(36,97)] ?_;refine .k 8 [(33,94),(36,97),(43,104)] ?_;exact zk):p:=h k
theorem c218z (k:q)(h:q→p:=by intro zk;refine .m [(14,159),(18,163),(23,168)] ?_;refine c48z ?_;refine .c7 [0,1,5,6,7,12] ?_;exact zk):p:=h k
theorem c220z (k:q)(h:q→p:=by intro zk;refine c211z ?_;refine c33z ?_;refine .c7 [0,1,5,6,7,23] ?_;exact zk):p:=h k
theorem c221z (k:q)(h:q→p:=by intro zk;refine .rn [true] ?_;refine .p 4 ?_;exact zk):p:=h k
theorem c222z (k:q)(h:q→p:=by intro zk;refine c163z ?_;refine c212z ?_;exact zk):p:=h k
theorem c223z (k:q)(h:q→p:=by intro zk;refine .k 8 [(24,85),(26,87)] ?_;refine .k 7 [(33,94),(36,97)] ?_;exact zk):p:=h k
theorem c227z (k:q)(h:Hd q→p:=by intro zk;refine .n ?_;refine .c7 [1,2,3,4,5,6,16,17,18,19] ?_;refine c12z ?_;refine .ca rfl rfl (Q7 hie (by omega) (by omega)) ?_;refine .n ?_;refine .s ?_;refine .e 7 ?_;refine .ca rfl rfl (Q7 hke (by omega) (by omega)) ?_;refine c27z ?_;refine .c7 [1,2,3,4,6,16,17,18,19,20,21] ?_;refine c66z ?_;refine .ca rfl rfl (OD hwe) ?_;refine c103z ?_;exact zk.1):p:=h ⟨k⟩
theorem c228z (k:q)(h:q→p:=by intro zk;refine .c7 [22,23,24,25] ?_;refine .s ?_;refine .k 8 [(3,158)] ?_;refine .e 1 ?_;refine .ca rfl rfl (awake41 _) ?_;refine .n ?_;exact zk):p:=h k
theorem c229z (k:q)(h:q→p:=by intro zk;refine c165z ?_;refine .c7 [2,3,7,11,12] ?_;exact zk):p:=h k
theorem c230z (k:q)(h:Hd q→p:=by intro zk;refine c12z ?_;refine .ca rfl rfl (F4 t36 htl (by omega) hfn) ?_;exact zk.1):p:=h ⟨k⟩
theorem c231z (k:q)(h:Hd q→p:=by intro zk;refine c144z ?_;refine .ca rfl rfl (c_signs _) ?_;exact zk.1):p:=h ⟨k⟩
theorem c232z (k:q)(h:q→p:=by intro zk;refine c199z ?_;refine .k 3 [(6,67),(8,69)] ?_;exact zk):p:=h k
theorem c233z (k:q)(h:q→p:=by intro zk;refine .ca rfl rfl (KE rfl) ?_;refine .k 8 [(52,113),(55,116),(62,123),(65,126)] ?_;refine .m [(62,123),(65,126)] ?_;refine c90z ?_;exact zk):p:=h k
theorem c234z (k:q)(h:q→p:=by intro zk;refine .k 8 [(1,183)] ?_;refine .k 8 [(9,191),(12,194)] ?_;refine c203z ?_;exact zk):p:=h k
theorem c235z (k:q)(h:Hd q→p:=by intro zk;refine .ca rfl rfl (c_num _ (by omega) (by omega)) ?_;refine c25z ?_;exact zk.1):p:=h ⟨k⟩
theorem c238z (k:q)(h:q→p:=by intro zk;refine .og z8 (mkH 13 [0,0,2,6,14,30,0,64,254,511,1023,2047,4095] [7,8,12] [] [0,128,384,4480] [0,1,2,3,4,5]) 0 ?_;refine .p 5 ?_;refine .rm [true] ?_;refine .rn [true] ?_;refine .en [true] [128,0] [_] ?_;refine .en [true,false] [384,128,0] [_] ?_;refine .p 3 ?_;refine .en [true,false,false] [4480,384,128,0] [_] ?_;exact zk):p:=h k
theorem c239z (k:q)(h:q→p:=by intro zk;refine .z ?_;refine c23z ?_;exact zk):p:=h k
theorem c240z (k:q)(h:q→p:=by intro zk;refine c115z ?_;refine .c7 [1,3,7,8,9] ?_;exact zk):p:=h k
theorem c241z (k:q)(h:q→p:=by intro zk;refine .c7 [0,1,5,11,12] ?_;refine .rz ?_;exact zk):p:=h k
theorem c242z (k:q)(h:q→p:=by intro zk;refine c48z ?_;refine .seq ?_;exact zk):p:=h k
theorem c243z (k:q)(h:q→p:=by intro zk;refine c9.rounds 2 ?_;refine c87z ?_;exact zk):p:=h k
theorem c244z (k:q)(h:q→p:=by intro zk;refine c39z ?_;refine c27z ?_;exact zk):p:=h k
theorem c245z (k:q)(h:q→p:=by intro zk;refine .c7 [2,7] ?_;refine c17z ?_;exact zk):p:=h k
theorem c246z (k:q)(h:q→p:=by intro zk;refine c5z ?_;refine .c7 [1,3,6,7,8] ?_;exact zk):p:=h k
theorem c247z (k:q)(h:q→p:=by intro zk;refine .F ?_;refine c2z ?_;exact zk):p:=h k
theorem c248z (k:q)(h:q→p:=by intro zk;refine c216z ?_;refine c247z ?_;exact zk):p:=h k
theorem c249z (k:q)(h:q→p:=by intro zk;refine .m [(14,17)] ?_;refine c4z ?_;exact zk):p:=h k
theorem c250z (k:q)(h:q→p:=by intro zk;refine .c7 [1,4,5,6,7,8,11] ?_;refine .zm [(1,83)] ?_;exact zk):p:=h k
theorem c253z (k:q)(h:Hd q→p:=by intro zk;refine c152z ?_;refine .c7 [0,5,7,8] ?_;refine c2z ?_;refine .r ?_;refine .e 2 ?_;refine .ca rfl rfl (XK L _ _ hX2 (by omega) (by omega)) ?_;refine .n ?_;exact zk.1):p:=h ⟨k⟩
theorem c254z (k:q)(h:Hd q→p:=by intro zk;refine c77z ?_;refine Ends.mk t18 ?_;exact zk.1):p:=h ⟨k⟩
theorem c255z (k:q)(h:q→p:=by intro zk;refine c164z ?_;refine c102z ?_;exact zk):p:=h k
theorem c256z (k:q)(h:q→p:=by intro zk;refine .c7 [6,7] ?_;refine .z ?_;exact zk):p:=h k
theorem c257z (k:q)(h:q→p:=by intro zk;refine .c7 [6,9] ?_;refine .z ?_;exact zk):p:=h k
theorem c259z (k:q)(h:q→p:=by intro zk;refine .z ?_;refine c66z ?_;exact zk):p:=h k
theorem c260z (k:q)(h:q→p:=by intro zk;refine .p 3 ?_;refine .rm [true] ?_;exact zk):p:=h k
theorem c261z (k:q)(h:q→p:=by intro zk;refine .em [true] [8,0] [_] ?_;refine .rm [true,false] ?_;exact zk):p:=h k
theorem c262z (k:q)(h:q→p:=by intro zk;refine c87z ?_;refine c139z ?_;exact zk):p:=h k
theorem c265z (k:q)(h:q→p:=by intro zk;refine .p 3 ?_;refine .en [true] [1024,0] [_] ?_;refine .en [true,false] [3072,1024,0] [_] ?_;refine .p 1 ?_;refine c145z ?_;exact zk):p:=h k
theorem c266z (k:q)(h:Hd q→p:=by intro zk;refine c227z ?_;refine c33z ?_;refine .c7 [1,6,16,17,18,19,20,21,55] ?_;exact zk.1):p:=h ⟨k⟩
theorem c267z (k:q)(h:q→p:=by intro zk;refine .c7 [0,2,3,6,11,12,13,14] ?_;refine .z ?_;exact zk):p:=h k
theorem c268z (k:q)(h:q→p:=by intro zk;refine .bz Tryz.f166 53 ?_;refine c108z ?_;exact zk):p:=h k
theorem c269z (k:q)(h:q→p:=by intro zk;refine .c7 [2,3,4,8] ?_;refine c16z ?_;refine c9.wC 9 rfl ?_;exact zk):p:=h k
theorem c270z (k:q)(h:q→p:=by intro zk;refine c5z ?_;refine c153z ?_;exact zk):p:=h k
theorem c271z (k:q)(h:q→p:=by intro zk;refine c2z ?_;refine c179z ?_;exact zk):p:=h k
theorem c272z (k:q)(h:q→p:=by intro zk;refine .seq ?_;refine .c7 [1,3,4] ?_;exact zk):p:=h k
theorem c273z (k:q)(h:q→p:=by intro zk;refine c25z ?_;refine .c7 [0,3,4] ?_;exact zk):p:=h k
theorem c274z (k:q)(h:q→p:=by intro zk;refine .c7 [3,5,9] ?_;refine c30z ?_;exact zk):p:=h k
theorem c275z (k:q)(h:q→p:=by intro zk;refine .c7 [1] ?_;refine .z ?_;exact zk):p:=h k
theorem c276z (k:q)(h:q→p:=by intro zk;refine .c7 [1,2,4,5,6,7,8,9] ?_;refine .rz ?_;exact zk):p:=h k
theorem c277z (k:q)(h:q→p:=by intro zk;refine c30z ?_;refine .ca rfl rfl (c_entR hu wc hmx) ?_;exact zk):p:=h k
theorem c278z (k:q)(h:q→p:=by intro zk;refine c12z ?_;refine .ca rfl rfl (c_tabR hu wc hmx) ?_;exact zk):p:=h k
theorem c279z (k:q)(h:q→p:=by intro zk;change c9 ..;refine .c7 [0,2,4,6,8,9,49] ?_;exact zk):p:=h k
theorem c280z (k:q)(h:q→p:=by intro zk;refine .F ?_;refine .c7 [0,2,3,6,11,12,13] ?_;exact zk):p:=h k
theorem c281z (k:q)(h:q→p:=by intro zk;refine .sb ?_;refine c95z ?_;exact zk):p:=h k
theorem c282z (k:q)(h:q→p:=by intro zk;refine c248z ?_;refine .F ?_;exact zk):p:=h k
theorem c283z (k:q)(h:q→p:=by intro zk;refine c79z ?_;refine .ca rfl rfl (c_ofR hu wc hmx) ?_;refine .n ?_;exact zk):p:=h k
theorem c284z (k:q)(h:q→p:=by intro zk;refine c9.A0 rfl ?_;refine c11z ?_;exact zk):p:=h k
theorem c285z (k:q)(h:q→p:=by intro zk;refine c9.seq ?_;refine c9.block ?_;exact zk):p:=h k
theorem c286z (k:q)(h:q→p:=by intro zk;refine .n ?_;refine .z ?_;exact zk):p:=h k
end
end Go
section
namespace Go.Ab
inductive AV where
 | any
 | bool (b:Bool)
 | int (k:IntKind) (n:Int)
 | str (s:ByteArray)
 | lV
 | ptr (β g off:Nat)
 | lT (cells:List AV) (off:Nat)
 | j4
 | own (β g off len:Nat)
 | vec (n:Nat) (cells:List AV)
 | fn (f:Fn) (first captured:List AV)
 | pU
 | iface (t:TypeId) (v:AV)
 | tJ
 | agg (cells:List AV)
 | tup (vs:List AV)
structure Blk where
 gen:Nat
 cQ:Bool
 elem:TypeId
 esz:Nat
 cells:List AV
 frz:Nat
abbrev c6:=List Blk
def emb:Value→AV
 | .bool b=>.bool b
 | .int k n=>.int k n
 | .string s=>.str s
 | .pointer none=>.lV
 | .slice none 0 0=>.j4
 | .nilFunc=>.pU
 | .nilIface=>.tJ
 | _=>.any
def ZE:Value→AV
 | .agg cs=>if cs.toList.all (·.oneCell') then .agg (cs.toList.map emb) else .any
 | .tuple vs=>.tup (vs.toList.map emb)
 | v=>emb v
inductive UD where
 | other
 | int (k:IntKind)
 | bool
 | str
 | slice (e:TypeId)
 | arr (n:Nat) (e:TypeId)
 | n7 (fields:List (Nat×TypeId)) (eq:Bool)
 | ptr (e:TypeId)
 | iface
 | func
deriving DecidableEq
structure TI where
 size:Nat
 bytes:Nat
 zero:List AV
 und:UD
instance:Inhabited TI:=⟨⟨0,0,[],.other⟩⟩
def UD.isAgg:UD→Bool
 | .n7 .. | .arr ..=>true
 | _=>false
def UD.known:UD→Bool
 | .other=>false
 | _=>true
structure Cfg where
 ti:TypeId→TI
 eJ:Nat→AV
 fns:FuncId→Option Func
 FI:TypeId→String→Option FuncId
 lU:FuncId→Bool
 cQ:TypeId→List Nat
def Cfg.ut (C:Cfg)(t:TypeId):UD:=(C.ti t).und
def Cfg.sz (C:Cfg)(t:TypeId):Nat:=(C.ti t).size
structure St where
 sl:List AV
 h:c6
def rho (C:Cfg)(sl:List AV):Operand→AV
 | .tmp t=>sl.getD t .any
 | .const v=>ZE v
 | .global g=>C.eJ g
 | .func f=>.fn (.func f) [] []
def AV.cellsOf:AV→List AV
 | .agg cs=>cs
 | v=>[v]
def AV.one:AV→Bool
 | .any | .agg _ | .tup _=>false
 | _=>true
def AV.storable:AV→Bool
 | .agg _=>true
 | v=>v.one
def H6 (h:c6)(p:AV)(n:Nat):Option (List AV):=
 match p with
 | .ptr β g off=>
  match h[β]? with
  | some b=>if b.gen=g∧b.cQ=false∧off+n≤b.cells.length then some ((b.cells.drop off).take n) else none
  | none=>none
 | .lT cells off=>if off+n≤cells.length then some ((cells.drop off).take n) else none
 | _=>none
def rd (h:c6)(esz:Nat):AV→Option (List AV)
 | .j4=>some []
 | .vec _ cells=>some cells
 | .own β g off len=>
  match h[β]? with
  | some b=>if b.gen=g then (if b.cQ then (if len=0 then some [] else none) else if b.esz=esz∧off+len*esz≤b.cells.length then some ((b.cells.drop off).take (len*esz)) else none) else none
  | none=>none
 | _=>none
def lenOf:AV→Option Nat
 | .j4=>some 0
 | .vec n _=>some n
 | .own _ _ _ n=>some n
 | .str s=>some s.size
 | _=>none
def H7 (cells:List AV)(off:Nat)(new:List AV):List AV:=cells.take off++new++cells.drop (off+new.length)
def pB (h:c6)(p:AV)(new:List AV):Option c6:=
 match p with
 | .ptr β g off=>
  match h[β]? with
  | some b=>if b.gen=g∧b.cQ=false∧off+new.length≤b.cells.length∧b.frz≤off then some (h.set β { b with cells:=H7 b.cells off new }) else none
  | none=>none
 | _=>none
def yC (place:Nat→Option (Nat×Nat))(cells:List AV):List (Nat×AV)→Option (List AV)
 | []=>some cells
 | (i,v)::rest=>
  match place i with
  | some (off,size)=>if v.cellsOf.length=size∧off+size≤cells.length∧v.storable then yC place (H7 cells off v.cellsOf) rest else none
  | none=>none
def X5 (C:Cfg)(t:TypeId)(parts:List (Nat×AV)):Option AV:=
 match C.ut t with
 | .n7 fields _=>(yC (fun i=>(fields[i]?).map fun f=>(f.1,C.sz f.2)) (C.ti t).zero parts).map .agg
 | .arr n e=>(yC (fun i=>if i<n then some (i*C.sz e,C.sz e) else none) (C.ti t).zero parts).map .agg
 | _=>none
def rQ (C:Cfg)(t:TypeId)(cs:List AV)(off:Nat):Option AV:=
 match C.ut t with
 | .other=>none
 | .n7 .. | .arr ..=>if off+C.sz t≤cs.length then some (.agg ((cs.drop off).take (C.sz t))) else none
 | _=>cs[off]?
def yN (p:AV)(n:Nat):Option AV:=
 match p with
 | .ptr β g off=>some (.ptr β g (off+n))
 | .lT cells off=>some (.lT cells (off+n))
 | _=>none
def sT (op:BinOp)(k:IntKind)(a b:Int):Option AV:=
 match op with
 | .add=>some (.int k (k.wrap (a+b)))
 | .sub=>some (.int k (k.wrap (a-b)))
 | .mul=>some (.int k (k.wrap (a*b)))
 | .quo=>if b=0 then none else some (.int k (k.wrap (a.tdiv b)))
 | .rem=>if b=0 then none else some (.int k (a.tmod b))
 | .and=>some (.int k (bits .and k a b))
 | .or=>some (.int k (bits .or k a b))
 | .xor=>some (.int k (bits .xor k a b))
 | .andNot=>some (.int k (bits .andNot k a b))
 | .shl=>if b<0 then none else some (.int k (k.wrap (a*2^(min b.toNat k.bits))))
 | .shr=>if b<0 then none else some (.int k (a.fdiv (2^(min b.toNat k.bits))))
 | .eql=>some (.bool (a==b))
 | .neq=>some (.bool (a != b))
 | .lss=>some (.bool (decide (a<b)))
 | .leq=>some (.bool (decide (a≤b)))
 | .gtr=>some (.bool (decide (a > b)))
 | .geq=>some (.bool (decide (a≥b)))
def nF (op:BinOp)(a b:ByteArray):Option AV:=
 match op with
 | .add=>if a.size+b.size≤9223372036854775807 then some (.str (a++b)) else none
 | .eql=>some (.bool (a.toList==b.toList))
 | .neq=>some (.bool (!(a.toList==b.toList)))
 | _=>none
def eqA (C:Cfg):Nat→TypeId→AV→AV→Option Bool
 | 0,_,_,_=>none
 | d+1,t,x,y=>
  match C.ut t,x,y with
  | .bool,.bool a,.bool b=>some (a==b)
  | .int _,.int k a,.int k' b=>if k=k' then some (a==b) else none
  | .str,.str a,.str b=>some (a.toList==b.toList)
  | .n7 fields true,.agg xs,.agg ys=>
   fields.foldr (fun f r=>match rQ C f.2 xs f.1,rQ C f.2 ys f.1 with
    | some u,some v=>match eqA C d f.2 u v with
     | some true=>r
     | some false=>some false
     | none=>none
    | _,_=>none) (some true)
  | _,_,_=>none
def zN:BinOp→Bool
 | .shl | .shr=>true
 | _=>false
def binA (C:Cfg)(op:BinOp)(t:TypeId)(x y:AV):Option AV:=
 match x,y with
 | .int k a,.int k' b=>if zN op=true∨k=k' then sT op k a b else none
 | .str a,.str b=>nF op a b
 | .bool a,.bool b=>match op with
  | .eql=>if C.ut t=.bool then some (.bool (a==b)) else none
  | .neq=>if C.ut t=.bool then some (.bool (a != b)) else none
  | _=>none
 | .agg xs,.agg ys=>match op with
  | .eql=>(eqA C 4 t (.agg xs) (.agg ys)).map .bool
  | .neq=>(eqA C 4 t (.agg xs) (.agg ys)).map fun b=>.bool (! b)
  | _=>none
 | _,_=>none
def unA (op:UnOp)(x:AV):Option AV:=
 match op,x with
 | .neg,.int k n=>some (.int k (k.wrap (0-n)))
 | .not,.bool b=>some (.bool (! b))
 | _,_=>none
def fA (x:Option AV)(dflt most:Nat):Option Nat:=
 match x with
 | none=>some dflt
 | some (.int _ i)=>if 0≤i∧i≤(most:Int) then some i.toNat else none
 | some _=>none
def vG (C:Cfg)(t:TypeId)(x:AV)(lo hi:Option AV):Option AV:=
 match C.ut t,x with
 | .str,.str s=>do
  let b ←fA hi s.size s.size;let a ←fA lo 0 b
  some (.str (s.extract a b))
 | .slice e,.vec n cells=>do
  let b ←fA hi n n;let a ←fA lo 0 b
  some (.vec (b-a) ((cells.drop (a*C.sz e)).take ((b-a)*C.sz e)))
 | .slice e,.own β g off n=>do
  let b ←fA hi n n;let a ←fA lo 0 b
  if a=0 then some (.own β g off b)
  else if a<b∧0<C.sz e then some (.own β g (off+a*C.sz e) (b-a))
  else if a=b then some (.vec 0 []) else none
 | .slice _,.j4=>do
  let b ←fA hi 0 0;let _ ←fA lo 0 b
  some .j4
 | _,_=>none
def minA:List AV→Option AV
 | [.int k a,.int _ b]=>some (.int k (if b<a then b else a))
 | _=>none
def maxA:List AV→Option AV
 | [.int k a,.int _ b]=>some (.int k (if b > a then b else a))
 | _=>none
def lenA (C:Cfg)(t:TypeId)(x:AV):Option AV:=
 match C.ut t,x with
 | .str,.str s=>some (.int .i64 s.size)
 | .slice _,.j4=>some (.int .i64 0)
 | .slice _,.vec n _=>some (.int .i64 n)
 | .slice _,.own _ _ _ n=>some (.int .i64 n)
 | .arr n _,_=>some (.int .i64 n)
 | _,_=>none
def capA (C:Cfg)(t:TypeId)(x:AV):Option AV:=
 match C.ut t,x with
 | .slice _,.j4=>some (.int .i64 0)
 | _,_=>none
def iL (C:Cfg)(ρ:Operand→AV)(c:Call):Option AV:=
 match c.callee with
 | .builtin .len=>match c.args.toList,c.argTypes.toList with
  | [x],[t]=>lenA C t (ρ x)
  | _,_=>none
 | .builtin .cap=>match c.args.toList,c.argTypes.toList with
  | [x],[t]=>capA C t (ρ x)
  | _,_=>none
 | .builtin .min=>match c.args.toList with
  | [x,y]=>minA [ρ x,ρ y]
  | _=>none
 | .builtin .max=>match c.args.toList with
  | [x,y]=>maxA [ρ x,ρ y]
  | _=>none
 | _=>none
def fC (C:Cfg)(ρ:Operand→AV)(o:Op):Option AV:=
 match o with
 | .move x | .assign x=>some (ρ x)
 | .pick c a b=>match ρ c with
  | .bool t=>some (if t then ρ a else ρ b)
  | _=>none
 | .build t parts=>X5 C t (parts.toList.map fun p=>(p.1,ρ p.2))
 | .nilCheck x=>match ρ x with
  | .ptr β g off=>some (.ptr β g off)
  | .lT cells off=>some (.lT cells off)
  | .fn (.func f) a b=>some (.fn (.func f) a b)
  | _=>none
 | .binOp op t x y _=>binA C op t (ρ x) (ρ y)
 | .unOp op _ x=>unA op (ρ x)
 | .convert s d x=>match C.ut s,C.ut d,ρ x with
  | .int _,.int k,.int _ n=>some (.int k (k.wrap n))
  | .str,.str,.str b=>some (.str b)
  | .str,.slice e,.str b=>if C.ut e=.int .u8 then some (.vec b.size (b.toList.map fun c=>.int .u8 c.toNat)) else none
  | _,_,_=>none
 | .makeInterface t x=>match C.ut t with
  | .iface=>none
  | .other=>none
  | _=>some (.iface t (ρ x))
 | .makeFunc f first captured=>some (.fn f (first.toList.map ρ) (captured.toList.map ρ))
 | .slice t x lo hi none=>vG C t (ρ x) (lo.map ρ) (hi.map ρ)
 | .fieldAddr t x f=>match C.ut t with
  | .n7 fields _=>match fields[f]? with
   | some fd=>if C.sz fd.2=0 then none else yN (ρ x) fd.1
   | none=>none
  | _=>none
 | .field t x f=>match C.ut t,ρ x with
  | .n7 fields _,.agg cs=>match fields[f]? with
   | some fd=>rQ C fd.2 cs fd.1
   | none=>none
  | _,_=>none
 | .indexAddr t x i=>match C.ut t,ρ i with
  | .slice e,.int _ n=>match ρ x with
   | .own β g off len=>if 0≤n∧n<(len:Int) then some (.ptr β g (off+n.toNat*C.sz e)) else none
   | .vec len cells=>if 0≤n∧n<(len:Int) then some (.lT cells (n.toNat*C.sz e)) else none
   | _=>none
  | .arr m e,.int _ n=>if 0≤n∧n<(m:Int) then yN (ρ x) (n.toNat*C.sz e) else none
  | _,_=>none
 | .index t x i=>match C.ut t,ρ x,ρ i with
  | .str,.str s,.int _ n=>if 0≤n then (match s[n.toNat]? with
    | some b=>some (.int .u8 b.toNat)
    | none=>none) else none
  | .arr m e,.agg cs,.int _ n=>if 0≤n∧n<(m:Int) then rQ C e cs (n.toNat*C.sz e) else none
  | _,_,_=>none
 | .extract t i=>match ρ t with
  | .tup vs=>vs[i]?
  | _=>none
 | .call c=>iL C ρ c
 | _=>none
def kH:List AV→Option (List UInt8)
 | []=>some []
 | .int .u8 n::r=>(kH r).map (UInt8.ofNat n.toNat::·)
 | _=>none
def DJ (C:Cfg)(h:c6)(t:TypeId)(p:AV):Option AV:=
 if (C.ut t).isAgg then (H6 h p (C.sz t)).map .agg
 else if (C.ut t).known then (match H6 h p 1 with
  | some [v]=>some v
  | _=>none) else none
def gV (C:Cfg)(ρ:Operand→AV)(h:c6)(o:Op):Option AV:=
 match o with
 | .load t x=>DJ C h t (ρ x)
 | .convert s d x=>match C.ut s,C.ut d with
  | .slice e,.str=>if C.ut e=.int .u8 then (match rd h 1 (ρ x),lenOf (ρ x) with
    | some cells,some m=>if cells.length=m then (kH cells).map fun l=>.str ⟨l.toArray⟩ else none
    | _,_=>none) else none
  | _,_=>none
 | _=>none
def zO (C:Cfg):List Nat→c6→List AV→Option (c6×List AV)
 | [],h,cs=>some (h,cs)
 | off::rest,h,cs=>match cs[off]? with
  | some .j4=>zO C rest (h++[⟨0,true,0,0,[],0⟩]) (cs.set off (.own h.length 0 0 0))
  | some _=>zO C rest h cs
  | none=>none
def pC (C:Cfg)(t:TypeId)(h:c6)(cs:List AV):Option (AV×c6):=
 if cs.length=C.sz t then
  match zO C (C.cQ t) h cs with
  | some (h',cs')=>some (.ptr h'.length 0 0,h'++[⟨0,false,t,C.sz t,cs',0⟩])
  | none=>none
 else none
def j9 (C:Cfg)(e:TypeId)(h:c6)(base src:AV):Option (AV×c6):=
 match rd h (C.sz e) src,lenOf src with
 | some new,some m=>
  if new.length=m*C.sz e∧0<C.sz e then
   match base with
   | .j4=>
    if m=0 then some (.j4,h)
    else if m≤maxLen∧m*(C.ti e).bytes≤140737488355328 then some (.own h.length 0 0 m,h++[⟨0,false,e,C.sz e,new,0⟩])
    else none
   | .own β g off len=>
    match h[β]? with
    | some b=>
     if b.gen=g∧off=0∧(len+m≤maxLen∧(len+m)*(C.ti e).bytes≤140737488355328) then
      if m=0 then some (base,h)
      else if b.cQ then (if len=0 then some (.own β (g+1) 0 m,h.set β ⟨g+1,false,e,C.sz e,new,b.frz⟩) else none)
      else if b.elem=e∧b.esz=C.sz e∧len*C.sz e≤b.cells.length∧b.frz≤len*C.sz e then
       if (len+m)*C.sz e≤b.cells.length then some (.own β g 0 (len+m),h.set β { b with cells:=H7 b.cells (len*C.sz e) new })
       else some (.own β (g+1) 0 (len+m),h.set β ⟨g+1,false,e,C.sz e,b.cells.take (len*C.sz e)++new,b.frz⟩)
      else none
     else none
    | none=>none
   | .vec n cells=>if m=0 then some (.vec n cells,h) else none
   | _=>none
  else none
 | _,_=>none
def ZF (C:Cfg)(e:TypeId)(h:c6)(d s:AV):Option (AV×c6):=
 match rd h (C.sz e) s,lenOf s,d with
 | some new,some m,.own β g off len=>if m=len∧new.length=len*C.sz e then (pB h (.ptr β g off) new).map fun h'=>(.int .i64 (len:Int),h') else none
 | _,_,_=>none
def R2 (C:Cfg)(e:TypeId)(h:c6)(base src:AV):Option (AV×c6):=
 match base,src with
 | .j4,.int _ n=>if 0<n∧n≤(maxLen:Int)∧0<C.sz e∧(C.ti e).zero.length=C.sz e∧n.toNat*(C.ti e).bytes≤140737488355328 then
   some (.own h.length 0 0 n.toNat,h++[⟨0,false,e,C.sz e,(List.replicate n.toNat (C.ti e).zero).flatten,0⟩]) else none
 | _,_=>none
def rR (b:Blk):Blk:=⟨b.gen+1,true,0,0,[],0⟩
def AV.isInt:AV→Bool
 | .int _ _=>true
 | _=>false
def nZ (C:Cfg)(ρ:Operand→AV)(h:c6)(o:Op):Option (AV×c6):=
 match o with
 | .alloc t=>if (C.ut t).known then pC C t h (C.ti t).zero else none
 | .box t x=>if (ρ x).storable then pC C t h (ρ x).cellsOf else none
 | .buildSlice t len parts=>match C.ut t with
  | .slice e=>if len*C.sz e≤16777216∧0<C.sz e then (match yC (fun i=>if i<len then some (i*C.sz e,C.sz e) else none) ((List.replicate len (C.ti e).zero).flatten) (parts.toList.map fun p=>(p.1,ρ p.2)) with
    | some cells=>if cells.length=len*C.sz e∧len≤maxLen then some (.own h.length 0 0 len,h++[⟨0,false,e,C.sz e,cells,0⟩]) else none
    | none=>none) else none
  | _=>none
 | .makeSlice t l c=>match C.ut t,ρ l,ρ c with
  | .slice e,.int _ n,.int _ m=>if n=m∧0≤n∧(C.ti e).bytes*n≤281474976710656∧n≤(maxLen:Int)∧0<C.sz e∧(C.ti e).zero.length=C.sz e then
    some (.own h.length 0 0 n.toNat,h++[⟨0,false,e,C.sz e,(List.replicate n.toNat (C.ti e).zero).flatten,0⟩]) else none
  | _,_,_=>none
 | .store t p x=>if (ρ x).storable=true∧(ρ x).cellsOf.length=C.sz t∧(C.ut t).known=true then (pB h (ρ p) (ρ x).cellsOf).map fun h'=>(.any,h') else none
 | .convert s d x=>match C.ut s,ρ x with
  | .slice e,.own β g 0 len=>if s=d∧C.ut e=.int .u8 then (match h[β]? with
    | some b=>if b.gen=g∧b.cQ=false∧len≤b.cells.length∧b.cells.all AV.isInt=true then some (.vec len (b.cells.take len),h.set β (rR b)) else none
    | none=>none) else none
  | _,_=>none
 | .call c=>match c.callee with
  | .builtin .append=>match c.args.toList,c.argTypes.toList with
   | [b,x],[t,u]=>match C.ut t with
    | .slice e=>if t=u then j9 C e h (ρ b) (ρ x) else (match C.ut u with
     | .int _=>R2 C e h (ρ b) (ρ x)
     | _=>none)
    | _=>none
   | _,_=>none
  | .builtin .copy=>match c.args.toList,c.argTypes.toList with
   | [b,x],[t,u]=>match C.ut t with
    | .slice e=>if t=u then ZF C e h (ρ b) (ρ x) else none
    | _=>none
   | _,_=>none
  | _=>none
 | _=>none
def v8 (C:Cfg)(ρ:Operand→AV)(h:c6)(o:Op):Option (AV×c6):=
 match fC C ρ o with
 | some x=>some (x,h)
 | none=>match gV C ρ h o with
  | some x=>some (x,h)
  | none=>nZ C ρ h o
def aH (C:Cfg)(ρ:Operand→AV)(c:Call):Option (FuncId×List AV):=
 match c.callee with
 | .value f=>match ρ f with
  | .fn (.func id) first captured=>some (id,first++c.args.toList.map ρ++captured)
  | _=>none
 | .invoke recv name=>match ρ recv with
  | .iface t v=>match C.FI t name with
   | some id=>some (id,v::c.args.toList.map ρ)
   | none=>none
  | _=>none
 | .builtin _=>none
def p9 (C:Cfg)(f:FuncId):Bool:=
 match C.fns f with
 | some fn=>fn.body.isSome
 | none=>false
def aX (ops:Array Oper)(sl:List AV)(o:Oper):Option Bool:=
 match o.guard with
 | none=>some true
 | some (j,want)=>match (ops[j]?).bind (·.dst) with
  | some d=>match sl.getD d .any with
   | .bool b=>some (b==want)
   | .tup []=>some false
   | _=>none
  | none=>none
def mX (C:Cfg)(sl:List AV)(h:c6):ResultVar→Option AV
 | .tmp t=>some (sl.getD t .any)
 | .cell a t=>DJ C h t (sl.getD a .any)
def lE (C:Cfg)(sl:List AV)(h:c6):List ResultVar→Option (List AV)
 | []=>some []
 | r::rest=>match mX C sl h r,lE C sl h rest with
  | some x,some xs=>some (x::xs)
  | _,_=>none
def yD (C:Cfg)(rs:Array ResultVar)(sl:List AV)(h:c6):Option AV:=
 match lE C sl h rs.toList with
 | some [x]=>some x
 | some xs=>some (.tup xs)
 | none=>none
abbrev Map:=Nat→Nat×Nat
def X6 (h:c6)(φ:Map)(w:World)(k:Nat):Prop:=
 k<w.heap.size∧∀(β:Nat) (b:Blk),h[β]?=some b→b.cQ=false→(φ β).1≠k
def eQ (h:c6)(φ:Map)(w:World)(k j:Nat):Prop:=
 k<w.heap.size∧∀(β:Nat) (b:Blk),h[β]?=some b→b.cQ=false→(φ β).1=k→j<b.frz
variable {h:c6}{φ:Map}{w:World}
theorem X6.X7 {k:Nat}(hf:X6 h φ w k)(j:Nat):eQ h φ w k j:=⟨hf.1,fun β b hb hv he=>absurd he (hf.2 β b hb hv)⟩
inductive PRel (w:World)(S:Nat→Nat→Prop):Value→AV→Prop
 | any (v:Value):PRel w S v .any
 | bool (b:Bool):PRel w S (.bool b) (.bool b)
 | int (k:IntKind) (n:Int):PRel w S (.int k n) (.int k n)
 | str (s:ByteArray):PRel w S (.string s) (.str s)
 | lV:PRel w S (.pointer none) .lV
 | j4:PRel w S (.slice none 0 0) .j4
 | pU:PRel w S .nilFunc .pU
 | tJ:PRel w S .nilIface .tJ
 | func (f:Fn):PRel w S (.func f #[] #[]) (.fn f [] [])
 | yE (a:Option Addr) (c:Nat):PRel w S (.slice a 0 c) (.vec 0 [])
 | vec (b o n c:Nat) (cells:List AV) (vs:List Value) (hS:∀j,j<vs.length→S b (o+j)) (hnc:n≤c) (hlen:vs.length=cells.length)
   (hc:∀j v,vs[j]?=some v→w.cell? ⟨b,o+j,none⟩=some v∧v.oneCell'=true)
   (hr:∀(j:Nat) v x,vs[j]?=some v→cells[j]?=some x→PRel w S v x):PRel w S (.slice (some ⟨b,o,none⟩) n c) (.vec n cells)
 | lT (b o off:Nat) (cells:List AV) (vs:List Value) (hS:∀j,j<vs.length→S b (o+j)) (hlen:vs.length=cells.length)
   (hc:∀j v,vs[j]?=some v→w.cell? ⟨b,o+j,none⟩=some v∧v.oneCell'=true)
   (hr:∀(j:Nat) v x,vs[j]?=some v→cells[j]?=some x→PRel w S v x):PRel w S (.pointer (some ⟨b,o+off,none⟩)) (.lT cells off)
variable {w':World}{v:Value}{x:AV}
theorem PRel.mono {S S':Nat→Nat→Prop}(hk:∀k j,S k j→w'.cell? ⟨k,j,none⟩=w.cell? ⟨k,j,none⟩∧S' k j)(hp:PRel w S v x):PRel w' S' v x:=by
 induction hp with
 | any v=>exact .any v
 | bool b=>exact .bool b
 | int k n=>exact .int k n
 | str s=>exact .str s
 | lV=>exact .lV
 | j4=>exact .j4
 | pU=>exact .pU
 | tJ=>exact .tJ
 | func f=>exact .func f
 | yE a c=>exact .yE a c
 | vec b o n c cells vs hS hnc hlen hc hr ih=>
  exact .vec b o n c cells vs (fun j hj=>(hk b _ (hS j hj)).2) hnc hlen (fun j v hv=>⟨(hk b _ (hS j (List.getElem?_eq_some_iff.1 hv).1)).1.trans (hc j v hv).1,(hc j v hv).2⟩) ih
 | lT b o off cells vs hS hlen hc hr ih=>
  exact .lT b o off cells vs (fun j hj=>(hk b _ (hS j hj)).2) hlen (fun j v hv=>⟨(hk b _ (hS j (List.getElem?_eq_some_iff.1 hv).1)).1.trans (hc j v hv).1,(hc j v hv).2⟩) ih
inductive Rel (h:c6)(φ:Map)(w:World):Value→AV→Prop
 | pure {v:Value} {x:AV} (hp:PRel w (eQ h φ w) v x):Rel h φ w v x
 | ptr (β g off bl:Nat) (b:Blk) (hb:h[β]?=some b) (hg:g≤b.gen) (hv:g=b.gen→b.cQ=false→bl=(φ β).1):Rel h φ w (.pointer (some ⟨bl,off,none⟩)) (.ptr β g off)
 | own (β g off len cap:Nat) (ad:Option Addr) (b:Blk) (hb:h[β]?=some b) (hg:g≤b.gen) (hlc:len≤cap) (hcm:cap≤maxLen) (had:0<len→∃bl,ad=some ⟨bl,off,none⟩)
   (hn:g=b.gen→b.cQ=true→ad=none∧cap=0)
   (hv:g=b.gen→b.cQ=false→ad=some ⟨(φ β).1,off,none⟩∧(off=0→cap*b.esz=(φ β).2)):Rel h φ w (.slice ad len cap) (.own β g off len)
 | fn (f:Fn) (a c:Array Value) (xs ys:List AV) (ha:a.size=xs.length) (hc:c.size=ys.length)
   (hra:∀(j:Nat) v x,a[j]?=some v→xs[j]?=some x→Rel h φ w v x) (hrc:∀(j:Nat) v x,c[j]?=some v→ys[j]?=some x→Rel h φ w v x):Rel h φ w (.func f a c) (.fn f xs ys)
 | iface (t:TypeId) (v:Value) (x:AV) (hr:Rel h φ w v x):Rel h φ w (.iface t v) (.iface t x)
 | agg (a:Array Value) (xs:List AV) (ha:a.size=xs.length) (h1:∀(j:Nat) v,a[j]?=some v→v.oneCell'=true)
   (hr:∀(j:Nat) v x,a[j]?=some v→xs[j]?=some x→Rel h φ w v x):Rel h φ w (.agg a) (.agg xs)
 | tup (a:Array Value) (xs:List AV) (ha:a.size=xs.length)
   (hr:∀(j:Nat) v x,a[j]?=some v→xs[j]?=some x→Rel h φ w v x):Rel h φ w (.tuple a) (.tup xs)
structure Pic (G:Nat→AV)(B:Nat)(h:c6)(φ:Map)(w:World):Prop where
 blk:∀(β:Nat) (b:Blk),h[β]?=some b→b.cQ=false→∃cur,w.heap[(φ β).1]?=some (.cells cur b.elem (0,0))∧cur.size=(φ β).2∧b.cells.length≤cur.size∧
  (∀(j:Nat) v x,cur[j]?=some v→b.cells[j]?=some x→v.oneCell'=true∧Rel h φ w v x)
 inj:∀(β β':Nat) (b b':Blk),h[β]?=some b→h[β']?=some b'→b.cQ=false→b'.cQ=false→(φ β).1=(φ β').1→β=β'
 base:∀(β:Nat) (b:Blk),h[β]?=some b→b.cQ=false→B≤(φ β).1
 cQ:∀(β:Nat) (b:Blk),h[β]?=some b→b.cQ=true→b.cells=[]
 room:B≤w.heap.size
 eJ:∀g,PRel w (eQ h φ w) (.pointer (some ⟨g,0,none⟩)) (G g)
structure Ev (h:c6)(φ:Map)(w:World)(h':c6)(φ':Map)(w':World):Prop where
 os:w'.os=w.os
 tape:w'.tape=w.tape
 output:w'.output=w.output
 size:w.heap.size≤w'.heap.size
 lU:∀k,X6 h φ w k→w'.heap[k]?=w.heap[k]?∧X6 h' φ' w' k
 cells:∀k j,eQ h φ w k j→w'.cell? ⟨k,j,none⟩=w.cell? ⟨k,j,none⟩∧eQ h' φ' w' k j
 mY:h.length≤h'.length
 Gs:∀(β:Nat) (b b':Blk),h[β]?=some b→h'[β]?=some b'→b.gen≤b'.gen∧(b.gen=b'.gen→φ' β=φ β∧b'.cQ=b.cQ∧b'.esz=b.esz)
theorem Ev.refl (h:c6)(φ:Map)(w:World):Ev h φ w h φ w:=
 ⟨rfl,rfl,rfl,Nat.le_refl _,fun _ hk=>⟨rfl,hk⟩,fun _ _ hk=>⟨rfl,hk⟩,Nat.le_refl _,fun β b b' h1 h2=>by rw[h1]at h2;cases h2;exact ⟨Nat.le_refl _,fun _=>⟨rfl,rfl,rfl⟩⟩⟩
variable {h':c6}{φ':Map}
theorem Ev.trans {h'':c6}{φ'':Map}{w'':World}(a:Ev h φ w h' φ' w')(b:Ev h' φ' w' h'' φ'' w''):Ev h φ w h'' φ'' w'':=by
 refine ⟨b.os.trans a.os,b.tape.trans a.tape,b.output.trans a.output,Nat.le_trans a.size b.size,fun k hk=>?_,fun k j hk=>?_,Nat.le_trans a.mY b.mY,fun β x z hx hz=>?_⟩
 ·obtain ⟨h1,h2⟩:=a.lU k hk;obtain ⟨h3,h4⟩:=b.lU k h2;exact ⟨h3.trans h1,h4⟩
 ·obtain ⟨h1,h2⟩:=a.cells k j hk;obtain ⟨h3,h4⟩:=b.cells k j h2;exact ⟨h3.trans h1,h4⟩
 ·have hlt:β<h'.length:=Nat.lt_of_lt_of_le (List.getElem?_eq_some_iff.1 hx).1 a.mY;have hy:h'[β]?=some h'[β]:=List.getElem?_eq_getElem hlt;obtain ⟨g1,e1⟩:=a.Gs β x _ hx hy;obtain ⟨g2,e2⟩:=b.Gs β _ z hy hz;refine ⟨Nat.le_trans g1 g2,fun hg=>?_⟩;obtain ⟨p1,p2,p3⟩:=e1 (by omega);obtain ⟨q1,q2,q3⟩:=e2 (by omega);exact ⟨q1.trans p1,q2.trans p2,q3.trans p3⟩
theorem Ev.H8 (a:Ev h φ w h' φ' w')(hp:PRel w (eQ h φ w) v x):PRel w' (eQ h' φ' w') v x:=
 hp.mono a.cells
theorem Ev.rel (a:Ev h φ w h' φ' w')(hp:Rel h φ w v x):Rel h' φ' w' v x:=by
 induction hp with
 | pure hp=>exact .pure (a.H8 hp)
 | ptr β g off bl b hb hg hv=>
  have hlt:β<h'.length:=Nat.lt_of_lt_of_le (List.getElem?_eq_some_iff.1 hb).1 a.mY;have hy:h'[β]?=some h'[β]:=List.getElem?_eq_getElem hlt;obtain ⟨g1,e1⟩:=a.Gs β b _ hb hy;refine .ptr β g off bl _ hy (Nat.le_trans hg g1) fun he hvv=>?_;obtain ⟨p1,p2,_⟩:=e1 (by omega);rw[p1];exact hv (by omega) (by rw[←p2];exact hvv)
 | own β g off len cap ad b hb hg hlc hcm had hn hv=>
  have hlt:β<h'.length:=Nat.lt_of_lt_of_le (List.getElem?_eq_some_iff.1 hb).1 a.mY;have hy:h'[β]?=some h'[β]:=List.getElem?_eq_getElem hlt;obtain ⟨g1,e1⟩:=a.Gs β b _ hb hy;refine .own β g off len cap ad _ hy (Nat.le_trans hg g1) hlc hcm had (fun he hvv=>?_) fun he hvv=>?_
  ·obtain ⟨p1,p2,_⟩:=e1 (by omega);exact hn (by omega) (by rw[←p2];exact hvv)
  ·obtain ⟨p1,p2,p3⟩:=e1 (by omega);rw[p1,p3];exact hv (by omega) (by rw[←p2];exact hvv)
 | fn f a' c xs ys ha hc _ _ iha ihc=>exact .fn f a' c xs ys ha hc iha ihc
 | iface t v x _ ih=>exact .iface t v x ih
 | agg a' xs ha h1 _ ih=>exact .agg a' xs ha h1 ih
 | tup a' xs ha _ ih=>exact .tup a' xs ha ih
theorem Ev.iI (hg:w.grownBy w' none):Ev h φ w h φ w':=
 ⟨hg.os,hg.tape,hg.output,hg.size,fun k hk=>⟨hg.block k hk.1 (by simp),Nat.lt_of_lt_of_le hk.1 hg.size,hk.2⟩,fun k j hk=>⟨World.cell?_of_block (hg.block k hk.1 (by simp)),Nat.lt_of_lt_of_le hk.1 hg.size,hk.2⟩,Nat.le_refl _,
  fun β b b' h1 h2=>by rw[h1]at h2;cases h2;exact ⟨Nat.le_refl _,fun _=>⟨rfl,rfl,rfl⟩⟩⟩
variable {G:Nat→AV}{B:Nat}
theorem Pic.lt (i:Pic G B h φ w){β:Nat}{b:Blk}(hb:h[β]?=some b)(hv:b.cQ=false):(φ β).1<w.heap.size:=by obtain ⟨cur,hc,_⟩:=i.blk β b hb hv;exact (Array.getElem?_eq_some_iff.1 hc).1
theorem Pic.iI (i:Pic G B h φ w)(hg:w.grownBy w' none):Pic G B h φ w':=by have ev:Ev h φ w h φ w':=Ev.iI hg;refine ⟨fun β b hb hv=>?_,i.inj,i.base,i.cQ,Nat.le_trans i.room hg.size,fun g=>ev.H8 (i.eJ g)⟩;obtain ⟨cur,h1,h2,h3,h4⟩:=i.blk β b hb hv;exact ⟨cur,(hg.block _ (Array.getElem?_eq_some_iff.1 h1).1 (by simp)).trans h1,h2,h3,fun j v x a c=>⟨(h4 j v x a c).1,ev.rel (h4 j v x a c).2⟩⟩
theorem rS {G:Nat→AV}{B:Nat}{h:c6}{φ:Map}{w w':World}(i:Pic G B h φ w){t esz:Nat}{cells:List AV}{cur:Array Value}
  (hg:w.grownBy w' none) (k:Nat) (hk:w.heap.size≤k) (hw:w'.heap[k]?=some (.cells cur t (0,0))) (hl:cells.length≤cur.size)
  (hr:∀(j:Nat) v x,cur[j]?=some v→cells[j]?=some x→v.oneCell'=true∧Rel h φ w v x) :
  Pic G B (h++[⟨0,false,t,esz,cells,0⟩]) (fun β=>if β=h.length then (k,cur.size) else φ β) w'∧
  Ev h φ w (h++[⟨0,false,t,esz,cells,0⟩]) (fun β=>if β=h.length then (k,cur.size) else φ β) w':=by
 have hne:∀{β:Nat} {b:Blk},h[β]?=some b→β≠h.length:=fun hb he=>by have:=(List.getElem?_eq_some_iff.1 hb).1;omega
 have look:∀{β:Nat} {b:Blk},(h++[(⟨0,false,t,esz,cells,0⟩:Blk)])[β]?=some b→(h[β]?=some b∧β≠h.length)∨(β=h.length∧b=⟨0,false,t,esz,cells,0⟩):=by
  intro β b hb;rcases Nat.lt_trichotomy β h.length with hl | he | hl
  ·rw[List.getElem?_append_left hl]at hb;exact .inl ⟨hb,by omega⟩
  ·subst he;simp at hb;exact .inr ⟨rfl,hb.symm⟩
  ·rw[List.getElem?_eq_none t65]at hb;cases hb
 have ev:Ev h φ w (h++[⟨0,false,t,esz,cells,0⟩]) (fun β=>if β=h.length then (k,cur.size) else φ β) w':=by
  refine ⟨hg.os,hg.tape,hg.output,hg.size,fun j hj=>⟨hg.block j hj.1 (by simp),Nat.lt_of_lt_of_le hj.1 hg.size,fun β b hb hv=>?_⟩,fun j m hj=>⟨World.cell?_of_block (hg.block j hj.1 (by simp)),Nat.lt_of_lt_of_le hj.1 hg.size,fun β b hb hv=>?_⟩,by simp,fun β b b' h1 h2=>?_⟩
  ·rcases look hb with ⟨hb',hn⟩ | ⟨rfl,rfl⟩
   ·simp only[hn,if_false];exact hj.2 β b hb' hv
   ·have:=hj.1;simp only[if_true];omega
  ·rcases look hb with ⟨hb',hn⟩ | ⟨rfl,rfl⟩
   ·simp only[hn,if_false];exact hj.2 β b hb' hv
   ·have:=hj.1;simp only[if_true];omega
  ·rcases look h2 with ⟨hb',hn⟩ | ⟨rfl,rfl⟩
   ·rw[h1]at hb';cases hb';exact ⟨Nat.le_refl _,fun _=>by simp[hn]⟩
   ·exact absurd rfl (hne h1)
 refine ⟨⟨fun β b hb hv=>?_,fun β β' b b' hb hb' hv hv' he=>?_,fun β b hb hv=>?_,fun β b hb hv=>?_,Nat.le_trans i.room hg.size,fun g=>ev.H8 (i.eJ g)⟩,ev⟩
 ·rcases look hb with ⟨hb',hn⟩ | ⟨rfl,rfl⟩
  ·simp only[hn,if_false];obtain ⟨c,h1,h2,h3,h4⟩:=i.blk β b hb' hv;exact ⟨c,(hg.block _ (Array.getElem?_eq_some_iff.1 h1).1 (by simp)).trans h1,h2,h3,fun j v x a c=>⟨(h4 j v x a c).1,ev.rel (h4 j v x a c).2⟩⟩
  ·simp only[if_true];exact ⟨cur,hw,rfl,hl,fun j v x a c=>⟨(hr j v x a c).1,ev.rel (hr j v x a c).2⟩⟩
 ·rcases look hb with ⟨h1,n1⟩ | ⟨rfl,rfl⟩<;>rcases look hb' with ⟨h2,n2⟩ | ⟨rfl,rfl⟩
  ·simp only[n1,n2,if_false]at he;exact i.inj β β' b b' h1 h2 hv hv' he
  ·simp only[n1,if_false,if_true]at he;have:=i.lt h1 hv;omega
  ·simp only[n2,if_false,if_true]at he;have:=i.lt h2 hv';omega
  ·rfl
 ·rcases look hb with ⟨hb',hn⟩ | ⟨rfl,rfl⟩
  ·simp only[hn,if_false];exact i.base β b hb' hv
  ·simp only[if_true];exact Nat.le_trans i.room hk
 ·rcases look hb with ⟨hb',hn⟩ | ⟨rfl,rfl⟩
  ·exact i.cQ β b hb' hv
  ·cases hv
theorem pW (i:Pic G B h φ w) :
  Pic G B (h++[⟨0,true,0,0,[],0⟩]) φ w∧Ev h φ w (h++[⟨0,true,0,0,[],0⟩]) φ w:=by
 have look:∀{β:Nat} {b:Blk},(h++[(⟨0,true,0,0,[],0⟩:Blk)])[β]?=some b→(h[β]?=some b)∨(β=h.length∧b=⟨0,true,0,0,[],0⟩):=by
  intro β b hb;rcases Nat.lt_trichotomy β h.length with hl | he | hl
  ·rw[List.getElem?_append_left hl]at hb;exact .inl hb
  ·subst he;simp at hb;exact .inr ⟨rfl,hb.symm⟩
  ·rw[List.getElem?_eq_none t65]at hb;cases hb
 have ev:Ev h φ w (h++[⟨0,true,0,0,[],0⟩]) φ w:=by
  refine ⟨rfl,rfl,rfl,Nat.le_refl _,fun j hj=>⟨rfl,hj.1,fun β b hb hv=>?_⟩,fun j m hj=>⟨rfl,hj.1,fun β b hb hv=>?_⟩,by simp,fun β b b' h1 h2=>?_⟩
  ·rcases look hb with hb' | ⟨rfl,rfl⟩
   ·exact hj.2 β b hb' hv
   ·cases hv
  ·rcases look hb with hb' | ⟨rfl,rfl⟩
   ·exact hj.2 β b hb' hv
   ·cases hv
  ·rcases look h2 with hb' | ⟨rfl,rfl⟩
   ·rw[h1]at hb';cases hb';exact ⟨Nat.le_refl _,fun _=>⟨rfl,rfl,rfl⟩⟩
   ·have:=(List.getElem?_eq_some_iff.1 h1).1;omega
 refine ⟨⟨fun β b hb hv=>?_,fun β β' b b' hb hb' hv hv' he=>?_,fun β b hb hv=>?_,fun β b hb hv=>?_,i.room,fun g=>ev.H8 (i.eJ g)⟩,ev⟩
 ·rcases look hb with hb' | ⟨rfl,rfl⟩
  ·obtain ⟨c,h1,h2,h3,h4⟩:=i.blk β b hb' hv;exact ⟨c,h1,h2,h3,fun j v x a c=>⟨(h4 j v x a c).1,ev.rel (h4 j v x a c).2⟩⟩
  ·cases hv
 ·rcases look hb with h1 | ⟨rfl,rfl⟩<;>rcases look hb' with h2 | ⟨rfl,rfl⟩
  ·exact i.inj β β' b b' h1 h2 hv hv' he
  ·cases hv'
  ·cases hv
  ·rfl
 ·rcases look hb with hb' | ⟨rfl,rfl⟩
  ·exact i.base β b hb' hv
  ·cases hv
 ·rcases look hb with hb' | ⟨rfl,rfl⟩
  ·exact i.cQ β b hb' hv
  ·rfl
structure TOk (P:Program)(C:Cfg)(t:TypeId):Prop where
 und:match C.ut t with
  | .other=>True
  | .int k=>P.underlying t=some (.int k)
  | .bool=>P.underlying t=some .bool
  | .str=>P.underlying t=some .string
  | .slice e=>P.underlying t=some (.slice e)∧(C.ut e).known=true
  | .arr n e=>P.underlying t=some (.array n e)∧(C.ut e).known=true∧n*C.sz e=C.sz t
  | .n7 fields eq=>∃fs:Array Field,P.underlying t=some (.struct fs)∧fs.toList.map (fun f=>(f.offset,f.type))=fields∧(∀f∈fields,(C.ut f.2).known=true∧f.1+C.sz f.2≤C.sz t)∧
    (eq=true→P.stoodInHeld t=false∧P.eqGuardType P.depth t=false∧∀f∈fs.toList,f.name ≠ "_")
  | .ptr e=>P.underlying t=some (.pointer e)
  | .iface=>∃ms,P.underlying t=some (.interface ms)
  | .func=>∃a b c,P.underlying t=some (.func a b c)
 info:(C.ut t).known=true→∃i z,P.info? t=some i∧i.zero=some z∧i.size=C.sz t∧i.bytes=(C.ti t).bytes∧z.cells.toList.map emb=(C.ti t).zero∧(C.ti t).zero.length=C.sz t∧∀v∈z.cells.toList,v.oneCell'=true
structure Good (P:Program)(C:Cfg):Prop where
 ty:∀t,TOk P C t
 fns:∀f fn,C.fns f=some fn→P.funcs[f]?=some fn∧(fn.name == "runtime.NumGoroutine")=false
 FI:∀t name f,C.FI t name=some f→∀(v:Value) (w:World),(method (P.types.size+Made.depth) t v name).run P w=.ok (f,v) w∧(nilAhead (P.types.size+Made.depth) t v name).run P w=.ok (some false) w
 mixed:P.follows .mixedOrders=true
section
variable {h:c6}{φ:Map}{w:World}{v:Value}
theorem Rel.z5 {k:IntKind}{n:Int}(r:Rel h φ w v (.int k n)):v=.int k n:=by cases r with | pure hp=>cases hp;rfl
theorem Rel.bP {b:Bool}(r:Rel h φ w v (.bool b)):v=.bool b:=by cases r with | pure hp=>cases hp;rfl
theorem Rel.eX {s:ByteArray}(r:Rel h φ w v (.str s)):v=.string s:=by cases r with | pure hp=>cases hp;rfl
theorem Rel.zP (r:Rel h φ w v .lV):v=.pointer none:=by cases r with | pure hp=>cases hp;rfl
theorem Rel.eK (r:Rel h φ w v .j4):v=.slice none 0 0:=by cases r with | pure hp=>cases hp;rfl
variable {xs:List AV}
theorem Rel.kR (r:Rel h φ w v (.agg xs)):∃a:Array Value,v=.agg a∧a.size=xs.length∧(∀(j:Nat) v,a[j]?=some v→v.oneCell'=true)∧(∀(j:Nat) v x,a[j]?=some v→xs[j]?=some x→Rel h φ w v x):=by
 cases r with
 | pure hp=>cases hp
 | agg a _ ha h1 hr=>exact ⟨a,rfl,ha,h1,hr⟩
theorem Rel.nG (r:Rel h φ w v (.tup xs)):∃a:Array Value,v=.tuple a∧a.size=xs.length∧(∀(j:Nat) v x,a[j]?=some v→xs[j]?=some x→Rel h φ w v x):=by
 cases r with
 | pure hp=>cases hp
 | tup a _ ha hr=>exact ⟨a,rfl,ha,hr⟩
variable {cells:List AV}
theorem Rel.nH {n:Nat}(r:Rel h φ w v (.vec n cells)):PRel w (eQ h φ w) v (.vec n cells):=by cases r with | pure hp=>exact hp
variable {off:Nat}
theorem Rel.oA (r:Rel h φ w v (.lT cells off)):PRel w (eQ h φ w) v (.lT cells off):=by cases r with | pure hp=>exact hp
theorem Rel.rT {β g:Nat}(r:Rel h φ w v (.ptr β g off)):∃(bl:Nat) (b:Blk),v=.pointer (some ⟨bl,off,none⟩)∧h[β]?=some b∧g≤b.gen∧(g=b.gen→b.cQ=false→bl=(φ β).1):=by
 cases r with
 | pure hp=>cases hp
 | ptr _ _ _ bl b hb hg hv=>exact ⟨bl,b,rfl,hb,hg,hv⟩
theorem Rel.jV {β g len:Nat}(r:Rel h φ w v (.own β g off len)):∃(ad:Option Addr) (cap:Nat) (b:Blk),v=.slice ad len cap∧h[β]?=some b∧g≤b.gen∧len≤cap∧cap≤maxLen∧
  (0<len→∃bl,ad=some ⟨bl,off,none⟩)∧(g=b.gen→b.cQ=true→ad=none∧cap=0)∧
  (g=b.gen→b.cQ=false→ad=some ⟨(φ β).1,off,none⟩∧(off=0→cap*b.esz=(φ β).2)):=by
 cases r with
 | pure hp=>cases hp
 | own _ _ _ _ cap ad b hb hg hlc hcm had hn hv=>exact ⟨ad,cap,b,rfl,hb,hg,hlc,hcm,had,hn,hv⟩
theorem Rel.WJ {f:Fn}{ys:List AV}(r:Rel h φ w v (.fn f xs ys)):∃a c:Array Value,v=.func f a c∧a.size=xs.length∧c.size=ys.length∧
  (∀(j:Nat) v x,a[j]?=some v→xs[j]?=some x→Rel h φ w v x)∧(∀(j:Nat) v x,c[j]?=some v→ys[j]?=some x→Rel h φ w v x):=by
 cases r with
 | pure hp=>cases hp;exact ⟨#[],#[],rfl,rfl,rfl,by simp,by simp⟩
 | fn _ a c _ _ ha hc hra hrc=>exact ⟨a,c,rfl,ha,hc,hra,hrc⟩
variable {x:AV}
theorem Rel.H9 {t:TypeId}(r:Rel h φ w v (.iface t x)):∃u,v=.iface t u∧Rel h φ w u x:=by
 cases r with
 | pure hp=>cases hp
 | iface _ u _ hr=>exact ⟨u,rfl,hr⟩
theorem Rel.jW (v:Value):Rel h φ w v .any:=.pure (.any v)
theorem Rel.bY (k:IntKind)(n:Int):Rel h φ w (.int k n) (.int k n):=.pure (.int k n)
theorem Rel.bW (b:Bool):Rel h φ w (.bool b) (.bool b):=.pure (.bool b)
theorem Rel.pX (s:ByteArray):Rel h φ w (.string s) (.str s):=.pure (.str s)
theorem Rel.one (r:Rel h φ w v x)(hx:x.one=true):v.oneCell'=true:=by
 cases r with
 | pure hp=>cases hp<;>first | rfl | simp[AV.one]at hx
 | ptr=>rfl
 | own=>rfl
 | fn=>rfl
 | iface=>rfl
 | agg=>simp[AV.one]at hx
 | tup=>simp[AV.one]at hx
theorem Rel.cellsOf (r:Rel h φ w v x)(hx:x.storable=true):v.cells.size=x.cellsOf.length∧
  (∀(j:Nat) u y,v.cells[j]?=some u→x.cellsOf[j]?=some y→u.oneCell'=true∧Rel h φ w u y):=by
 by_cases hagg:∃xs,x=.agg xs
 ·obtain ⟨xs,rfl⟩:=hagg;obtain ⟨a,rfl,ha,h1,hr⟩:=r.kR;exact ⟨ha,fun j u y hu hy=>⟨h1 j u hu,hr j u y hu hy⟩⟩
 ·have hone:x.one=true:=by cases x<;>first | exact hx | exact absurd ⟨_,rfl⟩ hagg
  have h1:=r.one hone;have hx':x.cellsOf=[x]:=by cases x<;>first | rfl | exact absurd ⟨_,rfl⟩ hagg
  have hv':v.cells=#[v]:=by cases v<;>first | rfl | simp[Value.oneCell']at h1
  rw[hx',hv'];refine ⟨rfl,fun j u y hu hy=>?_⟩
  match j with
  | 0=>
   simp at hu hy;subst hu hy;exact ⟨h1,r⟩
  | j+1=>simp at hy
end
theorem zQ (w:World)(S:Nat→Nat→Prop)(v:Value):PRel w S v (emb v):=by
 cases v with
 | pointer a=>cases a with
  | none=>exact .lV
  | some a=>exact .any _
 | slice a n c=>
  cases a with
  | none=>cases n with
   | zero=>cases c with
    | zero=>exact .j4
    | succ c=>exact .any _
   | succ n=>exact .any _
  | some a=>exact .any _
 | bool b=>exact .bool b
 | int k n=>exact .int k n
 | string s=>exact .str s
 | nilFunc=>exact .pU
 | nilIface=>exact .tJ
 | _=>exact .any _
theorem zR {h:c6}{φ:Map}{w:World}(v:Value):Rel h φ w v (ZE v):=by
 cases v with
 | agg cs=>
  simp only[ZE];split
  ·rename_i hall;refine .agg cs _ (by simp) (fun j v hv=>?_) (fun j v x hv hx=>?_)
   ·exact (List.all_eq_true.1 hall) v (Array.mem_toList_iff.2 (Array.mem_of_getElem? hv))
   ·simp[hv]at hx;subst hx;exact .pure (zQ _ _ _)
  ·exact .jW _
 | tuple vs=>
  refine .tup vs _ (by simp) (fun j v x hv hx=>?_);simp[hv]at hx;subst hx;exact .pure (zQ _ _ _)
 | _=>exact .pure (zQ _ _ _)
structure kS (h:c6)(φ:Map)(w:World)(a:Act)(sl:List AV):Prop where
 size:sl.length≤a.tmps.size
 rel:∀t,Rel h φ w (a.tmps.getD t undef) (sl.getD t .any)
 nI:a.defers=[]
variable {a:Act}{sl:List AV}
theorem kS.ev {h h':c6}{φ φ':Map}{w w':World}(s:kS h φ w a sl)(e:Ev h φ w h' φ' w'):kS h' φ' w' a sl:=
 ⟨s.size,fun t=>e.rel (s.rel t),s.nI⟩
def eY (sl:List AV):Option Tmp→AV→List AV
 | some d,x=>sl.set d x
 | none,_=>sl
variable {x:AV}
theorem kS.put {h:c6}{φ:Map}{w:World}(s:kS h φ w a sl)(d:Option Tmp){v:Value}(r:Rel h φ w v x):kS h φ w (a.put d v) (eY sl d x):=by
 cases d with
 | none=>exact s
 | some d=>
  refine ⟨by simpa [eY,Act.put] using s.size,fun t=>?_,s.nI⟩;simp only[eY,Act.put];by_cases ht:d=t
  ·subst ht;by_cases hd:d<sl.length
   ·have hd':d<a.tmps.size:=Nat.lt_of_lt_of_le hd s.size;simpa [List.getD,Array.getD_eq_getD_getElem?,hd,hd'] using r
   ·have:(sl.set d x).getD d .any=.any:=by simp[List.getD,List.getElem?_eq_none (by simpa using Nat.le_of_not_lt hd:(sl.set d x).length≤d)]
    rw[this];exact .jW _
  ·have e1:(sl.set d x).getD t .any=sl.getD t .any:=by simp[List.getD,List.getElem?_set_ne ht]
   have e2:(a.tmps.setIfInBounds d v).getD t undef=a.tmps.getD t undef:=by simp[Array.getD_eq_getD_getElem?,Array.getElem?_setIfInBounds_ne ht]
   rw[e1,e2];exact s.rel t
theorem kS.eval {G:Nat→AV}{C:Cfg}{B:Nat}{h:c6}{φ:Map}{w:World}(s:kS h φ w a sl)(i:Pic G B h φ w)(hG:G=C.eJ)(x:Operand):Rel h φ w (a.eval x) (rho C sl x):=by
 cases x with
 | tmp t=>exact s.rel t
 | const v=>exact zR v
 | global g=>subst hG;exact .pure (i.eJ g)
 | func f=>exact .pure (.func (.func f))
theorem bJ (w:World):w.grownBy w none:=⟨rfl,rfl,rfl,Nat.le_refl _,fun _ _ _=>rfl⟩
theorem sU (w:World):w.grownBy w.drew none:=⟨rfl,rfl,rfl,Nat.le_refl _,fun _ _ _=>rfl⟩
theorem pY {a b c:World}(x:a.grownBy b none)(y:b.grownBy c none):a.grownBy c none:=
 ⟨y.os.trans x.os,y.tape.trans x.tape,y.output.trans x.output,Nat.le_trans x.size y.size,fun k hk hn=>(y.block k (Nat.lt_of_lt_of_le hk x.size) hn).trans (x.block k hk hn)⟩
def OkV (P:Program)(h:c6)(φ:Map)(w:World)(s:Sem Value)(x:AV):Prop:=
 ∃v w',s.run P w=.ok v w'∧w.grownBy w' none∧Rel h φ w' v x
theorem OkV.same {P:Program}{h:c6}{φ:Map}{w:World}{s:Sem Value}{x:AV}{v:Value}(hs:s.run P w=.ok v w)(r:Rel h φ w v x):OkV P h φ w s x:=
 ⟨v,w,hs,bJ w,r⟩
def s6 (h:c6)(φ:Map)(w:World)(cs:List Value)(xs:List AV):Prop:=
 cs.length=xs.length∧∀(j:Nat) v x,cs[j]?=some v→xs[j]?=some x→v.oneCell'=true∧Rel h φ w v x
section
variable {P:Program}{C:Cfg}{h:c6}{φ:Map}{w:World}
theorem Good.known (g:Good P C){t:TypeId}(hk:(C.ut t).known=true):∃i z,P.info? t=some i∧i.zero=some z∧i.size=C.sz t∧i.bytes=(C.ti t).bytes∧z.cells.toList.map emb=(C.ti t).zero∧(C.ti t).zero.length=C.sz t∧∀v∈z.cells.toList,v.oneCell'=true:=
 (g.ty t).info hk
theorem run_sizeOf (g:Good P C){t:TypeId}(hk:(C.ut t).known=true)(w:World):(sizeOf t).run P w=.ok (C.sz t) w:=by obtain ⟨i,z,hi,hz,hs,_⟩:=g.known hk;simp[sizeOf,typeInfo,hi,hs]
theorem u7 {t:TypeId}{d:TypeDesc}(hu:P.underlying t=some d)(w:World):(underlying t).run P w=.ok d w:=run_underlying hu w
theorem nJ (g:Good P C){t:TypeId}{fields:List (Nat×TypeId)}{eq:Bool}(hu:C.ut t=.n7 fields eq):∃fs:Array Field,P.underlying t=some (.struct fs)∧fs.toList.map (fun f=>(f.offset,f.type))=fields∧(∀f∈fields,(C.ut f.2).known=true∧f.1+C.sz f.2≤C.sz t)∧
    (eq=true→P.stoodInHeld t=false∧P.eqGuardType P.depth t=false∧∀f∈fs.toList,f.name ≠ "_"):=by
 have:=(g.ty t).und;rw[hu]at this;exact this
theorem bM (g:Good P C){t e:TypeId}(hu:C.ut t=.slice e):P.underlying t=some (.slice e)∧(C.ut e).known=true:=by have:=(g.ty t).und;rw[hu]at this;exact this
theorem zS (g:Good P C){t e:TypeId}{n:Nat}(hu:C.ut t=.arr n e):P.underlying t=some (.array n e)∧(C.ut e).known=true∧n*C.sz e=C.sz t:=by have:=(g.ty t).und;rw[hu]at this;exact this
theorem nK (g:Good P C){t:TypeId}(hu:C.ut t=.str):P.underlying t=some .string:=by have:=(g.ty t).und;rw[hu]at this;exact this
theorem pD (g:Good P C){t:TypeId}{k:IntKind}(hu:C.ut t=.int k):P.underlying t=some (.int k):=by have:=(g.ty t).und;rw[hu]at this;exact this
theorem PB (g:Good P C){t:TypeId}(hu:C.ut t=.bool):P.underlying t=some .bool:=by have:=(g.ty t).und;rw[hu]at this;exact this
theorem pZ (g:Good P C){t:TypeId}(hk:(C.ut t).known=true)(w:World):(isAgg t).run P w=.ok (C.ut t).isAgg w:=by
 have hu:=(g.ty t).und;revert hu hk;cases C.ut t with
 | other=>intro hk;cases hk
 | int k=>intro _ hu;simp[isAgg,u7 hu,UD.isAgg]
 | bool=>intro _ hu;simp[isAgg,u7 hu,UD.isAgg]
 | str=>intro _ hu;simp[isAgg,u7 hu,UD.isAgg]
 | slice e=>intro _ hu;simp[isAgg,u7 hu.1,UD.isAgg]
 | arr n e=>intro _ hu;simp[isAgg,u7 hu.1,UD.isAgg]
 | n7 fs eq=>intro _ hu;obtain ⟨_,hu,_⟩:=hu;simp[isAgg,u7 hu,UD.isAgg]
 | ptr e=>intro _ hu;simp[isAgg,u7 hu,UD.isAgg]
 | iface=>intro _ hu;obtain ⟨_,hu⟩:=hu;simp[isAgg,u7 hu,UD.isAgg]
 | func=>intro _ hu;obtain ⟨_,_,_,hu⟩:=hu;simp[isAgg,u7 hu,UD.isAgg]
theorem FP (l:List Value):∀(k off:Nat) (cs:Array Value),((l.zipIdx k).foldl (fun (cs:Array Value) (p:Value×Nat)=>cs.setIfInBounds (off+p.2) p.1) cs).size=cs.size:=by
 induction l with
 | nil=>intro k off cs;rfl
 | cons v l ih=>intro k off cs;simp only[List.zipIdx_cons,List.foldl_cons];rw[ih];simp
theorem PC (l:List Value):∀(k off:Nat) (cs:Array Value) (j:Nat),off+k+l.length≤cs.size→
  ((l.zipIdx k).foldl (fun (cs:Array Value) (p:Value×Nat)=>cs.setIfInBounds (off+p.2) p.1) cs)[j]?=if off+k≤j∧j<off+k+l.length then l[j-(off+k)]? else cs[j]?:=by
 induction l with
 | nil=>intro k off cs j _;simp;intro h1 h2;omega
 | cons v l ih=>
  intro k off cs j hl;simp only[List.zipIdx_cons,List.foldl_cons];simp only[List.length_cons]at hl;rw[ih (k+1) off _ j (by simp;omega)];by_cases h1:off+(k+1)≤j∧j<off+(k+1)+l.length
  ·rw[if_pos h1,if_pos t65];rw[show j-(off+k)=(j-(off+(k+1)))+1 from by omega,List.getElem?_cons_succ]
  ·rw[if_neg h1];by_cases h2:j=off+k
   ·subst h2;rw[if_pos (by simp)];have:off+k<cs.size:=by omega
    simp[this]
   ·rw[if_neg t65,Array.getElem?_setIfInBounds_ne (by omega)]
theorem pE (cells:List AV)(off:Nat)(new:List AV)(hl:off+new.length≤cells.length):(H7 cells off new).length=cells.length:=by simp[H7];omega
theorem X8 (cells:List AV)(off:Nat)(new:List AV)(j:Nat)(hl:off+new.length≤cells.length) :
  (H7 cells off new)[j]?=if off≤j∧j<off+new.length then new[j-off]? else cells[j]?:=by
 unfold H7;by_cases h1:j<off
 ·rw[if_neg (by omega),List.append_assoc,List.getElem?_append_left t65,List.getElem?_take_of_lt h1]
 ·by_cases h2:j<off+new.length
  ·rw[if_pos (by omega),List.getElem?_append_left t65,List.getElem?_append_right t65];congr 1;simp;omega
  ·rw[if_neg (by omega),List.getElem?_append_right t65,List.getElem?_drop];congr 1;simp;omega
theorem s6.H7 {cs:List Value}{xs:List AV}{new:List AV}{v:Array Value}{off:Nat}(c:s6 h φ w cs xs)(n:s6 h φ w v.toList new)(hl:off+new.length≤xs.length) :
  s6 h φ w ((v.zipIdx.foldl (fun (cs:Array Value) (p:Value×Nat)=>cs.setIfInBounds (off+p.2) p.1) cs.toArray)).toList (H7 xs off new):=by
 have hv:v.zipIdx.foldl (fun (cs:Array Value) (p:Value×Nat)=>cs.setIfInBounds (off+p.2) p.1) cs.toArray=(v.toList.zipIdx 0).foldl (fun (cs:Array Value) (p:Value×Nat)=>cs.setIfInBounds (off+p.2) p.1) cs.toArray:=by rw[←Array.foldl_toList];congr 1;simp[Array.toList_zipIdx]
 rw[hv];have hsz:off+0+v.toList.length≤cs.toArray.size:=by rw[n.1];simp[c.1];omega
 refine ⟨by rw[Array.length_toList,FP,pE _ _ _ hl];simpa using c.1,fun j u x hu hx=>?_⟩;rw[Array.getElem?_toList,PC _ _ _ _ _ hsz]at hu;rw[X8 _ _ _ _ hl]at hx;rw[n.1]at hu;by_cases hj:off≤j∧j<off+new.length
 ·rw[if_pos (by omega)]at hu;rw[if_pos hj]at hx;simp only[Nat.add_zero]at hu;exact n.2 _ _ _ hu hx
 ·rw[if_neg (by omega)]at hu;rw[if_neg hj]at hx;exact c.2 j u x t149 hx
theorem qA (place:Nat→Option (Nat×Nat))(place':Nat→Option (Nat×Nat))(hp:∀i p,place i=some p→place' i=some p) :
  ∀(parts:List (Nat×AV)) (parts':List (Nat×Value)) (xs ys:List AV) (cs:List Value),s6 h φ w cs xs→parts'.length=parts.length→
   (∀(j:Nat) p p',parts[j]?=some p→parts'[j]?=some p'→p'.1=p.1∧Rel h φ w p'.2 p.2)→yC place xs parts=some ys→
   ∃cs':Array Value,Instr.fill place' cs.toArray parts'=some cs'∧s6 h φ w cs'.toList ys
 | [],[],xs,ys,cs,hc,_,_,hf=>by simp only[yC,Option.some.injEq]at hf;subst hf;exact ⟨cs.toArray,rfl,by simpa using hc⟩
 | [],_::_,_,_,_,_,hl,_,_=>by simp at hl
 | _::_,[],_,_,_,_,hl,_,_=>by simp at hl
 | (i,x)::parts,(i',v)::parts',xs,ys,cs,hc,hl,hr,hf=>by
  obtain ⟨rfl,hrv⟩:i'=i∧Rel h φ w v x:=hr 0 _ _ rfl rfl;simp only[yC]at hf;cases hpl:place i' with
  | none=>simp[hpl]at hf
  | some p=>
   obtain ⟨off,size⟩:=p;simp only[hpl]at hf;split at hf
   ·rename_i hcond;obtain ⟨h1,h2,h3⟩:=hcond;obtain ⟨hsz,hcells⟩:=hrv.cellsOf h3;have hn:s6 h φ w v.cells.toList x.cellsOf:=⟨by simpa using hsz,fun j u y hu hy=>hcells j u y t149 hy⟩;have hover:=hc.H7 (off:=off) hn (by omega);obtain ⟨cs',hfill,hrel⟩:=qA place place' hp parts parts' _ ys _ hover t189 (fun j p p' a b=>hr (j+1) p p' a b) hf;refine ⟨cs',?_,hrel⟩;simp only[Instr.fill,hp _ _ hpl];rw[if_neg]
    ·simpa using hfill
    ·have:=hc.1;simp;omega
   ·cases hf
theorem oB (g:Good P C){t:TypeId}(hk:(C.ut t).known=true):∃i z,P.info? t=some i∧i.zero=some z∧i.size=C.sz t∧i.bytes=(C.ti t).bytes∧s6 h φ w z.cells.toList (C.ti t).zero∧(C.ti t).zero.length=C.sz t:=by obtain ⟨i,z,hi,hz,hs,hb,he,hl,h1⟩:=g.known hk;refine ⟨i,z,hi,hz,hs,hb,⟨by rw[←he];simp,fun j v x hv hx=>?_⟩,hl⟩;rw[←he]at hx;simp[hv]at hx;subst hx;exact ⟨h1 v (List.mem_of_getElem? hv),.pure (zQ _ _ _)⟩
theorem vH (g:Good P C):∀(fs:List Field),(∀f∈fs,(C.ut f.type).known=true)→
  fs.mapM (fun f=>(P.info? f.type).map fun i=>(f.offset,i.size))=some (fs.map fun f=>(f.offset,C.sz f.type))
 | [],_=>rfl
 | f::fs,hk=>by obtain ⟨i,z,hi,_,hs,_⟩:=g.known (hk f (by simp));simp only[List.mapM_cons,hi,Option.map_some,hs,Option.bind_eq_bind,Option.bind_some,vH g fs (fun x hx=>hk x (by simp[hx])),Option.pure_def,List.map_cons]
theorem s6.agg {cs:Array Value}{xs:List AV}(c:s6 h φ w cs.toList xs):Rel h φ w (.agg cs) (.agg xs):=by
 refine .agg cs xs (by simpa using c.1) (fun j v hv=>?_) (fun j v x hv hx=>(c.2 j v x t158 hx).2);have hj:j<xs.length:=by have:=(Array.getElem?_eq_some_iff.1 hv).1;have:=c.1;simp at this;omega
 exact (c.2 j v xs[j] t158 (List.getElem?_eq_getElem hj)).1
theorem PD (g:Good P C){t:TypeId}{parts:List (Nat×AV)}{parts':Array (Nat×Value)}{x:AV}(hl:parts'.size=parts.length)
  (hr:∀(j:Nat) p p',parts[j]?=some p→parts'[j]?=some p'→p'.1=p.1∧Rel h φ w p'.2 p.2) (hb:X5 C t parts=some x):OkV P h φ w (Instr.build t parts') x:=by
 unfold X5 at hb;split at hb
 ·rename_i fields eq hu;obtain ⟨fs,hfu,hff,hfk,_⟩:=nJ g hu;obtain ⟨i,z,hi,hz,hs,_,hzr,_⟩:=oB (h:=h) (φ:=φ) (w:=w) g (t:=t) (by rw[hu];rfl);obtain ⟨ys,hys,rfl⟩:=Option.map_eq_some_iff.1 hb;have hpl:=vH g fs.toList (fun f hf=>(hfk (f.offset,f.type) (by rw[←hff];exact List.mem_map.2 ⟨f,hf,rfl⟩)).1);obtain ⟨cs',h1,h2⟩:=qA (h:=h) (φ:=φ) (w:=w) _ (fun j=>(fs.toList.map fun f=>(f.offset,C.sz f.type)).toArray[j]?) (fun j p hp=>by rw[←hff]at hp;simpa using hp) parts parts'.toList _ ys _ hzr t189 (fun j p p' a b=>hr j p p' a (by simpa using b)) hys
  exact .same (run_build w t parts' cs' (by simp only[Program.built,hi,hfu,hz,hpl];simpa using h1)) h2.agg
 ·rename_i n e hu;obtain ⟨hfu,hek,_⟩:=zS g hu;obtain ⟨i,z,hi,hz,hs,_,hzr,_⟩:=oB (h:=h) (φ:=φ) (w:=w) g (t:=t) (by rw[hu];rfl);obtain ⟨ie,ze,hie,_,hse,_⟩:=g.known hek;obtain ⟨ys,hys,rfl⟩:=Option.map_eq_some_iff.1 hb;obtain ⟨cs',h1,h2⟩:=qA (h:=h) (φ:=φ) (w:=w) _ (fun i=>some (i*ie.size,ie.size)) (fun j p hp=>by
   split at hp
   ·rw[hse];exact hp
   ·cases hp) parts parts'.toList _ ys _ hzr t189 (fun j p p' a b=>hr j p p' a (by simpa using b)) hys
  exact .same (run_build w t parts' cs' (by simp only[Program.built,hi,hfu,hz,hie];simpa using h1)) h2.agg
 ·cases hb
end
section
variable {P:Program}{C:Cfg}{h:c6}{φ:Map}{w:World}
theorem FQ {op:BinOp}{t:TypeId}{k k':IntKind}{a b:Int}{x:AV}(hk:zN op=true∨k=k')(hx:sT op k a b=some x):OkV P h φ w (binOp op t (.int k a) (.int k' b)) x:=by
 cases op<;>simp only[sT]at hx<;>simp only[zN,Bool.false_eq_true,false_or]at hk;case add=>cases hx;subst hk;exact .same (by simp[binOp,Op.intArith]) (.bY _ _)
 case sub=>cases hx;subst hk;exact .same (by simp[binOp,Op.intArith]) (.bY _ _)
 case mul=>cases hx;subst hk;exact .same (by simp[binOp,Op.intArith]) (.bY _ _)
 case quo=>
  split at hx
  ·cases hx
  ·rename_i hb;cases hx;subst hk;exact .same (by simp[binOp,Op.intDiv,hb]) (.bY _ _)
 case rem=>
  split at hx
  ·cases hx
  ·rename_i hb;cases hx;subst hk;exact .same (by simp[binOp,Op.intDiv,hb]) (.bY _ _)
 case and=>cases hx;subst hk;exact .same (by simp only[binOp,ne_eq,not_true,if_false];exact congrArg (fun s:Sem Value=>s.run P w) (intBits_and k a b)) (.bY _ _)
 case or=>cases hx;subst hk;exact .same (by simp only[binOp,ne_eq,not_true,if_false];exact congrArg (fun s:Sem Value=>s.run P w) (intBits_or k a b)) (.bY _ _)
 case xor=>cases hx;subst hk;exact .same (by simp only[binOp,ne_eq,not_true,if_false];exact congrArg (fun s:Sem Value=>s.run P w) (intBits_xor k a b)) (.bY _ _)
 case andNot=>cases hx;subst hk;exact .same (by simp only[binOp,ne_eq,not_true,if_false];exact congrArg (fun s:Sem Value=>s.run P w) (intBits_andNot k a b)) (.bY _ _)
 case shl=>
  split at hx
  ·cases hx
  ·rename_i hb;cases hx;exact .same (by simp[binOp,Op.shift,hb]) (.bY _ _)
 case shr=>
  split at hx
  ·cases hx
  ·rename_i hb;cases hx;exact .same (by simp[binOp,Op.shift,hb]) (.bY _ _)
 case eql=>cases hx;subst hk;exact .same t168 (.bW _)
 case neq=>cases hx;subst hk;exact .same t168 (.bW _)
 case lss=>cases hx;subst hk;exact .same t168 (.bW _)
 case leq=>cases hx;subst hk;exact .same t168 (.bW _)
 case gtr=>cases hx;subst hk;exact .same t168 (.bW _)
 case geq=>cases hx;subst hk;exact .same t168 (.bW _)
theorem FR {op:BinOp}{t:TypeId}{a b:ByteArray}{x:AV}(hx:nF op a b=some x):OkV P h φ w (binOp op t (.string a) (.string b)) x:=by
 cases op<;>simp only[nF]at hx;case add=>
  split at hx
  ·rename_i hb;cases hx;have h':¬((9223372036854775807:Int)<(a.size:Int)+(b.size:Int)):=by omega
   exact .same (by simp[binOp,Op.stringOp,h']) (.pX _)
  ·cases hx
 case eql=>cases hx;exact .same (by simp[binOp,Op.stringOp]) (.bW _)
 case neq=>cases hx;exact .same (by simp[binOp,Op.stringOp]) (.bW _)
 all_goals cases hx
theorem tU (g:Good P C){t:TypeId}{cs:Array Value}{xs:List AV}{off:Nat}{x:AV}(hsz:cs.size=xs.length)(h1:∀(j:Nat) v,cs[j]?=some v→v.oneCell'=true)
  (hr:∀(j:Nat) v y,cs[j]?=some v→xs[j]?=some y→Rel h φ w v y) (hp:rQ C t xs off=some x):∃v,(part t cs off).run P w=.ok v w∧Rel h φ w v x:=by
 by_cases hagg:(C.ut t).isAgg=true
 ·have hk:(C.ut t).known=true:=by revert hagg;cases C.ut t<;>simp[UD.isAgg,UD.known]
  have hp':off+C.sz t≤xs.length∧.agg ((xs.drop off).take (C.sz t))=x:=by unfold rQ at hp;revert hp hagg;cases C.ut t<;>simp[UD.isAgg]
  obtain ⟨hle,rfl⟩:=hp';refine ⟨.agg (cs.extract off (off+C.sz t)),by simp[part,pZ g hk,hagg,run_sizeOf g hk],.agg _ _ t65 (fun j v hv=>?_) (fun j v y hv hy=>?_)⟩
  ·rw[Array.getElem?_extract]at hv;split at hv
   ·exact h1 _ v hv
   ·cases hv
  ·rw[Array.getElem?_extract]at hv;split at hv
   ·rename_i hlt;rw[List.getElem?_take,List.getElem?_drop]at hy;split at hy
    ·exact hr _ v y hv hy
    ·cases hy
   ·cases hv
 ·have hk:(C.ut t).known=true:=by unfold rQ at hp;revert hp;cases C.ut t<;>simp[UD.known]
  have hp':xs[off]?=some x:=by unfold rQ at hp;revert hp hagg;cases C.ut t<;>simp[UD.isAgg]
  have hlt:off<cs.size:=by rw[hsz];exact (List.getElem?_eq_some_iff.1 hp').1
  have hv:cs[off]?=some cs[off]:=Array.getElem?_eq_getElem hlt;exact ⟨cs[off],by simp[part,pZ g hk,hagg,hv],hr _ _ _ hv hp'⟩
theorem zT (g:Good P C):∀(d n:Nat) (t:TypeId) (x y:AV) (u v:Value) (r:Bool),eqA C d t x y=some r→Rel h φ w u x→Rel h φ w v y→d≤n→(Op.equalIn n t u v).run P w=.ok r w
 | 0,_,_,_,_,_,_,_,he,_,_,_=>by simp[eqA]at he
 | d+1,0,_,_,_,_,_,_,_,_,_,hn=>by omega
 | d+1,n+1,t,x,y,u,v,r,he,ru,rv,hn=>by
  simp only[eqA]at he;split at he
  ·rename_i a b hu;cases ru.bP;cases rv.bP;cases he;simp[Op.equalIn,u7 (PB g hu)]
  ·rename_i k0 k a k' b hu;split at he
   ·rename_i hk;subst hk;cases ru.z5;cases rv.z5;cases he;simp[Op.equalIn,u7 (pD g hu)]
   ·cases he
  ·rename_i a b hu;cases ru.eX;cases rv.eX;cases he;simp[Op.equalIn,u7 (nK g hu),beq_toListBytes]
  ·rename_i fields xs ys hu;obtain ⟨fs,hfu,hff,hfk,heq⟩:=nJ g hu;obtain ⟨hst,_,hname⟩:=heq rfl;obtain ⟨cu,rfl,hsu,hu1,hru⟩:=ru.kR;obtain ⟨cv,rfl,hsv,hv1,hrv⟩:=rv.kR;have hst':P.stoodInHeld t=false:=hst;simp only[Op.equalIn,Sem.run_bind,u7 hfu,Result.andThen_ok,run_program,hst',Bool.false_eq_true,if_false];have key:∀(l:List Field),(∀f∈l,f∈fs.toList)→(l.map fun f=>(f.offset,f.type)).foldr (fun f r=>match rQ C f.2 xs f.1,rQ C f.2 ys f.1 with
     | some u,some v=>match eqA C d f.2 u v with
      | some true=>r
      | some false=>some false
      | none=>none
     | _,_=>none) (some true)=some r→
     (forIn l ((none,()):Option Bool×Unit) fun f _=>do
      if f.name ≠ "_" then
       if (!(←Op.equalIn n f.type (←part f.type cu f.offset) (←part f.type cv f.offset)))=true then pure (ForInStep.done (some false,()))
       else pure (ForInStep.yield (none,()))
      else pure (ForInStep.yield (none,())):Sem (Option Bool×Unit)).run P w=.ok (if r then none else some false,()) w:=by
    intro l;induction l with
    | nil=>intro _ hr;simp at hr;subst hr;rfl
    | cons f l ih=>
     intro hin hr;simp only[List.map_cons,List.foldr_cons]at hr;have hf:=hin f (by simp);have hnm:f.name ≠ "_" := hname f hf;cases hp1:rQ C f.type xs f.offset with
     | none=>simp[hp1]at hr
     | some p1=>
      cases hp2:rQ C f.type ys f.offset with
      | none=>simp[hp1,hp2]at hr
      | some p2=>
       simp only[hp1,hp2]at hr;obtain ⟨v1,e1,r1⟩:=tU g hsu hu1 hru hp1;obtain ⟨v2,e2,r2⟩:=tU g hsv hv1 hrv hp2;cases hq:eqA C d f.type p1 p2 with
       | none=>simp[hq]at hr
       | some q=>
        have e3:=zT g d n f.type p1 p2 v1 v2 q hq r1 r2 (by omega);cases q with
        | false=>
         simp only[hq,Option.some.injEq]at hr;subst hr;simp[List.forIn_cons,hnm,e1,e2,e3]
        | true=>
         simp only[hq]at hr;have:=ih (fun x hx=>hin x (by simp[hx])) hr;simp only[List.forIn_cons,hnm,ne_eq,not_false_eq_true,if_true,Sem.run_bind,e1,e2,e3,Result.andThen_ok,Bool.not_true,Bool.false_eq_true,if_false,Sem.run_pure];exact this
   have:=key fs.toList (fun f hf=>hf) (by rw[hff];exact he);rw[←Array.forIn_toList];rw[this];cases r<;>rfl
  ·cases he
end
section
variable {P:Program}{C:Cfg}{h:c6}{φ:Map}{w:World}
theorem binA_ok (g:Good P C){op:BinOp}{t:TypeId}{x y z:AV}{u v:Value}{ox oy:Operand}(hx:binA C op t x y=some z)(ru:Rel h φ w u x)(rv:Rel h φ w v y) :
  OkV P h φ w (do eqGuard op t ox oy u v;binOp op t u v) z:=by
 unfold binA at hx;split at hx
 ·split at hx
  ·rename_i hk;cases ru.z5;cases rv.z5;obtain ⟨v',w',h1,h2,h3⟩:=FQ (P:=P) (h:=h) (φ:=φ) (w:=w) (t:=t) hk hx;exact ⟨v',w',by rw[eqGuard_at_int];exact h1,h2,h3⟩
  ·cases hx
 ·cases ru.eX;cases rv.eX;obtain ⟨v',w',h1,h2,h3⟩:=FR (P:=P) (h:=h) (φ:=φ) (w:=w) (t:=t) hx;exact ⟨v',w',by rw[eqGuard_at_string];exact h1,h2,h3⟩
 ·cases ru.bP;cases rv.bP;split at hx
  ·split at hx
   ·rename_i a b _ hu;cases hx;refine .same (v:=.bool (a==b)) ?_ (.bW _);have he:=zT (h:=h) (φ:=φ) (w:=w) g 1 10000 t (.bool a) (.bool b) (.bool a) (.bool b) (a==b) (by simp[eqA,hu]) (.bW a) (.bW b) (by omega);rw[eqGuard_at_bool,show binOp .eql t (.bool a) (.bool b)=(do pure (.bool (←Op.equalIn 10000 t (.bool a) (.bool b)))) from rfl];simp only[Sem.run_bind,Sem.run_pure,Result.andThen_ok,he]
   ·cases hx
  ·split at hx
   ·rename_i a b _ hu;cases hx;refine .same (v:=.bool (a != b)) ?_ (.bW _);have he:=zT (h:=h) (φ:=φ) (w:=w) g 1 10000 t (.bool a) (.bool b) (.bool a) (.bool b) (a==b) (by simp[eqA,hu]) (.bW a) (.bW b) (by omega);rw[eqGuard_at_bool,show binOp .neq t (.bool a) (.bool b)=(do pure (.bool (!(←Op.equalIn 10000 t (.bool a) (.bool b))))) from rfl];simp only[Sem.run_bind,Sem.run_pure,Result.andThen_ok,he,bne]
   ·cases hx
  ·cases hx
 ·rename_i xs ys;have guard:∀{r:Bool},eqA C 4 t (.agg xs) (.agg ys)=some r→∀op',(eqGuard op' t ox oy u v).run P w=.ok () w∧(Op.equalIn 10000 t u v).run P w=.ok r w∧∃a b,u=.agg a∧v=.agg b:=by
   intro r hr op';have he:=zT g 4 10000 t (.agg xs) (.agg ys) u v r hr ru rv (by omega);obtain ⟨a,rfl,_⟩:=ru.kR;obtain ⟨b,rfl,_⟩:=rv.kR;refine ⟨?_,he,a,b,rfl,rfl⟩;simp only[eqA]at hr;split at hr
   ·rename_i hxx _;cases hxx
   ·rename_i hxx _;cases hxx
   ·rename_i hxx _;cases hxx
   ·rename_i fields _ _ hu _ _;obtain ⟨fs,hfu,hff,hfk,heq⟩:=nJ g hu;exact run_eqGuard_agg w op' t ox oy a b (heq rfl).2.1
   ·cases hr
  split at hx
  ·obtain ⟨r,hr,rfl⟩:=Option.map_eq_some_iff.1 hx;obtain ⟨h1,h2,a,b,rfl,rfl⟩:=guard hr .eql;exact .same (by simp only[Sem.run_bind,h1,Result.andThen_ok,run_eql_struct,h2]) (.bW _)
  ·obtain ⟨r,hr,rfl⟩:=Option.map_eq_some_iff.1 hx;obtain ⟨h1,h2,a,b,rfl,rfl⟩:=guard hr .neq;exact .same (by simp only[Sem.run_bind,h1,Result.andThen_ok,run_neq_struct,h2]) (.bW _)
  ·cases hx
 ·cases hx
theorem unA_ok {op:UnOp}{x z:AV}{u:Value}(hx:unA op x=some z)(ru:Rel h φ w u x):OkV P h φ w (Op.unary op u) z:=by
 unfold unA at hx;split at hx
 ·cases ru.z5;cases hx;exact .same (by simp[Op.unary,Op.intArith]) (.bY _ _)
 ·cases ru.bP;cases hx;exact .same (by simp[Op.unary]) (.bW _)
 ·cases hx
def I0 (h:c6)(φ:Map)(w:World)(v:Option Value)(x:Option AV):Prop:=(x=none∧v=none)∨∃y u,x=some y∧v=some u∧Rel h φ w u y
theorem jO {isSlice:Bool}{cap n:Nat}{lo hi:Option AV}{lo' hi':Option Value}{a b:Nat}(hn:n≤cap)(rl:I0 h φ w lo' lo)(rh:I0 h φ w hi' hi)
  (hb:fA hi n n=some b) (ha:fA lo 0 b=some a):(Instr.sliceBounds isSlice n cap lo' hi' none).run P w=.ok (a,b,cap) w∧a≤b∧b≤n:=by
 rcases rh with ⟨rfl,rfl⟩ | ⟨y,u,rfl,rfl,ru⟩<;>rcases rl with ⟨rfl,rfl⟩ | ⟨z,v,rfl,rfl,rv⟩
 ·simp only[fA,Option.some.injEq]at hb ha;subst hb ha;exact ⟨by simp[Instr.sliceBounds],Nat.zero_le _,Nat.le_refl _⟩
 ·simp only[fA,Option.some.injEq]at hb;subst hb;cases z<;>simp only[fA,reduceCtorEq]at ha;rename_i k i;split at ha
  ·rename_i hc;cases ha;cases rv.z5;exact ⟨by simp[Instr.sliceBounds,run_sliceBound w k i n .sliceB hc.1 hc.2],by omega,Nat.le_refl _⟩
  ·cases ha
 ·simp only[fA,Option.some.injEq]at ha;subst ha;cases y<;>simp only[fA,reduceCtorEq]at hb;rename_i k i;split at hb
  ·rename_i hc;cases hb;cases ru.z5;exact ⟨by simp[Instr.sliceBounds,run_sliceBound w k i cap (if isSlice=true then .sliceAcap else .sliceAlen) hc.1 (by omega)],Nat.zero_le _,by omega⟩
  ·cases hb
 ·cases y<;>simp only[fA,reduceCtorEq]at hb;rename_i k i;cases z<;>simp only[fA,reduceCtorEq]at ha;rename_i k' i';split at hb
  ·rename_i hc;cases hb;cases ru.z5;split at ha
   ·rename_i hc';cases ha;cases rv.z5;exact ⟨by simp[Instr.sliceBounds,run_sliceBound w k i cap (if isSlice=true then .sliceAcap else .sliceAlen) hc.1 (by omega),run_sliceBound w k' i' i.toNat .sliceB hc'.1 hc'.2],by omega,by omega⟩
   ·cases ha
  ·cases hb
end
section
variable {P:Program}{C:Cfg}{h:c6}{φ:Map}{w:World}
theorem vec_cut {S:Nat→Nat→Prop}{v:Value}{n sz a b:Nat}{cells:List AV}(hp:PRel w S v (.vec n cells))(hab:a≤b)(hbn:b≤n) :
  ∃ad c,v=.slice ad n c∧(n≤c∨n=0)∧(n≤c→PRel w S (.slice (if c=a then ad else ad.map (·.add (a*sz))) (b-a) (c-a)) (.vec (b-a) ((cells.drop (a*sz)).take ((b-a)*sz)))):=by
 cases hp with
 | yE ad c=>
  refine ⟨ad,c,rfl,.inr rfl,fun _=>?_⟩;have ha:a=0:=by omega
  have hb:b=0:=by omega
  subst ha hb;simp only[Nat.sub_self,Nat.zero_mul,List.drop_nil,List.take_nil];exact .yE _ _
 | vec bl o n c cells vs hS hnc hlen hc hr=>
  refine ⟨_,c,rfl,.inl hnc,fun _=>?_⟩;by_cases hz:b-a=0
  ·rw[hz];simp only[Nat.zero_mul,List.take_zero];exact .yE _ _
  ·have hca:c≠a:=by omega
   rw[if_neg hca];simp only[Option.map_some,Addr.add_lit];refine .vec bl (o+a*sz) (b-a) (c-a) _ ((vs.drop (a*sz)).take ((b-a)*sz)) (fun j hj=>(by rw[Nat.add_assoc];refine hS _ ?_;simp at hj;omega)) (by omega) (by simp[hlen]) (fun j v hv=>?_) (fun j v x hv hx=>?_)
   ·rw[List.getElem?_take,List.getElem?_drop]at hv;split at hv
    ·rw[Nat.add_assoc];exact hc _ v hv
    ·cases hv
   ·rw[List.getElem?_take,List.getElem?_drop]at hv hx;split at hv
    ·rename_i hlt;rw[if_pos hlt]at hx;exact hr _ v x hv hx
    ·cases hv
theorem FT (g:Good P C){t:TypeId}{x z:AV}{lo hi:Option AV}{u:Value}{lo' hi':Option Value}(hx:vG C t x lo hi=some z)(ru:Rel h φ w u x)(rl:I0 h φ w lo' lo)(rh:I0 h φ w hi' hi) :
  OkV P h φ w (Instr.sliceAt t u lo' hi' none) z:=by
 unfold vG at hx;split at hx
 ·rename_i s hu;cases ru.eX;replace hx:=s0z hx;obtain ⟨b,hb,a,ha,hz⟩:=hx;cases hz;obtain ⟨hr,hab,hbn⟩:=jO (P:=P) (isSlice:=false) (cap:=s.size) (Nat.le_refl _) rl rh hb ha;exact .same (by simp[Instr.sliceAt,Instr.slice,u7 (nK g hu),hr]) (.pX _)
 ·rename_i e n cells hu;obtain ⟨hue,hke⟩:=bM g hu;replace hx:=s0z hx;obtain ⟨b,hb,a,ha,hz⟩:=hx;cases hz;have hpv:=ru.nH;have hab:a≤b∧b≤n:=(jO (P:=P) (isSlice:=true) (cap:=n) (Nat.le_refl _) rl rh hb ha).2;obtain ⟨ad,c,rfl,hnc,hrel⟩:=vec_cut (sz:=C.sz e) hpv hab.1 hab.2;have hnc':n≤c:=by rcases hnc with h' | h'<;>omega
  obtain ⟨hr,_,_⟩:=jO (P:=P) (isSlice:=true) (cap:=c) hnc' rl rh hb ha;refine .same t214 (.pure (hrel hnc'))
 ·rename_i e β gn off n hu;obtain ⟨hue,hke⟩:=bM g hu;replace hx:=s0z hx;obtain ⟨b,hb,a,ha,hz⟩:=hx;have hab:a≤b∧b≤n:=(jO (P:=P) (isSlice:=true) (cap:=n) (Nat.le_refl _) rl rh hb ha).2;obtain ⟨ad,cap,bk,rfl,hbk,hg,hlc,hcm,had,hn,hv⟩:=ru.jV;obtain ⟨hr,_,_⟩:=jO (P:=P) (isSlice:=true) (cap:=cap) hlc rl rh hb ha;have hrun:(Instr.sliceAt t (.slice ad n cap) lo' hi' none).run P w=.ok (.slice (if cap=a then ad else ad.map (·.add (a*C.sz e))) (b-a) (cap-a)) w:=by simp[Instr.sliceAt,Instr.slice,u7 hue,hr,run_sizeOf g hke]
  split at hz
  ·rename_i ha0;cases hz;subst ha0;refine .same hrun ?_;have e1:(if cap=0 then ad else ad.map (·.add (0*C.sz e)))=ad:=by
    split
    ·rfl
    ·cases ad<;>simp[Addr.add_zero']
   rw[e1];simp only[Nat.sub_zero];exact .own β gn off b cap ad bk hbk hg (by omega) hcm (fun h0=>had (by omega)) hn hv
  ·rename_i ha0;split at hz
   ·rename_i hab2;cases hz;refine .same hrun ?_;obtain ⟨bl,rfl⟩:=had (by omega);rw[if_neg (by omega)];simp only[Option.map_some,Addr.add_lit];have hpos:0<a*C.sz e:=Nat.mul_pos (by omega) hab2.2;refine .own β gn _ _ (cap-a) _ bk hbk hg (by omega) (by omega) (fun _=>⟨bl,rfl⟩) (fun he hvv=>?_) (fun he hvv=>?_)
    ·have:=(hn he hvv).2;omega
    ·obtain ⟨h1,_⟩:=hv he hvv;simp only[Option.some.injEq,Addr.mk.injEq,and_true]at h1;rw[h1];exact ⟨rfl,fun h0=>by omega⟩
   ·split at hz
    ·rename_i hab3;cases hz;have hba:b-a=0:=by omega
     rw[hba]at hrun;exact .same hrun (.pure (.yE _ _))
    ·cases hz
 ·rename_i e hu;obtain ⟨hue,hke⟩:=bM g hu;cases ru.eK;replace hx:=s0z hx;obtain ⟨b,hb,a,ha,hz⟩:=hx;cases hz;obtain ⟨hr,hab,hbn⟩:=jO (P:=P) (isSlice:=true) (cap:=0) (Nat.le_refl _) rl rh hb ha;have ha0:a=0:=by omega
  have hb0:b=0:=by omega
  subst ha0 hb0;exact .same t214 (.pure .j4)
 ·cases hx
end
section
variable {P:Program}{C:Cfg}{h:c6}{φ:Map}{w:World}
def OkN (P:Program)(h:c6)(φ:Map)(w:World)(s:Sem Next)(x:AV):Prop:=
 ∃v w',s.run P w=.ok (.value v) w'∧w.grownBy w' none∧Rel h φ w' v x
variable {x:AV}
theorem OkV.next {s:Sem Value}(hv:OkV P h φ w s x):OkN P h φ w (do pure (.value (←s))) x:=by obtain ⟨v,w',h1,h2,h3⟩:=hv;exact ⟨v,w',by simp[h1],h2,h3⟩
variable {z:AV}{u:Value}
theorem I6 {n:Nat}(hx:yN x n=some z)(ru:Rel h φ w u x):∃bl o,u=.pointer (some ⟨bl,o,none⟩)∧Rel h φ w (.pointer (some ⟨bl,o+n,none⟩)) z:=by
 cases x<;>simp only[yN,reduceCtorEq,Option.some.injEq]at hx
 ·subst hx;obtain ⟨bl,b,rfl,hb,hg,hv⟩:=ru.rT;exact ⟨bl,_,rfl,.ptr _ _ _ _ _ hb hg hv⟩
 ·subst hx;have hp:=ru.oA;cases hp with
  | lT b o off cells vs hS hlen hc hr=>
   exact ⟨b,_,rfl,by rw[Nat.add_assoc];exact .pure (.lT b o _ _ vs hS hlen hc hr)⟩
variable {ρc:Operand→Value}{ρ:Operand→AV}
theorem yO (hρ:∀x,Rel h φ w (ρc x) (ρ x))(o:Option Operand):I0 h φ w (o.map ρc) (o.map ρ):=by
 cases o with
 | none=>exact .inl ⟨rfl,rfl⟩
 | some x=>exact .inr ⟨_,_,rfl,rfl,hρ x⟩
theorem tV (hρ:∀x,Rel h φ w (ρc x) (ρ x))(l:Array Operand):(l.map ρc).size=(l.toList.map ρ).length∧∀(j:Nat) v x,(l.map ρc)[j]?=some v→(l.toList.map ρ)[j]?=some x→Rel h φ w v x:=by
 refine ⟨by simp,fun j v x hv hx=>?_⟩;simp only[Array.getElem?_map,List.getElem?_map,Array.getElem?_toList]at hv hx;cases hj:l[j]? with
 | none=>simp[hj]at hv
 | some o=>
  simp only[hj,Option.map_some,Option.some.injEq]at hv hx;subst hv hx;exact hρ o
theorem I7 (hρ:∀x,Rel h φ w (ρc x) (ρ x))(l:Array (Nat×Operand)):(l.map fun (i,x)=>(i,ρc x)).size=(l.toList.map fun p=>(p.1,ρ p.2)).length∧
  ∀(j:Nat) (p:Nat×AV) (p':Nat×Value),(l.toList.map fun p=>(p.1,ρ p.2))[j]?=some p→(l.map fun (i,x)=>(i,ρc x))[j]?=some p'→p'.1=p.1∧Rel h φ w p'.2 p.2:=by
 refine ⟨by simp,fun j p p' hp hp'=>?_⟩;simp only[Array.getElem?_map,List.getElem?_map,Array.getElem?_toList]at hp hp';cases hj:l[j]? with
 | none=>simp[hj]at hp
 | some o=>
  simp only[hj,Option.map_some,Option.some.injEq]at hp hp';subst hp hp';exact ⟨rfl,hρ o.2⟩
theorem tK {G:Nat→AV}{B:Nat}(i:Pic G B h φ w)(g:Good P C){s d e:TypeId}{b:ByteArray}(hs:C.ut s=.str)(hd:C.ut d=.slice e)(he:C.ut e=.int .u8):OkV P h φ w (convert s d (.string b)) (.vec b.size (b.toList.map fun c=>.int .u8 c.toNat)):=by
 have hrun:=run_bytes_of_string (P:=P) w s d e b (nK g hs) (bM g hd).1 (pD g he);have hcap:b.size≤grownCap w b.size 0 e:=grownCap_ge w b.size 0 e;have hg:w.grownBy (w.drew.alloc (.cells (bytesRow b (grownCap w b.size 0 e)) e ((bytesRow b (grownCap w b.size 0 e)).size,(bytesRow b (grownCap w b.size 0 e)).size+1))) none:=
  pY (sU w) (World.grownBy_alloc _ _ _)
 refine ⟨_,_,hrun,hg,.pure ?_⟩;have hsz:b.toList.length=b.size:=by rw[ByteArray.toList_eq];rfl
 refine .vec w.heap.size 0 b.size _ _ (b.toList.map fun c=>Value.int .u8 c.toNat) (fun m hm=>⟨by simp,fun β bk hb hv he=>?_⟩) hcap (by simp) (fun j v hv=>?_) (fun j v x hv hx=>?_)
 ·have:=i.lt hb hv;omega
 ·rw[Nat.zero_add,show w.heap.size=w.drew.heap.size from rfl,World.cell?_alloc_mark];have hj:j<b.data.size:=by have:=(List.getElem?_eq_some_iff.1 hv).1;simp at this;rw[hsz]at this;exact this
  rw[bytesRow_at b _ j hj];simp only[List.getElem?_map,ByteArray.toList_eq]at hv;simp only[Array.getElem?_toList,Array.getElem?_eq_getElem hj,Option.map_some,Option.some.injEq]at hv;subst hv;exact ⟨rfl,rfl⟩
 ·simp only[List.getElem?_map]at hv hx;cases hj:b.toList[j]? with
  | none=>simp[hj]at hv
  | some c=>
   simp[hj]at hv hx;subst hv hx;exact .int _ _
variable {len:Nat}{n:Int}
theorem FU {β gn off:Nat}{e t:TypeId}(g:Good P C)(hu:C.ut t=.slice e)(ru:Rel h φ w u (.own β gn off len))(k:IntKind)(h0:0≤n)(h1:n<(len:Int)) :
  OkV P h φ w (Instr.indexAt t u (.int k n)) (.ptr β gn (off+n.toNat*C.sz e)):=by
 obtain ⟨hue,hke⟩:=bM g hu;obtain ⟨ad,cap,bk,rfl,hbk,hg,hlc,hcm,had,hn,hv⟩:=ru.jV;obtain ⟨bl,rfl⟩:=had (by omega);refine .same (v:=.pointer (some ⟨bl,off+n.toNat*C.sz e,none⟩)) ?_ (.ptr _ _ _ bl bk hbk hg fun he hvv=>?_)
 ·simp[Instr.indexAt,asIntOf,u7 hue,h0,h1,run_sizeOf g hke,Addr.add_lit]
 ·have:=(hv he hvv).1;simp only[Option.some.injEq,Addr.mk.injEq,and_true]at this;exact this
theorem FV {cells:List AV}{e t:TypeId}(g:Good P C)(hu:C.ut t=.slice e)(ru:Rel h φ w u (.vec len cells))(k:IntKind)(h0:0≤n)(h1:n<(len:Int)) :
  OkV P h φ w (Instr.indexAt t u (.int k n)) (.lT cells (n.toNat*C.sz e)):=by
 obtain ⟨hue,hke⟩:=bM g hu;have hp:=ru.nH;cases hp with
 | yE a c=>omega
 | vec b o n' c _ vs hS hnc hlen hc hr=>
  exact .same (v:=.pointer (some ⟨b,o+n.toNat*C.sz e,none⟩)) (by simp[Instr.indexAt,asIntOf,u7 hue,h0,h1,run_sizeOf g hke,Addr.add_lit]) (.pure (.lT b o _ _ vs hS hlen hc hr))
theorem FW {m:Nat}{e t:TypeId}(g:Good P C)(hu:C.ut t=.arr m e)(ru:Rel h φ w u x)(k:IntKind)(h0:0≤n)(h1:n<(m:Int))(hz:yN x (n.toNat*C.sz e)=some z) :
  OkV P h φ w (Instr.indexAt t u (.int k n)) z:=by
 obtain ⟨hue,hke,_⟩:=zS g hu;obtain ⟨bl,o,rfl,hr⟩:=I6 hz ru;refine .same ?_ hr;simp[Instr.indexAt,Instr.sureAddr,asIntOf,u7 hue,h0,h1,run_sizeOf g hke,Addr.add_lit]
theorem len_ok (g:Good P C){t ty:TypeId}(ru:Rel h φ w u x)(hz:lenA C t x=some z):OkV P h φ w (Builtin.len_ #[t] ty #[u]) z:=by
 unfold lenA at hz;split at hz
 ·rename_i s ru hu;cases ru.eX;cases hz;exact .same (by simp[Builtin.len_,u7 (nK g hu),goInt]) (.bY _ _)
 ·rename_i e ru hu;cases ru.eK;cases hz;exact .same t134 (.bY _ _)
 ·rename_i e n cells ru hu;cases hz;have hp:=ru.nH;cases hp with
  | yE a c=>exact .same t134 (.bY _ _)
  | vec b o n' c _ vs=>exact .same t134 (.bY _ _)
 ·rename_i e β gn off n ru hu;cases hz;obtain ⟨ad,cap,bk,rfl,_⟩:=ru.jV;exact .same t134 (.bY _ _)
 ·rename_i n e hu;cases hz;exact .same (by simp[Builtin.len_,u7 (zS g hu).1,goInt]) (.bY _ _)
 ·cases hz
theorem cap_ok (g:Good P C){t ty:TypeId}(ru:Rel h φ w u x)(hz:capA C t x=some z):OkV P h φ w (Builtin.cap_ #[t] ty #[u]) z:=by
 unfold capA at hz;split at hz
 ·rename_i e ru hu;cases ru.eK;cases hz;exact .same (by simp[Builtin.cap_,u7 (bM g hu).1,goInt]) (.bY _ _)
 ·cases hz
theorem I8 (g:Good P C)(hρ:∀x,Rel h φ w (ρc x) (ρ x)){c:Call}{ty:TypeId}(hp:iL C ρ c=some x) :
  OkN P h φ w (do let d ←resolve ρc c ty;invoke d.target d.args) x:=by
 obtain ⟨callee,args,argTypes⟩:=c;unfold iL at hp;split at hp
 ·rename_i hc;simp only at hc;subst hc;split at hp
  ·rename_i y t ha ht;simp only at ha ht;have ha':args=#[y]:=by cases args;simpa using ha
   have ht':argTypes=#[t]:=by cases argTypes;simpa using ht
   subst ha' ht';obtain ⟨v,w',h1,h2,h3⟩:=len_ok g (ty:=ty) (hρ y) hp;exact ⟨v,w',by simp[resolve,invoke,builtin,h1],h2,h3⟩
  ·cases hp
 ·rename_i hc;simp only at hc;subst hc;split at hp
  ·rename_i y t ha ht;simp only at ha ht;have ha':args=#[y]:=by cases args;simpa using ha
   have ht':argTypes=#[t]:=by cases argTypes;simpa using ht
   subst ha' ht';obtain ⟨v,w',h1,h2,h3⟩:=cap_ok g (ty:=ty) (hρ y) hp;exact ⟨v,w',by simp[resolve,invoke,builtin,h1],h2,h3⟩
  ·cases hp
 ·rename_i hc;simp only at hc;subst hc;split at hp
  ·rename_i y z ha;simp only at ha;have ha':args=#[y,z]:=by cases args;simpa using ha
   subst ha';unfold minA at hp;split at hp
   ·rename_i k a k' b heq;cases hp;simp only[List.cons.injEq,and_true]at heq;have r1:=(heq.1▸hρ y:Rel h φ w (ρc y) (.int k a)).z5;have r2:=(heq.2▸hρ z:Rel h φ w (ρc z) (.int k' b)).z5;refine ⟨.int k (if b<a then b else a),w,?_,bJ w,.bY _ _⟩;simp[resolve,invoke,builtin,Builtin.min_,Builtin.min2,r1,r2]
   ·cases hp
  ·cases hp
 ·rename_i hc;simp only at hc;subst hc;split at hp
  ·rename_i y z ha;simp only at ha;have ha':args=#[y,z]:=by cases args;simpa using ha
   subst ha';unfold maxA at hp;split at hp
   ·rename_i k a k' b heq;cases hp;simp only[List.cons.injEq,and_true]at heq;have r1:=(heq.1▸hρ y:Rel h φ w (ρc y) (.int k a)).z5;have r2:=(heq.2▸hρ z:Rel h φ w (ρc z) (.int k' b)).z5;refine ⟨.int k (if b > a then b else a),w,?_,bJ w,.bY _ _⟩;simp[resolve,invoke,builtin,Builtin.max_,Builtin.max2,r1,r2]
   ·cases hp
  ·cases hp
 ·cases hp
theorem PE {G:Nat→AV}{B:Nat}(i:Pic G B h φ w)(g:Good P C)(hρ:∀x,Rel h φ w (ρc x) (ρ x)){o:Oper}(hp:fC C ρ o.op=some x) :
  OkN P h φ w (execOp ρc o) x:=by
 obtain ⟨dst,op,type,pos,after,guard⟩:=o;simp only at hp;unfold fC at hp;split at hp
 ·cases hp;exact ⟨_,w,rfl,bJ w,hρ _⟩
 ·cases hp;exact ⟨_,w,rfl,bJ w,hρ _⟩
 ·rename_i c a b;split at hp
  ·rename_i t ht;cases hp;have hc:=(ht▸hρ c:Rel h φ w (ρc c) (.bool t)).bP;refine ⟨if t then ρc a else ρc b,w,by simp only[execOp,hc,asBool,Sem.run_bind,Sem.run_pure,Result.andThen_ok],bJ w,?_⟩;cases t<;>exact hρ _
  ·cases hp
 ·rename_i t parts;obtain ⟨h1,h2⟩:=I7 hρ parts;exact (PD g h1 h2 hp).next
 ·rename_i y;split at hp
  ·rename_i β gn off hy;cases hp;have hr:Rel h φ w (ρc y) _:=hy▸hρ y;obtain ⟨bl,b,hv,_⟩:=hr.rT;exact ⟨_,w,by simp only[execOp,hv];rfl,bJ w,hv▸hr⟩
  ·rename_i cells off hy;cases hp;have hr:Rel h φ w (ρc y) _:=hy▸hρ y;have hv:∃a,ρc y=.pointer (some a):=by have hp':=hr.oA;generalize ρc y=v at hp';cases hp';exact ⟨_,rfl⟩
   obtain ⟨a,hv⟩:=hv;exact ⟨_,w,by simp only[execOp,hv];rfl,bJ w,hv▸hr⟩
  ·rename_i f a b hy;cases hp;have hr:Rel h φ w (ρc y) _:=hy▸hρ y;obtain ⟨a',c',hv,_⟩:=hr.WJ;exact ⟨_,w,by simp only[execOp,hv];rfl,bJ w,hv▸hr⟩
  ·cases hp
 ·rename_i op t y z yt;exact (binA_ok g hp (hρ y) (hρ z)).next
 ·rename_i op t y;exact (unA_ok hp (hρ y)).next
 ·rename_i s d y;refine OkV.next (s:=convert s d (ρc y)) ?_;split at hp
  ·rename_i k0 k k' n hs hd hy;cases hp;have hv:=(hy▸hρ y:Rel h φ w (ρc y) _).z5;rw[hv];exact .same (by simp[convert,u7 (pD g hs),u7 (pD g hd),Conv.intToInt]) (.bY _ _)
  ·rename_i b hs hd hy;cases hp;have hv:=(hy▸hρ y:Rel h φ w (ρc y) _).eX;rw[hv];exact .same (by simp[convert,u7 (nK g hs),u7 (nK g hd)]) (.pX _)
  ·rename_i e b hs hd hy;split at hp
   ·rename_i he;cases hp;have hv:=(hy▸hρ y:Rel h φ w (ρc y) _).eX;rw[hv];exact tK i g hs hd he
   ·cases hp
  ·cases hp
 ·rename_i t y;refine OkV.next (s:=Instr.makeInterface t (ρc y)) ?_;have hu:=(g.ty t).und;split at hp
  ·cases hp
  ·cases hp
  ·cases hp;revert hu;cases hut:C.ut t<;>intro hu;case other=>simp_all
   case iface=>simp_all
   case int k=>exact .same t125 (.iface _ _ _ (hρ y))
   case bool=>exact .same t125 (.iface _ _ _ (hρ y))
   case str=>exact .same t125 (.iface _ _ _ (hρ y))
   case slice e=>exact .same (by simp[Instr.makeInterface,u7 hu.1]) (.iface _ _ _ (hρ y))
   case arr n e=>exact .same (by simp[Instr.makeInterface,u7 hu.1]) (.iface _ _ _ (hρ y))
   case n7 fs eq=>obtain ⟨_,hu,_⟩:=hu;exact .same t125 (.iface _ _ _ (hρ y))
   case ptr e=>exact .same t125 (.iface _ _ _ (hρ y))
   case func=>obtain ⟨_,_,_,hu⟩:=hu;exact .same t125 (.iface _ _ _ (hρ y))
 ·rename_i f first captured;cases hp;obtain ⟨h1,h2⟩:=tV hρ first;obtain ⟨h3,h4⟩:=tV hρ captured;exact ⟨_,w,rfl,bJ w,.fn _ _ _ _ _ h1 h3 h2 h4⟩
 ·rename_i t y lo hi;exact (FT g hp (hρ y) (yO hρ lo) (yO hρ hi)).next
 ·rename_i t y f;refine OkV.next (s:=Instr.fieldAt t (ρc y) f) ?_;split at hp
  ·rename_i fields eq hu;obtain ⟨fs,hfu,hff,hfk,_⟩:=nJ g hu;split at hp
   ·rename_i fd hfd;split at hp
    ·cases hp
    ·rename_i hz;obtain ⟨bl,o,hv,hr⟩:=I6 hp (hρ y);have hmem:fd∈fields:=List.mem_of_getElem? hfd;have hff':∃ff:Field,fs[f]?=some ff∧(ff.offset,ff.type)=fd:=by rw[←hff]at hfd;simpa [List.getElem?_map,Option.map_eq_some_iff] using hfd
     obtain ⟨ff,hff1,rfl⟩:=hff';refine .same (v:=.pointer (some ⟨bl,o+ff.offset,none⟩)) ?_ hr;rw[hv];simp[Instr.fieldAt,u7 hfu,hff1,Instr.sureAddr,fieldPlace,run_sizeOf g (hfk _ hmem).1,hz,Addr.add_lit]
   ·cases hp
  ·cases hp
 ·rename_i t y f;refine OkV.next (s:=Instr.field t (ρc y) f) ?_;split at hp
  ·rename_i fields eq xs hu hy;obtain ⟨fs,hfu,hff,hfk,_⟩:=nJ g hu;split at hp
   ·rename_i fd hfd;have hff':∃ff:Field,fs[f]?=some ff∧(ff.offset,ff.type)=fd:=by rw[←hff]at hfd;simpa [List.getElem?_map,Option.map_eq_some_iff] using hfd
    obtain ⟨ff,hff1,rfl⟩:=hff';obtain ⟨cs,hv,hsz,h1,hr⟩:=(hy▸hρ y:Rel h φ w (ρc y) _).kR;obtain ⟨v,hrun,hrel⟩:=tU g hsz h1 hr hp;refine .same (v:=v) ?_ hrel;rw[hv];simp[Instr.field,u7 hfu,hff1,asAgg,hrun]
   ·cases hp
  ·cases hp
 ·rename_i t y ix;refine OkV.next (s:=Instr.indexAt t (ρc y) (ρc ix)) ?_;split at hp
  ·rename_i e k n hu hix;have hv:=(hix▸hρ ix:Rel h φ w (ρc ix) _).z5;rw[hv];split at hp
   ·rename_i β gn off len hy;split at hp
    ·rename_i hc;cases hp;exact FU g hu (hy▸hρ y) k hc.1 hc.2
    ·cases hp
   ·rename_i len cells hy;split at hp
    ·rename_i hc;cases hp;exact FV g hu (hy▸hρ y) k hc.1 hc.2
    ·cases hp
   ·cases hp
  ·rename_i m e k n hu hix;have hv:=(hix▸hρ ix:Rel h φ w (ρc ix) _).z5;rw[hv];split at hp
   ·rename_i hc;exact FW g hu (hρ y) k hc.1 hc.2 hp
   ·cases hp
  ·cases hp
 ·rename_i t y ix;refine OkV.next (s:=Instr.index t (ρc y) (ρc ix)) ?_;split at hp
  ·rename_i s k n hu hy hix;have hv:=(hix▸hρ ix:Rel h φ w (ρc ix) _).z5;have hv2:=(hy▸hρ y:Rel h φ w (ρc y) _).eX;rw[hv,hv2];split at hp
   ·rename_i h0;split at hp
    ·rename_i b hb;cases hp;exact .same (by simp[Instr.index,asIntOf,u7 (nK g hu),h0,hb]) (.bY _ _)
    ·cases hp
   ·cases hp
  ·rename_i m e xs k n hu hy hix;have hv:=(hix▸hρ ix:Rel h φ w (ρc ix) _).z5;obtain ⟨hue,hke,_⟩:=zS g hu;obtain ⟨cs,hv2,hsz,h1,hr⟩:=(hy▸hρ y:Rel h φ w (ρc y) _).kR;rw[hv,hv2];split at hp
   ·rename_i hc;obtain ⟨v,hrun,hrel⟩:=tU g hsz h1 hr hp;exact .same (v:=v) (by simp[Instr.index,asIntOf,u7 hue,hc.1,hc.2,run_sizeOf g hke,hrun]) hrel
   ·cases hp
  ·cases hp
 ·rename_i t ix;refine OkV.next (s:=Instr.extract (ρc t) ix) ?_;split at hp
  ·rename_i xs ht;obtain ⟨cs,hv,hsz,hr⟩:=(ht▸hρ t:Rel h φ w (ρc t) _).nG;have hlt:ix<cs.size:=by rw[hsz];exact (List.getElem?_eq_some_iff.1 hp).1
   have hc:cs[ix]?=some cs[ix]:=Array.getElem?_eq_getElem hlt;rw[hv];exact .same (v:=cs[ix]) (by simp[Instr.extract,hc]) (hr _ _ _ hc hp)
  ·cases hp
 ·exact I8 g hρ hp
 ·cases hp
end
section
variable {P:Program}{C:Cfg}{G:Nat→AV}{B:Nat}{h:c6}{φ:Map}{w:World}
theorem nL (i:Pic G B h φ w){w':World}{β:Nat}{b b':Blk}{k n:Nat}{cur:Array Value}(hb:h[β]?=some b)
  (hos:w'.os=w.os) (ht:w'.tape=w.tape) (hout:w'.output=w.output) (hsz:w.heap.size≤w'.heap.size)
  (hoth:∀j,j<w.heap.size→(b.cQ=false→j≠(φ β).1)→w'.heap[j]?=w.heap[j]?)
  (hk:(b.cQ=false∧k=(φ β).1)∨w.heap.size≤k) (hw:w'.heap[k]?=some (.cells cur b'.elem (0,0))) (hn:cur.size=n) (hl:b'.cells.length≤cur.size)
  (hr:∀(j:Nat) v x,cur[j]?=some v→b'.cells[j]?=some x→v.oneCell'=true∧Rel h φ w v x) (hv':b'.cQ=false)
  (hgen:b.gen≤b'.gen) (hsame:b.gen=b'.gen→(k,n)=φ β∧b.cQ=false∧b'.esz=b.esz)
  (hfz:b.cQ=false→∀j,j<b.frz→w'.cell? ⟨(φ β).1,j,none⟩=w.cell? ⟨(φ β).1,j,none⟩) (hfm:b.cQ=false→b.frz≤b'.frz) :
  Pic G B (h.set β b') (fun γ=>if γ=β then (k,n) else φ γ) w'∧Ev h φ w (h.set β b') (fun γ=>if γ=β then (k,n) else φ γ) w':=by
 have hlt:β<h.length:=(List.getElem?_eq_some_iff.1 hb).1;have look:∀{γ:Nat} {c:Blk},(h.set β b')[γ]?=some c→(γ≠β∧h[γ]?=some c)∨(γ=β∧c=b'):=by
  intro γ c hc;by_cases hγ:γ=β
  ·subst hγ;rw[List.getElem?_set_self hlt]at hc;exact .inr ⟨rfl,(Option.some.inj hc).symm⟩
  ·rw[List.getElem?_set_ne (Ne.symm hγ)]at hc;exact .inl ⟨hγ,hc⟩
 have hkB:B≤k:=by
  rcases hk with ⟨h1,h2⟩ | h1
  ·rw[h2];exact i.base β b hb h1
  ·exact Nat.le_trans i.room h1
 have other:∀{γ:Nat} {c:Blk},γ≠β→h[γ]?=some c→c.cQ=false→(φ γ).1≠k∧w'.heap[(φ γ).1]?=w.heap[(φ γ).1]?:=by
  intro γ c hγ hc hcv;have hl:=i.lt hc hcv;refine ⟨?_,hoth _ hl fun hbv he=>hγ (i.inj γ β c b hc hb hcv hbv he)⟩;rcases hk with ⟨h1,h2⟩ | h1
  ·rw[h2];exact fun he=>hγ (i.inj γ β c b hc hb hcv h1 he)
  ·omega
 have ev:Ev h φ w (h.set β b') (fun γ=>if γ=β then (k,n) else φ γ) w':=by
  refine ⟨hos,ht,hout,hsz,fun j hj=>?_,fun j m hj=>⟨?_,Nat.lt_of_lt_of_le hj.1 hsz,fun γ c hc hcv he=>?_⟩,by simp,fun γ c c' h1 h2=>?_⟩
  ·have hne:b.cQ=false→j≠(φ β).1:=fun hbv he=>hj.2 β b hb hbv he.symm;refine ⟨hoth j hj.1 hne,Nat.lt_of_lt_of_le hj.1 hsz,fun γ c hc hcv=>?_⟩;rcases look hc with ⟨hγ,hc'⟩ | ⟨rfl,rfl⟩
   ·simp only[hγ,if_false];exact hj.2 γ c hc' hcv
   ·simp only[if_true];rcases hk with ⟨h1,h2⟩ | h1
    ·rw[h2];exact fun he=>hne h1 he.symm
    ·have:=hj.1;omega
  ·by_cases hb1:b.cQ=false∧j=(φ β).1
   ·obtain ⟨hbv,rfl⟩:=hb1;exact hfz hbv m (hj.2 β b hb hbv rfl)
   ·exact World.cell?_of_block (hoth j hj.1 fun hbv he=>hb1 ⟨hbv,he⟩)
  ·rcases look hc with ⟨hγ,hc'⟩ | ⟨rfl,rfl⟩
   ·simp only[hγ,if_false]at he;exact hj.2 γ c hc' hcv he
   ·simp only[if_true]at he;rcases hk with ⟨h1,h2⟩ | h1
    ·exact Nat.lt_of_lt_of_le (hj.2 γ b hb h1 (by rw[←h2];exact he)) (hfm h1)
    ·have:=hj.1;omega
  ·rcases look h2 with ⟨hγ,hc'⟩ | ⟨rfl,rfl⟩
   ·rw[h1]at hc';cases hc';simp[hγ]
   ·rw[hb]at h1;cases h1;refine ⟨hgen,fun he=>?_⟩;obtain ⟨h3,h4,h5⟩:=hsame he;simp only[if_true];exact ⟨h3,by rw[hv',h4],h5⟩
 refine ⟨⟨fun γ c hc hcv=>?_,fun γ γ' c c' hc hc' hcv hcv' he=>?_,fun γ c hc hcv=>?_,fun γ c hc hcv=>?_,Nat.le_trans i.room hsz,fun g=>ev.H8 (i.eJ g)⟩,ev⟩
 ·rcases look hc with ⟨hγ,hc'⟩ | ⟨rfl,rfl⟩
  ·simp only[hγ,if_false];obtain ⟨cr,h1,h2,h3,h4⟩:=i.blk γ c hc' hcv;exact ⟨cr,(other hγ hc' hcv).2.trans h1,h2,h3,fun j v x a d=>⟨(h4 j v x a d).1,ev.rel (h4 j v x a d).2⟩⟩
  ·simp only[if_true];exact ⟨cur,hw,hn,hl,fun j v x a d=>⟨(hr j v x a d).1,ev.rel (hr j v x a d).2⟩⟩
 ·rcases look hc with ⟨h1,n1⟩ | ⟨rfl,rfl⟩<;>rcases look hc' with ⟨h2,n2⟩ | ⟨rfl,rfl⟩
  ·simp only[h1,h2,if_false]at he;exact i.inj γ γ' c c' n1 n2 hcv hcv' he
  ·simp only[h1,if_false,if_true]at he;exact absurd he (other h1 n1 hcv).1
  ·simp only[h2,if_false,if_true]at he;exact absurd he.symm (other h2 n2 hcv').1
  ·rfl
 ·rcases look hc with ⟨hγ,hc'⟩ | ⟨rfl,rfl⟩
  ·simp only[hγ,if_false];exact i.base γ c hc' hcv
  ·simp only[if_true];exact hkB
 ·rcases look hc with ⟨hγ,hc'⟩ | ⟨rfl,rfl⟩
  ·exact i.cQ γ c hc' hcv
  ·rw[hv']at hcv;cases hcv
variable {n:Nat}{cells:List AV}
theorem I9 (i:Pic G B h φ w){u:Value}{p:AV}(ru:Rel h φ w u p)(hx:H6 h p n=some cells) :
  ∃bl o vs,u=.pointer (some ⟨bl,o,none⟩)∧(∀(j:Nat) v,vs[j]?=some v→w.cell? ⟨bl,o+j,none⟩=some v)∧s6 h φ w vs cells∧cells.length=n:=by
 unfold H6 at hx;split at hx
 ·rename_i β g off;split at hx
  ·rename_i b hb;split at hx
   ·rename_i hc;obtain ⟨h1,h2,h3⟩:=hc;cases hx;obtain ⟨bl,b',rfl,hb',hg,hv⟩:=ru.rT;rw[hb]at hb';cases hb';obtain rfl:=hv h1.symm h2;obtain ⟨cur,hw,hs,hl,hr⟩:=i.blk β b hb h2;have hlc:(cur.toList.drop off).length≥n:=by simp;omega
    refine ⟨_,off,(cur.toList.drop off).take n,rfl,fun j v hv=>?_,⟨t65,fun j v x hv hx=>?_⟩,t65⟩
    ·rw[List.getElem?_take,List.getElem?_drop]at hv;split at hv
     ·rw[cell_of_row w _ _ cur _ _ hw];simpa using hv
     ·cases hv
    ·rw[List.getElem?_take,List.getElem?_drop]at hv hx;split at hv
     ·rename_i hlt;rw[if_pos hlt]at hx;exact hr _ v x t158 hx
     ·cases hv
   ·cases hx
  ·cases hx
 ·rename_i cs off;split at hx
  ·rename_i hc;cases hx;have hp:=ru.oA;cases hp with
   | lT b o _ _ vs hS hlen hcv hr=>
    refine ⟨b,o+off,(vs.drop off).take n,rfl,fun j v hv=>?_,⟨t65,fun j v x hv hx=>?_⟩,t65⟩
    ·rw[List.getElem?_take,List.getElem?_drop]at hv;split at hv
     ·rw[Nat.add_assoc];exact (hcv _ v hv).1
     ·cases hv
    ·rw[List.getElem?_take,List.getElem?_drop]at hv hx;split at hv
     ·rename_i hlt;rw[if_pos hlt]at hx;exact ⟨(hcv _ v hv).2,.pure (hr _ v x hv hx)⟩
     ·cases hv
  ·cases hx
 ·cases hx
variable {esz:Nat}
theorem ZI (i:Pic G B h φ w){u:Value}{p:AV}{m:Nat}(ru:Rel h φ w u p)(hx:rd h esz p=some cells)(hm:lenOf p=some m) :
  ∃ad cap vs,u=.slice ad m cap∧s6 h φ w vs cells∧(∀a,ad=some a→∀(j:Nat) v,vs[j]?=some v→w.cell? (a.add j)=some v)∧(ad=none→vs=[]):=by
 unfold rd at hx;split at hx
 ·cases ru.eK;cases hx;cases hm;exact ⟨none,0,[],rfl,⟨rfl,fun j v x hv=>by simp at hv⟩,fun a ha=>by (cases ha),fun _=>rfl⟩
 ·cases hx;cases hm;have hp:=ru.nH;cases hp with
  | yE a c=>exact ⟨a,c,[],rfl,⟨rfl,fun j v x hv=>by simp at hv⟩,fun a ha j v hv=>by simp at hv,fun _=>rfl⟩
  | vec b o n c _ vs hS hnc hlen hc hr=>
   refine ⟨_,c,vs,rfl,⟨hlen,fun j v x hv hx=>⟨(hc j v hv).2,.pure (hr j v x hv hx)⟩⟩,fun a ha j v hv=>?_,fun h0=>by cases h0⟩;cases ha;rw[Addr.add_lit];exact (hc j v hv).1
 ·rename_i β g off len;cases hm;obtain ⟨ad,cap,bk,rfl,hbk,hg,hlc,hcm,had,hn,hv⟩:=ru.jV;rw[hbk]at hx;simp only at hx;split at hx
  ·rename_i hgen;split at hx
   ·rename_i hvirt;split at hx
    ·rename_i hl0;cases hx;subst hl0;obtain ⟨rfl,rfl⟩:=hn hgen.symm hvirt;exact ⟨none,0,[],rfl,⟨rfl,fun j v x hv=>by simp at hv⟩,fun a ha=>by (cases ha),fun _=>rfl⟩
    ·cases hx
   ·rename_i hvirt;split at hx
    ·rename_i hc;cases hx;obtain ⟨rfl,_⟩:=hv hgen.symm (by simpa using hvirt);obtain ⟨cur,hw,hs,hl,hr⟩:=i.blk β bk hbk (by simpa using hvirt);refine ⟨_,cap,(cur.toList.drop off).take (m*esz),rfl,⟨t65,fun j v x hv hx=>?_⟩,fun a ha j v hv=>?_,fun h0=>by cases h0⟩
     ·rw[List.getElem?_take,List.getElem?_drop]at hv hx;split at hv
      ·rename_i hlt;rw[if_pos hlt]at hx;exact hr _ v x t158 hx
      ·cases hv
     ·cases ha;rw[Addr.add_lit,cell_of_row w _ _ cur _ _ hw];rw[List.getElem?_take,List.getElem?_drop]at hv;split at hv
      ·simpa using hv
      ·cases hv
    ·cases hx
  ·cases hx
 ·cases hx
def OkE (P:Program)(G:Nat→AV)(B:Nat)(h:c6)(φ:Map)(w:World)(s:Sem Value)(x:AV)(h':c6):Prop:=
 ∃v w' φ',s.run P w=.ok v w'∧Pic G B h' φ' w'∧Ev h φ w h' φ' w'∧Rel h' φ' w' v x
theorem zU:∀(offs:List Nat) (h h':c6) (cs cs':List AV) (vs:List Value),Pic G B h φ w→s6 h φ w vs cs→zO C offs h cs=some (h',cs')→
  Pic G B h' φ w∧Ev h φ w h' φ w∧s6 h' φ w vs cs'
 | [],h,h',cs,cs',vs,i,c,hx=>by simp only[zO,Option.some.injEq,Prod.mk.injEq]at hx;obtain ⟨rfl,rfl⟩:=hx;exact ⟨i,.refl _ _ _,c⟩
 | off::rest,h,h',cs,cs',vs,i,c,hx=>by
  simp only[zO]at hx;split at hx
  ·rename_i hn;obtain ⟨i1,e1⟩:=pW i;have hv:∃v,vs[off]?=some v:=by have h1:=(List.getElem?_eq_some_iff.1 hn).1;rw[←c.1]at h1;exact ⟨_,List.getElem?_eq_getElem h1⟩
   obtain ⟨v,hv⟩:=hv;have hnil:=(c.2 off v _ hv hn).2.eK;subst hnil;have c1:s6 (h++[⟨0,true,0,0,[],0⟩]) φ w vs (cs.set off (.own h.length 0 0 0)):=by
    refine ⟨by simp[c.1],fun j u x hu hx=>?_⟩;by_cases hj:j=off
    ·subst hj;have hlt:=(List.getElem?_eq_some_iff.1 hn).1;rw[List.getElem?_set_self hlt]at hx;cases hx;rw[hv]at hu;cases hu;exact ⟨rfl,.own h.length 0 0 0 0 none ⟨0,true,0,0,[],0⟩ (by simp) (Nat.le_refl _) (Nat.le_refl _) (Nat.zero_le _) (fun h0=>by omega) (fun _ _=>⟨rfl,rfl⟩) (fun _ h0=>by cases h0)⟩
    ·rw[List.getElem?_set_ne (Ne.symm hj)]at hx;exact ⟨(c.2 j u x hu hx).1,e1.rel (c.2 j u x hu hx).2⟩
   obtain ⟨i2,e2,c2⟩:=zU rest _ h' _ cs' vs i1 c1 hx;exact ⟨i2,e1.trans e2,c2⟩
  ·exact zU rest h h' cs cs' vs i c hx
  ·cases hx
theorem J0 (w:World)(o:Obj):(w.alloc o).heap[w.heap.size]?=some o:=heap_alloc_new w o
variable {cur:Array Value}
theorem vI (i:Pic G B h φ w){t esz n m:Nat}(c:s6 h φ w cur.toList cells) :
  (newRow t cur).run P w=.ok ⟨w.heap.size,0,none⟩ (w.alloc (.cells cur t))∧∃φ',Pic G B (h++[⟨0,false,t,esz,cells,0⟩]) φ' (w.alloc (.cells cur t))∧Ev h φ w (h++[⟨0,false,t,esz,cells,0⟩]) φ' (w.alloc (.cells cur t))∧
   Rel (h++[⟨0,false,t,esz,cells,0⟩]) φ' (w.alloc (.cells cur t)) (.pointer (some ⟨w.heap.size,0,none⟩)) (.ptr h.length 0 0)∧
   (n≤m→m≤maxLen→m*esz=cur.size→Rel (h++[⟨0,false,t,esz,cells,0⟩]) φ' (w.alloc (.cells cur t)) (.slice (some ⟨w.heap.size,0,none⟩) n m) (.own h.length 0 0 n)):=by
 have hl:cells.length=cur.size:=by have:=c.1;simp at this;omega
 obtain ⟨i1,e1⟩:=rS i (esz:=esz) (cells:=cells) (World.grownBy_alloc w (.cells cur t) none) w.heap.size (Nat.le_refl _) (J0 w _) (by omega) (fun j v x hv hx=>c.2 j v x t158 hx);refine ⟨by simp[newRow],_,i1,e1,.ptr _ _ _ _ _ (by simp;rfl) (Nat.le_refl _) (fun _ _=>by simp),fun h1 h2 h3=>?_⟩;exact .own _ _ _ _ m _ ⟨0,false,t,esz,cells,0⟩ (by simp) (Nat.le_refl _) h1 h2 (fun _=>⟨_,rfl⟩) (fun _ h0=>by cases h0) (fun _ _=>by simp[h3])
theorem yP (i:Pic G B h φ w){t:TypeId}{cs:List AV}{x:AV}{h':c6}(c:s6 h φ w cur.toList cs)(hx:pC C t h cs=some (x,h')) :
  OkE P G B h φ w (do pure (.pointer (some (←newRow t cur)))) x h':=by
 unfold pC at hx;split at hx
 ·split at hx
  ·rename_i h1 cs1 hv;cases hx;obtain ⟨i1,e1,c1⟩:=zU _ _ _ _ _ _ i c hv;obtain ⟨hrun,φ',i2,e2,r2,_⟩:=vI (P:=P) (t:=t) (esz:=C.sz t) (n:=0) (m:=0) i1 c1;exact ⟨_,_,φ',by simp[hrun],i2,e1.trans e2,r2⟩
  ·cases hx
 ·cases hx
theorem X9 (z:List AV):∀(n j:Nat),(List.replicate n z).flatten[j]?=if j<n*z.length then z[j%z.length]? else none
 | 0,j=>by simp
 | n+1,j=>by
  rw[List.replicate_succ,List.flatten_cons];by_cases hj:j<z.length
  ·rw[List.getElem?_append_left hj,if_pos (by rw[Nat.succ_mul];omega),Nat.mod_eq_of_lt hj]
  ·rw[List.getElem?_append_right (by omega),X9 z n (j-z.length)];have e:j%z.length=(j-z.length)%z.length:=Nat.mod_eq_sub_mod (by omega);rw[e,Nat.succ_mul];by_cases h1:j-z.length<n*z.length
   ·rw[if_pos h1,if_pos (by omega)]
   ·rw[if_neg h1,if_neg (by omega)]
theorem eL (z:List AV)(n:Nat):(List.replicate n z).flatten.length=n*z.length:=by simp
theorem vJ {zc:Array Value}{z:List AV}(c:s6 h φ w zc.toList z):s6 h φ w ((Array.range (n*zc.size)).map (zc[·%zc.size]!)).toList (List.replicate n z).flatten:=by
 have hz:zc.size=z.length:=by have:=c.1;simpa using this
 refine ⟨by simp[hz],fun j v x hv hx=>?_⟩;rw[X9]at hx;split at hx
 ·rename_i hj;have hpos:0<z.length:=by
   rcases Nat.eq_zero_or_pos z.length with h0 | h0
   ·rw[h0]at hj;omega
   ·exact h0
  have hm:j%z.length<z.length:=Nat.mod_lt _ hpos;refine c.2 (j%z.length) v x ?_ hx;simp only[Array.toList_map,List.getElem?_map,Array.getElem?_toList]at hv;have hr:(Array.range (n*zc.size))[j]?=some j:=by simp[hz,hj]
  rw[hr]at hv;simp only[Option.map_some,Option.some.injEq]at hv;rw[hz]at hv;have hm':j%z.length<zc.size:=by omega
  rw[getElem!_pos zc _ hm']at hv;rw[←hv];simp[hm']
 ·cases hx
end
section
variable {P:Program}{C:Cfg}{G:Nat→AV}{B:Nat}{h:c6}{φ:Map}{w:World}
theorem yQ:∀(cells:List AV) (l:List UInt8),kH cells=some l→∀(vs:List Value),s6 h φ w vs cells→∃ns:List Int,vs=ns.map (Value.int .u8)∧l=ns.map fun n=>UInt8.ofNat n.toNat
 | [],l,hx,vs,c=>by
  simp[kH]at hx;have:vs=[]:=by have:=c.1;simpa using this
  exact ⟨[],by simpa using this,by simp[hx]⟩
 | x::r,l,hx,vs,c=>by
  cases x;case int k n=>
   cases k;case u8=>
    simp only[kH]at hx;obtain ⟨l',hl',rfl⟩:=Option.map_eq_some_iff.1 hx;cases vs with
    | nil=>have:=c.1;simp at this
    | cons v vs=>
     have hv:=(c.2 0 v _ rfl rfl).2.z5;subst hv;obtain ⟨ns,rfl,rfl⟩:=yQ r l' hl' vs ⟨by have:=c.1;simpa using this,fun j v x hv hx=>c.2 (j+1) v x hv hx⟩;exact ⟨n::ns,rfl,rfl⟩
   all_goals simp[kH]at hx
  all_goals simp[kH]at hx
theorem mS:∀(l:List Int) (r:ByteArray),l.foldl (fun r n=>r.push (UInt8.ofNat n.toNat)) r=⟨r.data++(l.map fun n=>UInt8.ofNat n.toNat).toArray⟩
 | [],r=>by simp
 | n::l,r=>by simp only[List.foldl_cons,List.map_cons];rw[mS l];simp[ByteArray.push]
theorem FX (i:Pic G B h φ w)(g:Good P C){t:TypeId}{u:Value}{p x:AV}(ru:Rel h φ w u p)(hx:DJ C h t p=some x):∃v,(Instr.loadAt t u).run P w=.ok v w∧Rel h φ w v x:=by
 unfold DJ at hx;split at hx
 ·rename_i hagg;have hk:(C.ut t).known=true:=by revert hagg;cases C.ut t<;>simp[UD.isAgg,UD.known]
  obtain ⟨cells,hc,rfl⟩:=Option.map_eq_some_iff.1 hx;obtain ⟨bl,o,vs,rfl,hcell,hrel,hlen⟩:=I9 i ru hc;have hload:=run_loadCells_list (P:=P) w ⟨bl,o,none⟩ vs (fun j v hv=>by rw[Addr.add_lit];exact hcell j v hv);rw[hrel.1,hlen]at hload;refine ⟨.agg vs.toArray,?_,s6.agg (by simpa using hrel)⟩;simp[Instr.loadAt,Instr.sureAddr,loadVar,pZ g hk,hagg,run_sizeOf g hk,hload]
 ·rename_i hagg;split at hx
  ·rename_i hk;split at hx
   ·rename_i v' hx';cases hx;obtain ⟨bl,o,vs,rfl,hcell,hrel,hlen⟩:=I9 i ru hx'
    match vs,hrel with
    | [v],hrel=>
     refine ⟨v,?_,(hrel.2 0 v x rfl rfl).2⟩;have hc:=hcell 0 v rfl;simp only[Nat.add_zero]at hc;simp[Instr.loadAt,Instr.sureAddr,loadVar,pZ g hk,hagg,hc]
    | [],hrel=>have:=hrel.1;simp at this
    | _::_::_,hrel=>have:=hrel.1;simp at this
   ·cases hx
  ·cases hx
theorem tL (i:Pic G B h φ w)(g:Good P C){s d e:TypeId}{u:Value}{p:AV}{m:Nat}{cells:List AV}{l:List UInt8}(hs:C.ut s=.slice e)(hd:C.ut d=.str)(he:C.ut e=.int .u8)
  (ru:Rel h φ w u p) (hc:rd h 1 p=some cells) (hm:lenOf p=some m) (hlen:cells.length=m) (hl:kH cells=some l):(convert s d u).run P w=.ok (.string ⟨l.toArray⟩) w:=by
 obtain ⟨ad,cap,vs,rfl,hrel,hcell,hnone⟩:=ZI i ru hc hm;obtain ⟨ns,rfl,rfl⟩:=yQ cells l hl vs hrel;rw[run_convert_bytes_string w s d e ad m cap (bM g hs).1 (pD g he) (nK g hd)];cases ad with
 | none=>
  have h0:=hnone rfl;have:ns=[]:=by simpa using h0
  subst this;simp[Conv.bytesToString];rfl
 | some a=>
  have hll:(ns.map (Value.int .u8)).length=m:=by rw[hrel.1,hlen]
  have hload:=run_loadCells_list (P:=P) w a (ns.map (Value.int .u8)) (fun j v hv=>hcell a rfl j v hv);rw[hll]at hload;rw[run_bytesToString w a m cap ns hload,mS];simp
theorem PF (i:Pic G B h φ w)(g:Good P C){ρc:Operand→Value}{ρ:Operand→AV}(hρ:∀x,Rel h φ w (ρc x) (ρ x)){o:Oper}{x:AV}(hp:gV C ρ h o.op=some x) :
  ∃v,(execOp ρc o).run P w=.ok (.value v) w∧Rel h φ w v x:=by
 obtain ⟨dst,op,type,pos,after,guard⟩:=o;simp only at hp;unfold gV at hp;split at hp
 ·rename_i t y;obtain ⟨v,hrun,hr⟩:=FX i g (hρ y) hp;exact ⟨v,by simp[execOp,hrun],hr⟩
 ·rename_i s d y;split at hp
  ·rename_i e hs hd;split at hp
   ·rename_i he;split at hp
    ·rename_i cells m hc hm;split at hp
     ·rename_i hlen;obtain ⟨l,hl,rfl⟩:=Option.map_eq_some_iff.1 hp;have hrun:=tL i g hs hd he (hρ y) hc hm hlen hl;exact ⟨_,by simp[execOp,hrun],.pX _⟩
     ·cases hp
    ·cases hp
   ·cases hp
  ·cases hp
 ·cases hp
end
section
variable {P:Program}{C:Cfg}{G:Nat→AV}{B:Nat}{h:c6}{φ:Map}{w:World}
def rU (cur:Array Value)(o:Nat)(vs:List Value):Array Value:=(cur.toList.take o++vs++cur.toList.drop (o+vs.length)).toArray
variable {cur:Array Value}{vs:List Value}
theorem jP {o:Nat}(hl:o+vs.length≤cur.size):(rU cur o vs).size=cur.size:=by simp[rU];omega
theorem nM {o:Nat}(hl:o+vs.length≤cur.size)(j:Nat):(rU cur o vs)[j]?=if o≤j∧j<o+vs.length then vs[j-o]? else cur[j]?:=by
 unfold rU;rw[List.getElem?_toArray];by_cases h1:j<o
 ·rw[if_neg (by omega),List.append_assoc,List.getElem?_append_left t65,List.getElem?_take_of_lt h1];simp
 ·by_cases h2:j<o+vs.length
  ·rw[if_pos (by omega),List.getElem?_append_left t65,List.getElem?_append_right t65];congr 1;simp;omega
  ·rw[if_neg (by omega),List.getElem?_append_right t65,List.getElem?_drop];simp only[Array.getElem?_toList];congr 1;simp;omega
theorem J3 {cur:Array Value}{cells new:List AV}{o:Nat}{vs:List Value}(hr:∀(j:Nat) v x,cur[j]?=some v→cells[j]?=some x→v.oneCell'=true∧Rel h φ w v x)(c:s6 h φ w vs new)
  (hl:o+vs.length≤cur.size) (hc:o+new.length≤cells.length) :
  ∀(j:Nat) v x,(rU cur o vs)[j]?=some v→(H7 cells o new)[j]?=some x→v.oneCell'=true∧Rel h φ w v x:=by
 intro j v x hv hx;rw[nM hl]at hv;rw[X8 _ _ _ _ hc]at hx;rw[c.1]at hv;split at hv
 ·rename_i h1;rw[if_pos h1]at hx;exact c.2 _ v x hv hx
 ·rename_i h1;rw[if_neg h1]at hx;exact hr j v x hv hx
theorem zV {cur:Array Value}{cells new:List AV}{o:Nat}{vs:List Value}(hr:∀(j:Nat) v x,cur[j]?=some v→cells[j]?=some x→v.oneCell'=true∧Rel h φ w v x)(c:s6 h φ w vs new)
  (hl:o+vs.length≤cur.size) (hc:o≤cells.length) :
  ∀(j:Nat) v x,(rU cur o vs)[j]?=some v→(cells.take o++new)[j]?=some x→v.oneCell'=true∧Rel h φ w v x:=by
 intro j v x hv hx;rw[nM hl]at hv;by_cases h1:j<o
 ·rw[if_neg (by omega)]at hv;rw[List.getElem?_append_left t65,List.getElem?_take_of_lt h1]at hx;exact hr j v x hv hx
 ·rw[List.getElem?_append_right t65]at hx;have e:j-(cells.take o).length=j-o:=by simp;omega
  rw[e]at hx;have hj:j-o<new.length:=(List.getElem?_eq_some_iff.1 hx).1;rw[if_pos (by rw[c.1];omega)]at hv;exact c.2 _ v x hv hx
theorem yR (i:Pic G B h φ w){u:Value}{p:AV}{new:List AV}{h':c6}(ru:Rel h φ w u p)(c:s6 h φ w vs new)(hx:pB h p new=some h') :
  ∃a w',u=.pointer (some a)∧(storeCells a vs).run P w=.ok () w'∧Pic G B h' φ w'∧Ev h φ w h' φ w':=by
 unfold pB at hx;split at hx
 ·rename_i β g off;split at hx
  ·rename_i b hb;split at hx
   ·rename_i hc;obtain ⟨h1,h2,h3,h4⟩:=hc;cases hx;obtain ⟨bl,b',rfl,hb',hg,hv⟩:=ru.rT;rw[hb]at hb';cases hb';obtain rfl:=hv h1.symm h2;obtain ⟨cur,hw,hs,hl,hr⟩:=i.blk β b hb h2;have hfit:off+vs.length≤cur.size:=by rw[c.1];omega
    have hst:=run_storeCells_at P (φ β).1 off b.elem vs 0 cur w hw (by simpa using hfit) (fun v hv=>by
     obtain ⟨j,hj,rfl⟩:=List.mem_iff_getElem.1 hv;have hj':j<new.length:=by rw[←c.1];exact hj
     exact (c.2 j _ _ (List.getElem?_eq_getElem hj) (List.getElem?_eq_getElem hj')).1)
    simp only[Nat.add_zero]at hst;have hset:=nL i (w':=w.setRow (φ β).1 (rU cur off vs)) (b':={ b with cells:=H7 b.cells off new }) (k:=(φ β).1) (n:=(φ β).2) (cur:=rU cur off vs) hb
     rfl rfl rfl (by simp) (fun j _ hj=>setRow_other w _ j _ (hj h2)) (.inl ⟨h2,rfl⟩) (setRow_heap w _ cur _ _ _ hw) (by rw[jP hfit,hs])
     (by rw[jP hfit,pE _ _ _ h3];exact hl) (J3 hr c hfit h3) h2 (Nat.le_refl _) (fun _=>⟨rfl,h2,rfl⟩)
     (fun _ j hj=>by rw[cell_of_row _ _ _ _ _ _ (setRow_heap w _ cur _ _ _ hw),cell_of_row w _ _ cur _ _ hw,nM hfit,if_neg (by omega)]) (fun _=>Nat.le_refl _)
    have eφ:(fun γ=>if γ=β then ((φ β).1,(φ β).2) else φ γ)=φ:=by
     funext γ;by_cases hγ:γ=β
     ·subst hγ;simp
     ·simp[hγ]
    rw[eφ]at hset;exact ⟨_,_,rfl,hst,hset⟩
   ·cases hx
  ·cases hx
 ·cases hx
theorem jX {t ty e:TypeId}(ht:P.underlying t=some (.slice e)){i:TypeInfo}(hi:P.info? e=some i)(ad ad':Option Addr)(n cap cap':Nat)(hn:n≤cap) :
  (Builtin.append_ #[t,t] ty #[.slice ad n cap,.slice ad' 0 cap']).run P w=.ok (.slice ad n cap) w:=by
 have hf:(Builtin.firstCells i.size 0 (.slice ad' 0 cap')).run P w=.ok #[] w:=by
  cases ad' with
  | none=>simp[Builtin.firstCells]
  | some a=>simp[Builtin.firstCells,loadCells,loadCellsFrom]
 cases ad with
 | none=>simp[Builtin.append_,run_underlying ht,sizeOf,typeInfo,hi,Builtin.lenOf,hn,hf]
 | some a=>simp[Builtin.append_,run_underlying ht,sizeOf,typeInfo,hi,Builtin.lenOf,hn,hf,storeCells]
end
section
variable {P:Program}{C:Cfg}{G:Nat→AV}{B:Nat}{h:c6}{φ:Map}{w:World}
theorem PG {cur:Array Value}{cells:List AV}{o:Nat}(hr:∀(j:Nat) v x,cur[j]?=some v→cells[j]?=some x→v.oneCell'=true∧Rel h φ w v x)(hl:cells.length≤cur.size)(hc:o≤cells.length) :
  s6 h φ w (cur.toList.take o) (cells.take o):=by
 refine ⟨t65,fun j v x hv hx=>?_⟩;rw[List.getElem?_take]at hv hx;split at hv
 ·rename_i hlt;rw[if_pos hlt]at hx;exact hr j v x t158 hx
 ·cases hv
variable {vs:List Value}{xs:List AV}
theorem s6.append {us:List Value}{ys:List AV}(a:s6 h φ w vs xs)(b:s6 h φ w us ys):s6 h φ w (vs++us) (xs++ys):=by
 refine ⟨by simp[a.1,b.1],fun j v x hv hx=>?_⟩;by_cases hj:j<vs.length
 ·rw[List.getElem?_append_left hj]at hv;rw[List.getElem?_append_left (by rw[←a.1];exact hj)]at hx;exact a.2 j v x hv hx
 ·rw[List.getElem?_append_right (by omega)]at hv;rw[List.getElem?_append_right (by rw[←a.1];omega),←a.1]at hx;exact b.2 _ v x hv hx
theorem s6.one (c:s6 h φ w vs xs):∀v∈vs,v.oneCell'=true:=by
 intro v hv;obtain ⟨j,hj,rfl⟩:=List.mem_iff_getElem.1 hv;have hj':j<xs.length:=by rw[←c.1];exact hj
 exact (c.2 j _ _ (List.getElem?_eq_getElem hj) (List.getElem?_eq_getElem hj')).1
theorem s6.behind {rest:List Value}(c:s6 h φ w vs xs):∀(j:Nat) v x,(vs++rest).toArray[j]?=some v→xs[j]?=some x→v.oneCell'=true∧Rel h φ w v x:=by
 intro j v x hv hx;have hj:j<vs.length:=by rw[c.1];exact (List.getElem?_eq_some_iff.1 hx).1
 rw[List.getElem?_toArray,List.getElem?_append_left hj]at hv;exact c.2 j v x hv hx
theorem kI (w:World)(o:Obj):w.grownBy (w.drew.alloc o) none:=pY (sU w) (World.grownBy_alloc _ _ _)
theorem zW (w:World)(o:Obj):(w.drew.alloc o).heap[w.heap.size]?=some o:=J0 w.drew o
variable {us:Value}{base src x:AV}{h':c6}
theorem DK (i:Pic G B h φ w)(g:Good P C){t tn ty e:TypeId}{kn:IntKind}(ht:C.ut t=.slice e)(htn:C.ut tn=.int kn){ub:Value}(rb:Rel h φ w ub base)(rs:Rel h φ w us src)(hx:R2 C e h base src=some (x,h')) :
  OkE P G B h φ w (Builtin.append_ #[t,tn] ty #[ub,us]) x h':=by
 obtain ⟨hut,hke⟩:=bM g ht;unfold R2 at hx;split at hx
 ·rename_i k n;split at hx
  ·rename_i hc;obtain ⟨h0,hmx,hpos,hzl,hby⟩:=hc;cases hx;cases rb.eK;cases rs.z5;obtain ⟨ei,z,hi,hz,hs,heb,hzr,_⟩:=oB (h:=h) (φ:=φ) (w:=w) g hke;have hzsz:z.cells.size=C.sz e:=by have:=hzr.1;simp at this;omega
   have hzs:=vJ (n:=n.toNat) hzr;have hmx':n.toNat≤maxLen:=by omega
   have h63:((n.toNat:Nat):Int)≤9223372036854775807:=by simp only[maxLen]at hmx';omega
   have hrun:=Lib.run_append_nil_zeros (P:=P) w t tn ty e ei z k kn hut (pD g htn) hi hz n.toNat (by omega) (by rw[hs];exact hpos) h63 (by rw[heb];omega);rw[show ((n.toNat:Nat):Int)=n by omega]at hrun;have hcap:n.toNat≤grownCap w n.toNat 0 e:=grownCap_ge w _ 0 e;have hcm:grownCap w n.toNat 0 e≤maxLen:=grownCap_le_maxLen w _ 0 e hmx';have hzc:Builtin.zeroCells z.cells n.toNat=(Array.range (n.toNat*z.cells.size)).map (z.cells[·%z.cells.size]!):=rfl;rw[←hzc]at hzs;have hrow:(Builtin.zeroCells z.cells n.toNat++Builtin.zeroCells z.cells (grownCap w n.toNat 0 e-n.toNat))=((Builtin.zeroCells z.cells n.toNat).toList++(Builtin.zeroCells z.cells (grownCap w n.toNat 0 e-n.toNat)).toList).toArray:=by apply Array.ext';simp
   rw[hrow]at hrun;have mY:((Builtin.zeroCells z.cells n.toNat).toList++(Builtin.zeroCells z.cells (grownCap w n.toNat 0 e-n.toNat)).toList).toArray.size=grownCap w n.toNat 0 e*C.sz e:=by simp[size_zeroCells,hzsz,←Nat.add_mul];congr 1;omega
   obtain ⟨i1,e1⟩:=rS i (esz:=C.sz e) (cells:=(List.replicate n.toNat (C.ti e).zero).flatten) (kI w _) w.heap.size (Nat.le_refl _) (zW w (.cells ((Builtin.zeroCells z.cells n.toNat).toList++(Builtin.zeroCells z.cells (grownCap w n.toNat 0 e-n.toNat)).toList).toArray e))
    (by rw[mY,eL,hzl];exact Nat.mul_le_mul_right _ hcap) hzs.behind
   exact ⟨_,_,_,hrun,i1,e1,.own _ _ _ _ _ _ ⟨0,false,e,C.sz e,(List.replicate n.toNat (C.ti e).zero).flatten,0⟩ (by simp) (Nat.le_refl _) hcap hcm (fun _=>⟨_,rfl⟩) (fun _ h0=>by cases h0) (fun _ _=>⟨by simp,fun _=>by simp only[if_true];rw[mY]⟩)⟩
  ·cases hx
 ·cases hx
theorem DL (i:Pic G B h φ w)(g:Good P C){t ty e:TypeId}(ht:C.ut t=.slice e){ub:Value}(rb:Rel h φ w ub base)(rs:Rel h φ w us src)(hx:j9 C e h base src=some (x,h')) :
  OkE P G B h φ w (Builtin.append_ #[t,t] ty #[ub,us]) x h':=by
 obtain ⟨hut,hke⟩:=bM g ht;obtain ⟨ei,z,hei,hez,hes,heb,_,_,hz1⟩:=g.known hke;have hzsz:z.cells.size=C.sz e:=by obtain ⟨_,z',hei',hez',_,_,he',hl',_⟩:=g.known hke;rw[hei]at hei';cases hei';rw[hez]at hez';cases hez';rw[←hl',←he'];simp
 unfold j9 at hx;split at hx
 ·rename_i new m hnew hm;split at hx
  ·rename_i hlen;obtain ⟨hlen,hpos⟩:=hlen;obtain ⟨ad,cp,vs,rfl,hrel,hcell,hnone⟩:=ZI i rs hnew hm;have hvl:vs.length=m*ei.size:=by rw[hrel.1,hlen,hes]
   have addr:m≠0→∃a,ad=some a∧∀(j:Nat) v,vs[j]?=some v→w.cell? (a.add j)=some v:=by
    intro hm0;cases ad with
    | none=>
     have:=hnone rfl;subst this;have:0<m*C.sz e:=Nat.mul_pos (by omega) hpos;rw[hes]at hvl;simp at hvl;omega
    | some a=>exact ⟨a,rfl,hcell a rfl⟩
   split at hx
   ·
    cases rb.eK;split at hx
    ·rename_i hm0;cases hx;subst hm0;exact ⟨_,w,φ,jX hut hei none ad 0 0 cp (Nat.le_refl _),i,.refl _ _ _,.pure .j4⟩
    ·rename_i hm0;split at hx
     ·rename_i hb;cases hx;obtain ⟨a,rfl,hc⟩:=addr hm0;have hrun:=run_append_nil (P:=P) w t ty e ei z hut hei hez a m cp vs hvl hc (by omega) (by have:=hb.1;simp only[maxLen]at this;omega) (by rw[heb];omega);have hcap:m≤grownCap w m 0 e:=grownCap_ge w m 0 e;have hcm:grownCap w m 0 e≤maxLen:=grownCap_le_maxLen w m 0 e hb.1;have hrow:(vs.toArray++Builtin.zeroCells z.cells (grownCap w m 0 e-m))=(vs++(Builtin.zeroCells z.cells (grownCap w m 0 e-m)).toList).toArray:=by apply Array.ext';simp
      rw[hrow]at hrun;have mY:(vs++(Builtin.zeroCells z.cells (grownCap w m 0 e-m)).toList).toArray.size=grownCap w m 0 e*C.sz e:=by simp[size_zeroCells,hvl,hes,hzsz,←Nat.add_mul];congr 1;omega
      obtain ⟨i1,e1⟩:=rS i (esz:=C.sz e) (cells:=new) (kI w _) w.heap.size (Nat.le_refl _) (zW w (.cells (vs++(Builtin.zeroCells z.cells (grownCap w m 0 e-m)).toList).toArray e))
       (by rw[mY,hlen];exact Nat.mul_le_mul_right _ hcap) hrel.behind
      refine ⟨_,_,_,hrun,i1,e1,.own _ _ _ _ _ _ ⟨0,false,e,C.sz e,new,0⟩ (by simp) (Nat.le_refl _) hcap hcm (fun _=>⟨_,rfl⟩) (fun _ h0=>by cases h0) (fun _ _=>⟨by simp,fun _=>by simp only[if_true];rw[mY]⟩)⟩
     ·cases hx
   ·
    rename_i β gn off len;split at hx
    ·rename_i b hb;split at hx
     ·rename_i hcond;obtain ⟨hgen,rfl,hbound,hbytes⟩:=hcond;obtain ⟨adb,cap,bk,rfl,hbk,hg,hlc,hcm,had,hn,hv⟩:=rb.jV;rw[hb]at hbk;cases hbk;split at hx
      ·rename_i hm0;cases hx;subst hm0;exact ⟨_,w,φ,jX hut hei adb ad len cap cp hlc,i,.refl _ _ _,rb⟩
      ·rename_i hm0;obtain ⟨a,rfl,hc⟩:=addr hm0;split at hx
       ·
        rename_i hvirt;split at hx
        ·rename_i hl0;cases hx;subst hl0;obtain ⟨rfl,rfl⟩:=hn hgen.symm hvirt;simp only[Nat.zero_add]at hbound hbytes;have hrun:=run_append_nil (P:=P) w t ty e ei z hut hei hez a m cp vs hvl hc (by omega) (by have:=hbound;simp only[maxLen]at this;omega) (by rw[heb];omega);have hcap:m≤grownCap w m 0 e:=grownCap_ge w m 0 e;have hcm':grownCap w m 0 e≤maxLen:=grownCap_le_maxLen w m 0 e hbound;have hrow:(vs.toArray++Builtin.zeroCells z.cells (grownCap w m 0 e-m))=(vs++(Builtin.zeroCells z.cells (grownCap w m 0 e-m)).toList).toArray:=by apply Array.ext';simp
         rw[hrow]at hrun;have mY:(vs++(Builtin.zeroCells z.cells (grownCap w m 0 e-m)).toList).toArray.size=grownCap w m 0 e*C.sz e:=by simp[size_zeroCells,hvl,hes,hzsz,←Nat.add_mul];congr 1;omega
         have hgr:=kI w (.cells (vs++(Builtin.zeroCells z.cells (grownCap w m 0 e-m)).toList).toArray e);obtain ⟨i1,e1⟩:=nL i (b':=⟨gn+1,false,e,C.sz e,new,b.frz⟩) (k:=w.heap.size) hb hgr.os hgr.tape hgr.output hgr.size (fun j hj _=>hgr.block j hj (by simp)) (.inr (Nat.le_refl _))
          (zW w _) mY (by rw[mY,hlen];exact Nat.mul_le_mul_right _ hcap) hrel.behind rfl (by simp[hgen]) (fun h0=>by simp[hgen]at h0) (fun h0=>by rw[hvirt]at h0;cases h0) (fun _=>Nat.le_refl _)
         have hlt:β<h.length:=(List.getElem?_eq_some_iff.1 hb).1;refine ⟨_,_,_,hrun,i1,e1,.own _ _ _ _ _ _ ⟨gn+1,false,e,C.sz e,new,b.frz⟩ (by simp[hlt]) (Nat.le_refl _) hcap hcm' (fun _=>⟨_,rfl⟩) (fun _ h0=>by cases h0) (fun _ _=>⟨by simp,fun _=>by simp⟩)⟩
        ·cases hx
       ·rename_i hvirt;have hvirt':b.cQ=false:=by simpa using hvirt
        split at hx
        ·rename_i hshape;obtain ⟨hbe,hbs,hbl,hbf⟩:=hshape;obtain ⟨rfl,hcur⟩:=hv hgen.symm hvirt';have hcur':=hcur rfl;obtain ⟨cur,hw,hs,hl,hr⟩:=i.blk β b hb hvirt';have hcs:cap*C.sz e=cur.size:=by rw[hs,←hcur',hbs]
         have hlt:β<h.length:=(List.getElem?_eq_some_iff.1 hb).1;have hfit:∀{c:Nat},len+m≤c→len*C.sz e+vs.length≤c*C.sz e:=fun hh=>by rw[hvl,hes,←Nat.add_mul];exact Nat.mul_le_mul_right _ hh
         have hroom:len+m≤cap→(Builtin.append_ #[t,t] ty #[.slice (some ⟨(φ β).1,0,none⟩) len cap,.slice (some a) m cp]).run P w=.ok (.slice (some ⟨(φ β).1,0,none⟩) (len+m) cap) (w.setRow (φ β).1 (rU cur (len*C.sz e) vs)):=fun hh=>by have:=run_append_room (P:=P) w t ty e ei hut hei (φ β).1 len cap cur (by rw[hw,hbe]) a m cp vs hvl hc hrel.one hh (by rw[hes,←hcs];exact hfit hh);rw[hes]at this;exact this
         split at hx
         ·
          rename_i hsure;cases hx;have hle:len+m≤cap:=by
           have h1:(len+m)*C.sz e≤cap*C.sz e:=by rw[hcs];omega
           exact Nat.le_of_mul_le_mul_right h1 hpos
          have hf2:len*C.sz e+vs.length≤cur.size:=by rw[←hcs];exact hfit hle
          have hf3:len*C.sz e+new.length≤b.cells.length:=by rw[hlen,←Nat.add_mul];exact hsure
          have hset:=nL i (w':=w.setRow (φ β).1 (rU cur (len*C.sz e) vs)) (b':={ b with cells:=H7 b.cells (len*C.sz e) new }) (k:=(φ β).1) (n:=(φ β).2) (cur:=rU cur (len*C.sz e) vs) hb
           rfl rfl rfl (by simp) (fun j _ hj=>setRow_other w _ j _ (hj hvirt')) (.inl ⟨hvirt',rfl⟩) (setRow_heap w _ cur _ _ _ hw) (by rw[jP hf2,hs])
           (by rw[jP hf2,pE _ _ _ hf3];exact hl) (J3 hr hrel hf2 hf3) hvirt' (Nat.le_refl _) (fun _=>⟨rfl,hvirt',rfl⟩)
           (fun _ j hj=>by rw[cell_of_row _ _ _ _ _ _ (setRow_heap w _ cur _ _ _ hw),cell_of_row w _ _ cur _ _ hw,nM hf2,if_neg (by omega)]) (fun _=>Nat.le_refl _)
          have eφ:(fun γ=>if γ=β then ((φ β).1,(φ β).2) else φ γ)=φ:=by
           funext γ;by_cases hγ:γ=β
           ·subst hγ;simp
           ·simp[hγ]
          rw[eφ]at hset;exact ⟨_,_,φ,hroom hle,hset.1,hset.2,.own _ _ _ _ _ _ { b with cells:=H7 b.cells (len*C.sz e) new } (by simp[hlt]) (by simp[hgen]) hle hcm (fun _=>⟨_,rfl⟩) (fun _ h0=>by simp[hvirt']at h0) (fun _ _=>⟨rfl,hcur⟩)⟩
         ·
          rename_i hsure;cases hx;by_cases hle:len+m≤cap
          ·have hf2:len*C.sz e+vs.length≤cur.size:=by rw[←hcs];exact hfit hle
           have hset:=nL i (w':=w.setRow (φ β).1 (rU cur (len*C.sz e) vs)) (b':=⟨gn+1,false,e,C.sz e,b.cells.take (len*C.sz e)++new,b.frz⟩) (k:=(φ β).1) (n:=(φ β).2) (cur:=rU cur (len*C.sz e) vs) hb
            rfl rfl rfl (by simp) (fun j _ hj=>setRow_other w _ j _ (hj hvirt')) (.inl ⟨hvirt',rfl⟩) (by rw[←hbe];exact setRow_heap w _ cur _ _ _ hw) (by rw[jP hf2,hs])
            (by rw[jP hf2];simp;rw[hlen];rw[hrel.1,hlen]at hf2;omega) (zV hr hrel hf2 hbl) rfl (by simp[hgen]) (fun h0=>by simp[hgen]at h0)
            (fun _ j hj=>by rw[cell_of_row _ _ _ _ _ _ (setRow_heap w _ cur _ _ _ hw),cell_of_row w _ _ cur _ _ hw,nM hf2,if_neg (by omega)]) (fun _=>Nat.le_refl _)
           exact ⟨_,_,_,hroom hle,hset.1,hset.2,.own _ _ _ _ _ _ ⟨gn+1,false,e,C.sz e,b.cells.take (len*C.sz e)++new,b.frz⟩ (by simp[hlt]) (Nat.le_refl _) hle hcm (fun _=>⟨_,rfl⟩) (fun _ h0=>by cases h0) (fun _ _=>⟨by simp,fun _=>by simp only[if_true];rw[hcs,hs]⟩)⟩
          ·have htake:=PG hr hl hbl;have hall:=htake.append hrel;have hol:(cur.toList.take (len*C.sz e)).length=len*ei.size:=by rw[hes];simp;omega
           have hrun:=run_append_grow (P:=P) w t ty e ei z hut hei hez ⟨(φ β).1,0,none⟩ len cap (cur.toList.take (len*C.sz e)) hol (fun j v hv=>by
             rw[Addr.add_lit,Nat.zero_add,cell_of_row w _ _ cur _ _ hw];rw[List.getElem?_take]at hv;split at hv
             ·simpa using hv
             ·cases hv) a m cp vs hvl hc (by omega) (by simp only[maxLen]at hbound;omega) (growslice_fits (by omega) (by rw[heb];exact hbytes))
           have hcap:len+m≤grownCap w (len+m) cap e:=grownCap_ge w (len+m) cap e;have hcm':grownCap w (len+m) cap e≤maxLen:=grownCap_le_maxLen w (len+m) cap e hbound;have hrow:((cur.toList.take (len*C.sz e)).toArray++vs.toArray++Builtin.zeroCells z.cells (grownCap w (len+m) cap e-(len+m)))=(cur.toList.take (len*C.sz e)++vs++(Builtin.zeroCells z.cells (grownCap w (len+m) cap e-(len+m))).toList).toArray:=by apply Array.ext';simp
           rw[hrow]at hrun;have mY:(cur.toList.take (len*C.sz e)++vs++(Builtin.zeroCells z.cells (grownCap w (len+m) cap e-(len+m))).toList).toArray.size=grownCap w (len+m) cap e*C.sz e:=by rw[List.size_toArray,List.length_append,List.length_append,hol,hvl,hes,Array.length_toList,size_zeroCells,hzsz,←Nat.add_mul,←Nat.add_mul];congr 1;omega
           have hgr:=kI w (.cells (cur.toList.take (len*C.sz e)++vs++(Builtin.zeroCells z.cells (grownCap w (len+m) cap e-(len+m))).toList).toArray e);obtain ⟨i1,e1⟩:=nL i (b':=⟨gn+1,false,e,C.sz e,b.cells.take (len*C.sz e)++new,b.frz⟩) (k:=w.heap.size) hb hgr.os hgr.tape hgr.output hgr.size (fun j hj _=>hgr.block j hj (by simp)) (.inr (Nat.le_refl _))
            (zW w _) mY (by
             have h1:(b.cells.take (len*C.sz e)++new).length=(len+m)*C.sz e:=by rw[List.length_append,List.length_take,hlen,Nat.min_eq_left hbl,Nat.add_mul]
             rw[mY,h1];exact Nat.mul_le_mul_right _ hcap) hall.behind rfl (by simp[hgen]) (fun h0=>by simp[hgen]at h0)
            (fun _ j _=>World.cell?_of_block (hgr.block _ (i.lt hb hvirt') (by simp))) (fun _=>Nat.le_refl _)
           refine ⟨_,_,_,hrun,i1,e1,.own _ _ _ _ _ _ ⟨gn+1,false,e,C.sz e,b.cells.take (len*C.sz e)++new,b.frz⟩ (by simp[hlt]) (Nat.le_refl _) hcap hcm' (fun _=>⟨_,rfl⟩) (fun _ h0=>by cases h0) (fun _ _=>⟨by simp,fun _=>by simp⟩)⟩
        ·cases hx
     ·cases hx
    ·cases hx
   ·
    rename_i n cells;split at hx
    ·rename_i hm0;cases hx;subst hm0;have hp:=rb.nH;have hv:∃adb cap,ub=.slice adb n cap∧n≤cap:=by
      cases hp with
      | yE a c=>exact ⟨a,c,rfl,Nat.zero_le _⟩
      | vec b o n' c _ vs hS hnc=>exact ⟨_,c,rfl,hnc⟩
     obtain ⟨adb,cap,rfl,hnc⟩:=hv;exact ⟨_,w,φ,jX hut hei adb ad n cap cp hnc,i,.refl _ _ _,rb⟩
    ·cases hx
   ·cases hx
  ·cases hx
 ·cases hx
theorem bZ {β γ:Nat}{b c:Blk}(hb:h[β]?=some b)(hc:(h.set β (rR b))[γ]?=some c):(γ=β∧c=rR b)∨(γ≠β∧h[γ]?=some c):=by
 have hl:=(List.getElem?_eq_some_iff.1 hb).1;by_cases e:γ=β
 ·subst e;rw[List.getElem?_set_self hl]at hc;exact .inl ⟨rfl,by simpa using hc.symm⟩
 ·rw[List.getElem?_set_ne (Ne.symm e)]at hc;exact .inr ⟨e,hc⟩
theorem tM (w:World)(t e:TypeId)(bl n c:Nat)(cur:Array Value)(el:TypeId)(ht:P.underlying t=some (.slice e))(he:P.underlying e=some (.int .u8))(hw:w.heap[bl]?=some (.cells cur el (0,0))) :
  ∃w',(convert t t (.slice (some ⟨bl,0,none⟩) n c)).run P w=.ok (.slice (some ⟨bl,0,none⟩) n c) w'∧w'.os=w.os∧w'.tape=w.tape∧w'.output=w.output∧w'.heap.size=w.heap.size∧(∀k,k≠bl→w'.heap[k]?=w.heap[k]?)∧∃m,w'.heap[bl]?=some (.cells cur el m):=by
 have hsh:w.shape? bl=some (el,cur.size):=by unfold World.shape?;rw[hw]
 have hlt:bl<w.heap.size:=(Array.getElem?_eq_some_iff.1 hw).1;refine ⟨w.freeze ⟨bl,cur.size,none⟩ 1,?_,?_,?_,?_,?_,fun k hk=>?_,?_⟩
 ·simp[convert,run_underlying ht,run_underlying he,markStringish,hsh]
 ·unfold World.freeze;split<;>rfl
 ·unfold World.freeze;split<;>rfl
 ·unfold World.freeze;split<;>rfl
 ·unfold World.freeze;rw[if_neg (by decide)];simp
 ·unfold World.freeze;rw[if_neg (by decide)];simp only[Array.getElem?_modify];rw[if_neg (fun h=>hk h.symm)]
 ·unfold World.freeze;rw[if_neg (by decide)];simp only[Array.getElem?_modify,if_true,hw,Option.map_some];exact ⟨_,rfl⟩
theorem PH {β:Nat}{b:Blk}{w':World}(i:Pic G B h φ w)(hb:h[β]?=some b)(hbv:b.cQ=false)(h1:w'.os=w.os)(h2:w'.tape=w.tape)(h3:w'.output=w.output)(h4:w'.heap.size=w.heap.size)(h5:∀k,k≠(φ β).1→w'.heap[k]?=w.heap[k]?)(hcell:∀k j,w'.cell? ⟨k,j,none⟩=w.cell? ⟨k,j,none⟩) :
  Pic G B (h.set β (rR b)) φ w'∧Ev h φ w (h.set β (rR b)) φ w':=by
 have ev:Ev h φ w (h.set β (rR b)) φ w':=by
  refine ⟨h1,h2,h3,by omega,fun k hk=>⟨h5 k fun e=>hk.2 β b hb hbv e.symm,by rw[h4];exact hk.1,fun γ c hc hv=>?_⟩,fun k j hk=>⟨hcell k j,by rw[h4];exact hk.1,fun γ c hc hv=>?_⟩,by simp,fun γ c c' k1 k2=>?_⟩
  ·rcases bZ hb hc with ⟨_,rfl⟩ | ⟨_,hc'⟩
   ·cases hv
   ·exact hk.2 γ c hc' hv
  ·rcases bZ hb hc with ⟨_,rfl⟩ | ⟨_,hc'⟩
   ·cases hv
   ·exact hk.2 γ c hc' hv
  ·rcases bZ hb k2 with ⟨rfl,rfl⟩ | ⟨_,k2'⟩
   ·rw[hb]at k1;cases k1;exact ⟨by simp[rR],fun e=>by simp[rR]at e⟩
   ·rw[k1]at k2';cases k2';exact ⟨Nat.le_refl _,fun _=>⟨rfl,rfl,rfl⟩⟩
 refine ⟨⟨fun γ c hc hv=>?_,fun γ γ' c c' hc hc' hv hv' he=>?_,fun γ c hc hv=>?_,fun γ c hc hv=>?_,by rw[h4];exact i.room,fun g=>ev.H8 (i.eJ g)⟩,ev⟩
 ·rcases bZ hb hc with ⟨_,rfl⟩ | ⟨hne,hc'⟩
  ·cases hv
  ·obtain ⟨cur,k1,k2,k3,k4⟩:=i.blk γ c hc' hv;exact ⟨cur,(h5 _ fun e=>hne (i.inj γ β c b hc' hb hv hbv e)).trans k1,k2,k3,fun j v x a d=>⟨(k4 j v x a d).1,ev.rel (k4 j v x a d).2⟩⟩
 ·rcases bZ hb hc with ⟨_,rfl⟩ | ⟨_,k1⟩
  ·cases hv
  ·rcases bZ hb hc' with ⟨_,rfl⟩ | ⟨_,k2⟩
   ·cases hv'
   ·exact i.inj γ γ' c c' k1 k2 hv hv' he
 ·rcases bZ hb hc with ⟨_,rfl⟩ | ⟨_,hc'⟩
  ·cases hv
  ·exact i.base γ c hc' hv
 ·rcases bZ hb hc with ⟨_,rfl⟩ | ⟨_,hc'⟩
  ·rfl
  ·exact i.cQ γ c hc' hv
def OkX (P:Program)(G:Nat→AV)(B:Nat)(h:c6)(φ:Map)(w:World)(s:Sem Next)(x:AV)(h':c6):Prop:=
 ∃nx v w' φ',s.run P w=.ok nx w'∧(nx=.value v∨(nx=.skip∧v=undef))∧Pic G B h' φ' w'∧Ev h φ w h' φ' w'∧Rel h' φ' w' v x
theorem PJ (i:Pic G B h φ w)(g:Good P C){t ty e:TypeId}(ht:C.ut t=.slice e){ud:Value}{d s:AV}(rb:Rel h φ w ud d)(rs:Rel h φ w us s)(hx:ZF C e h d s=some (x,h')) :
  OkE P G B h φ w (Builtin.copy_ #[t,t] ty #[ud,us]) x h':=by
 obtain ⟨hut,hke⟩:=bM g ht;unfold ZF at hx;split at hx
 ·rename_i new m β gn off len hnew hm;split at hx
  ·rename_i hc;obtain ⟨rfl,hlen⟩:=hc;obtain ⟨h1,hw,heq⟩:=Option.map_eq_some_iff.1 hx;cases heq;obtain ⟨ad,cp,vs,rfl,hrel,hcell,hnone⟩:=ZI i rs hnew hm;obtain ⟨ad',cap,bk,rfl,hbk,hg,hlc,hcm,had,hn,hv⟩:=rb.jV;have hb:bk.gen=gn∧bk.cQ=false:=by
    unfold pB at hw;simp only[hbk]at hw;split at hw
    ·rename_i hq;exact ⟨hq.1,hq.2.1⟩
    ·cases hw
   obtain ⟨rfl,_⟩:=hv hb.1.symm hb.2;have rp:Rel h φ w (.pointer (some ⟨(φ β).1,off,none⟩)) (.ptr β gn off):=.ptr _ _ _ _ bk hbk (by omega) (fun _ _=>rfl);obtain ⟨a,w',ha,hrun,i1,e1⟩:=yR (P:=P) i rp hrel hw;cases ha;have hf:(Builtin.firstCells (C.sz e) m (.slice ad m cp)).run P w=.ok vs.toArray w:=by
    cases ad with
    | none=>rw[hnone rfl];simp[Builtin.firstCells]
    | some a=>
     have:=run_loadCells_list (P:=P) w a vs (hcell a rfl);rw[hrel.1,hlen]at this;simpa [Builtin.firstCells] using this
   refine ⟨_,w',φ,?_,i1,e1,.pure (.int _ _)⟩;simp[Builtin.copy_,u7 hut,run_sizeOf g hke,Builtin.lenOf,hf,hrun,goInt]
  ·cases hx
 ·cases hx
theorem FY (i:Pic G B h φ w)(g:Good P C){ρc:Operand→Value}{ρ:Operand→AV}(hρ:∀x,Rel h φ w (ρc x) (ρ x)){o:Oper}(hp:nZ C ρ h o.op=some (x,h')) :
  OkX P G B h φ w (execOp ρc o) x h':=by
 obtain ⟨dst,op,type,pos,after,guard⟩:=o;simp only at hp;unfold nZ at hp;split at hp
 ·rename_i t;split at hp
  ·rename_i hk;obtain ⟨ti,z,hi,hz,hs,_,hzr,hzl⟩:=oB (h:=h) (φ:=φ) (w:=w) g hk;obtain ⟨v,w',φ',h1,h2,h3,h4⟩:=yP (P:=P) i hzr hp;refine ⟨_,v,w',φ',?_,.inl rfl,h2,h3,h4⟩;have e1:(Instr.alloc t true (.tuple #[])).run P w=.ok v w':=by simp only[Instr.alloc,zeroValue,typeInfo,Sem.run_bind,run_program,hi,hz,Sem.run_pure,Result.andThen_ok,newVar]at h1 ⊢;exact h1
   simp[execOp,e1]
  ·cases hp
 ·rename_i t y;split at hp
  ·rename_i hst;obtain ⟨hsz,hcs⟩:=(hρ y).cellsOf hst;obtain ⟨v,w',φ',h1,h2,h3,h4⟩:=yP (P:=P) (cur:=(ρc y).cells) i ⟨by simpa using hsz,fun j u x a b=>hcs j u x (by simpa using a) b⟩ hp;refine ⟨_,v,w',φ',?_,.inl rfl,h2,h3,h4⟩;have e1:(Instr.box t (ρc y)).run P w=.ok v w':=by simp only[Instr.box,newVar];exact h1
   simp[execOp,e1]
  ·cases hp
 ·rename_i t len parts;split at hp
  ·rename_i e hu;obtain ⟨hue,hke⟩:=bM g hu;split at hp
   ·rename_i hb;split at hp
    ·rename_i cells hfill;split at hp
     ·rename_i hcl;cases hp;obtain ⟨ei,z,hi,hz,hs,_,hzr,hzl⟩:=oB (h:=h) (φ:=φ) (w:=w) g hke;have hzsz:z.cells.size=C.sz e:=by have:=hzr.1;simp at this;omega
      have hzs:=vJ (n:=len) hzr;rw[hzsz]at hzs;obtain ⟨h1,h2⟩:=I7 hρ parts;obtain ⟨cur,hf,hrel⟩:=qA (h:=h) (φ:=φ) (w:=w) _ (fun i=>some (i*C.sz e,C.sz e)) (fun j p hp=>by
       split at hp
       ·exact hp
       ·cases hp) _ (parts.map fun (i,x)=>(i,ρc x)).toList _ cells _ hzs (by simp) (fun j p p' a b=>h2 j p p' a (by simpa using b)) hfill
      have hcs:cur.size=len*C.sz e:=by have:=hrel.1;simp at this;omega
      obtain ⟨hrun,φ',i1,e1,_,r1⟩:=vI (P:=P) (t:=e) (esz:=C.sz e) (n:=len) (m:=len) i hrel;refine ⟨_,_,_,φ',?_,.inl rfl,i1,e1,r1 (Nat.le_refl _) hcl.2 (by rw[hcs])⟩;have hne:¬(16777216<len*C.sz e):=by omega
      have ebs:(Instr.buildSlice t len (parts.map fun (i,x)=>(i,ρc x))).run P w=.ok (.slice (some ⟨w.heap.size,0,none⟩) len len) (w.alloc (.cells cur e)):=by
       by_cases h0:len*C.sz e=0
       ·have hl0:len=0:=by rcases Nat.mul_eq_zero.1 h0 with h | h<;>omega
        have hf':Instr.fill (fun i=>some (i*C.sz e,C.sz e)) ((Array.range (len*C.sz e)).map ((#[]:Array Value)[·%(#[]:Array Value).size]!)) (parts.map fun (i,x)=>(i,ρc x)).toList=some cur:=by rw[←hf];congr 1;apply Array.ext<;>simp[h0]
        simp only[Instr.buildSlice,Sem.run_bind,u7 hue,Result.andThen_ok,run_sizeOf g hke];simp[h0]at hf' ⊢;simp[hf',hrun]
       ·have hf':Instr.fill (fun i=>some (i*C.sz e,C.sz e)) ((Array.range (len*C.sz e)).map (z.cells[·%z.cells.size]!)) (parts.map fun (i,x)=>(i,ρc x)).toList=some cur:=by rw[←hf,hzsz]
        simp only[Instr.buildSlice,Sem.run_bind,u7 hue,Result.andThen_ok,run_sizeOf g hke];simp[hne,h0,zeroValue,typeInfo,hi,hz]at hf' ⊢;simp[hf',hrun]
      simp[execOp,ebs]
     ·cases hp
    ·cases hp
   ·cases hp
  ·cases hp
 ·rename_i t l c;split at hp
  ·rename_i e k n k' m hu hl hc;obtain ⟨hue,hke⟩:=bM g hu;split at hp
   ·rename_i hb;obtain ⟨rfl,h0,hby,hmx,hpos,hzl⟩:=hb;cases hp;have hv:=(hl▸hρ l:Rel h φ w (ρc l) _).z5;have hv2:=(hc▸hρ c:Rel h φ w (ρc c) _).z5;obtain ⟨ei,z,hi,hz,hs,heb,hzr,_⟩:=oB (h:=h) (φ:=φ) (w:=w) g hke;have hzsz:z.cells.size=C.sz e:=by have:=hzr.1;simp at this;omega
    have hzs:=vJ (n:=n.toNat) hzr;have hrun:=run_make (P:=P) w t e ei z hue hi hz k k' n n h0 (Int.le_refl _) (by rw[heb];exact hby) (by simp only[maxLen]at hmx;omega);have hrow:(Array.range (n.toNat*z.cells.size)).map (z.cells[·%z.cells.size]!)=madeCells z.cells (n.toNat*ei.size):=by unfold madeCells;rw[hzsz,hs]
    rw[hrow]at hzs;obtain ⟨_,φ',i1,e1,_,r1⟩:=vI (P:=P) (t:=e) (esz:=C.sz e) (n:=n.toNat) (m:=n.toNat) i hzs;refine ⟨_,_,_,φ',?_,.inl rfl,i1,e1,r1 (Nat.le_refl _) (by omega) (by rw[size_madeCells,hs])⟩;simp only[execOp,hv,hv2,Sem.run_bind,hrun,Result.andThen_ok,Sem.run_pure]
   ·cases hp
  ·cases hp
 ·rename_i t p y;split at hp
  ·rename_i hst;obtain ⟨hst,hlen,hk⟩:=hst;obtain ⟨h1,hw,heq⟩:=Option.map_eq_some_iff.1 hp;cases heq;obtain ⟨hsz,hcs⟩:=(hρ y).cellsOf hst;obtain ⟨a,w',hv,hrun,i1,e1⟩:=yR (P:=P) (vs:=(ρc y).cells.toList) i (hρ p) ⟨by simpa using hsz,fun j u x a b=>hcs j u x (by simpa using a) b⟩ hw;refine ⟨.skip,undef,w',φ,?_,.inr ⟨rfl,rfl⟩,i1,e1,.jW _⟩;have hne:(ρc y).cells.size=C.sz t:=by omega
   simp[execOp,Instr.storeAt,hv,Instr.sureAddr,storeVar,run_sizeOf g hk,hne,hrun]
  ·cases hp
 ·rename_i s d y;split at hp
  ·rename_i e β gn len hs hy;split at hp
   ·rename_i hc;obtain ⟨rfl,hee⟩:=hc;split at hp
    ·rename_i b hb;split at hp
     ·rename_i hc;obtain ⟨hg,hv,hle,hall⟩:=hc;cases hp;have ry:Rel h φ w (ρc y) (.own β gn 0 len):=hy▸hρ y;obtain ⟨ad,cap,b',hval,hb',hg2,hlc,hcm,had,hn,hvv⟩:=ry.jV;rw[hb]at hb';cases hb';obtain ⟨rfl,_⟩:=hvv hg.symm hv;obtain ⟨cur,hw,hsz,hl,hr⟩:=i.blk β b hb hv;obtain ⟨w',q1,q2,q3,q4,q5,q6,m,q7⟩:=tM (P:=P) w s e (φ β).1 len cap cur b.elem (bM g hs).1 (pD g hee) hw;obtain ⟨i',e'⟩:=PH i hb hv q2 q3 q4 q5 q6 (fun k j=>by
       by_cases hk:k=(φ β).1
       ·subst hk;rw[cell_of_row _ _ _ _ _ _ q7,cell_of_row w _ _ cur _ _ hw]
       ·exact World.cell?_of_block (q6 k hk))
      refine ⟨_,.slice (some ⟨(φ β).1,0,none⟩) len cap,w',φ,(by simp only[execOp,hval,Sem.run_bind,q1,Result.andThen_ok,Sem.run_pure]),.inl rfl,i',e',.pure ?_⟩;have hlt:(φ β).1<w'.heap.size:=(Array.getElem?_eq_some_iff.1 q7).1;refine .vec (φ β).1 0 len cap _ (cur.toList.take len) (fun m hm=>⟨hlt,fun γ c hγ hcv he=>?_⟩) hlc t65 (fun j u hu=>?_) (fun j u z hu hz=>?_)
      ·rcases bZ hb hγ with ⟨_,rfl⟩ | ⟨hne,hγ'⟩
       ·cases hcv
       ·exact absurd (i.inj γ β c b hγ' hb hcv hv he) hne
      ·rw[List.getElem?_take]at hu;split at hu
       ·rename_i hj;have hu':cur[j]?=some u:=by simpa using hu
        have hjc:j<b.cells.length:=by omega
        refine ⟨?_,(hr j u b.cells[j] hu' (List.getElem?_eq_getElem hjc)).1⟩;rw[Nat.zero_add,cell_of_row w' _ _ cur _ _ q7];exact hu'
       ·cases hu
      ·rw[List.getElem?_take]at hu hz;split at hu
       ·rename_i hj;rw[if_pos hj]at hz;have hz':=List.all_eq_true.1 hall z (List.mem_of_getElem? hz);have hrel:=(hr j u z t149 hz).2;cases z with
        | int k n=>
         have:=hrel.z5;subst this;exact .int _ _
        | _=>cases hz'
       ·cases hu
     ·cases hp
    ·cases hp
   ·cases hp
  ·cases hp
 ·rename_i c;obtain ⟨callee,args,argTypes⟩:=c;split at hp
  ·rename_i hc;simp only at hc;subst hc;split at hp
   ·rename_i b y t u ha ht;simp only at ha ht;have ha':args=#[b,y]:=by cases args;simpa using ha
    have ht':argTypes=#[t,u]:=by cases argTypes;simpa using ht
    subst ha' ht';split at hp
    ·rename_i e hu;split at hp
     ·rename_i htu;subst htu;obtain ⟨v,w',φ',h1,h2,h3,h4⟩:=DL (ty:=type) i g hu (hρ b) (hρ y) hp;exact ⟨_,v,w',φ',t201,.inl rfl,h2,h3,h4⟩
     ·split at hp
      ·rename_i kn hun;obtain ⟨v,w',φ',h1,h2,h3,h4⟩:=DK (ty:=type) i g hu hun (hρ b) (hρ y) hp;exact ⟨_,v,w',φ',t201,.inl rfl,h2,h3,h4⟩
      ·cases hp
    ·cases hp
   ·cases hp
  ·rename_i hc;simp only at hc;subst hc;split at hp
   ·rename_i b y t u ha ht;simp only at ha ht;have ha':args=#[b,y]:=by cases args;simpa using ha
    have ht':argTypes=#[t,u]:=by cases argTypes;simpa using ht
    subst ha' ht';split at hp
    ·rename_i e hu;split at hp
     ·rename_i htu;subst htu;obtain ⟨v,w',φ',h1,h2,h3,h4⟩:=PJ (ty:=type) i g hu (hρ b) (hρ y) hp;exact ⟨_,v,w',φ',t201,.inl rfl,h2,h3,h4⟩
     ·cases hp
    ·cases hp
   ·cases hp
  ·cases hp
 ·cases hp
end
def CallA (P:Program)(C:Cfg)(f:FuncId)(args:List AV)(h:c6)(Q:AV→c6→Prop):Prop:=
 ∀(B:Nat) (φ:Map) (w:World) (cargs:Array Value),Pic C.eJ B h φ w→cargs.size=args.length→(∀(j:Nat) v x,cargs[j]?=some v→args[j]?=some x→Rel h φ w v x)→
  Calls P f cargs w fun e w'=>∃v x h' φ',e=.returned v∧Pic C.eJ B h' φ' w'∧Ev h φ w h' φ' w'∧Rel h' φ' w' v x∧Q x h'
def Post (C:Cfg)(B:Nat)(h:c6)(φ:Map)(w:World)(Q:Exit→St→Prop):Exit→Act→World→Prop:=
 fun e a' w'=>∃st' φ',Pic C.eJ B st'.h φ' w'∧Ev h φ w st'.h φ' w'∧kS st'.h φ' w' a' st'.sl∧Q e st'
def c9 (P:Program)(C:Cfg)(c:Code)(st:St)(Q:Exit→St→Prop):Prop:=
 ∀(B:Nat) (φ:Map) (w:World) (a:Act),Pic C.eJ B st.h φ w→kS st.h φ w a st.sl→c.wp P (Post C B st.h φ w Q) a w
section
variable {P:Program}{C:Cfg}
variable {f:FuncId}{args:List AV}{h:c6}
theorem CallA.mono {Q Q':AV→c6→Prop}(c:CallA P C f args h Q)(hq:∀x h',Q x h'→Q' x h'):CallA P C f args h Q':=
 fun B φ w cargs i hs hr=>(c B φ w cargs i hs hr).mono fun _ _ ⟨v,x,h',φ',h1,h2,h3,h4,h5⟩=>⟨v,x,h',φ',h1,h2,h3,h4,hq _ _ h5⟩
variable {c:Code}{st:St}
theorem c9.mono {Q Q':Exit→St→Prop}(r:c9 P C c st Q)(hq:∀e st',Q e st'→Q' e st'):c9 P C c st Q':=
 fun B φ w a i s=>wp_mono (r B φ w a i s) fun _ _ _ ⟨st',φ',h1,h2,h3,h4⟩=>⟨st',φ',h1,h2,h3,hq _ _ h4⟩
theorem c9.skip {Q:Exit→St→Prop}(hq:Q .normal st):c9 P C .skip st Q:=
 fun _ φ w _ i s=>wp_skip ⟨st,φ,i,.refl _ _ w,s,hq⟩
theorem c9.exit {id:Nat}{Q:Exit→St→Prop}(hq:Q (.exit id) st):c9 P C (.exit id) st Q:=
 fun _ φ w _ i s=>wp_exit ⟨st,φ,i,.refl _ _ w,s,hq⟩
theorem c9.ret {Q:Exit→St→Prop}(hq:Q .ret st):c9 P C .ret st Q:=
 fun _ φ w _ i s=>wp_ret ⟨st,φ,i,.refl _ _ w,s,hq⟩
def ZJ (P:Program)(C:Cfg)(y:Code)(Q:Exit→St→Prop):Exit→St→Prop
 | .normal,st=>c9 P C y st Q
 | e,st=>Q e st
theorem c9.seq {x y:Code}{Q:Exit→St→Prop}(r:c9 P C x st (ZJ P C y Q)):c9 P C (.seq x y) st Q:=by
 intro B φ w a i s;refine wp_seq (wp_mono (r B φ w a i s) fun e a' w' hp=>?_);obtain ⟨st',φ',h1,h2,h3,h4⟩:=hp;cases e with
 | normal=>exact wp_mono (h4 B φ' w' a' h1 h3) fun e a'' w'' ⟨st2,φ2,k1,k2,k3,k4⟩=>⟨st2,φ2,k1,h2.trans k2,k3,k4⟩
 | exit id=>exact ⟨st',φ',h1,h2,h3,h4⟩
 | goto l=>exact ⟨st',φ',h1,h2,h3,h4⟩
 | ret=>exact ⟨st',φ',h1,h2,h3,h4⟩
 | panic ch=>exact ⟨st',φ',h1,h2,h3,h4⟩
 | outgrown=>exact ⟨st',φ',h1,h2,h3,h4⟩
theorem c9.cond {c:Operand}{x y:Code}{Q:Exit→St→Prop}{t:Bool}(hc:rho C st.sl c=.bool t)(r:c9 P C (if t then x else y) st Q):c9 P C (.cond c x y) st Q:=by intro B φ w a i s;have he:=s.eval i rfl c;rw[hc]at he;exact wp_cond he.bP (r B φ w a i s)
def vK (id:Nat)(Q:Exit→St→Prop):Exit→St→Prop
 | .exit id',st=>if id'=id then Q .normal st else Q (.exit id') st
 | e,st=>Q e st
theorem c9.block {id:Nat}{Q:Exit→St→Prop}(r:c9 P C c st (vK id Q)):c9 P C (.block id c) st Q:=by
 intro B φ w a i s;refine wp_block (wp_mono (r B φ w a i s) fun e a' w' hp=>?_);obtain ⟨st',φ',h1,h2,h3,h4⟩:=hp;cases e with
 | exit id'=>
  simp only[Exit.inBlock,vK]at h4 ⊢;split
  ·rename_i he;rw[if_pos he]at h4;exact ⟨st',φ',h1,h2,h3,h4⟩
  ·rename_i he;rw[if_neg he]at h4;exact ⟨st',φ',h1,h2,h3,h4⟩
 | normal=>exact ⟨st',φ',h1,h2,h3,h4⟩
 | goto l=>exact ⟨st',φ',h1,h2,h3,h4⟩
 | ret=>exact ⟨st',φ',h1,h2,h3,h4⟩
 | panic ch=>exact ⟨st',φ',h1,h2,h3,h4⟩
 | outgrown=>exact ⟨st',φ',h1,h2,h3,h4⟩
def Round (I:Nat→St→Prop)(n:Nat)(Q:Exit→St→Prop):Exit→St→Prop
 | .normal,st=>∃m,m<n∧I m st
 | e,st=>Q e st
theorem c9.loop {Q:Exit→St→Prop}(I:Nat→St→Prop)(n:Nat)(h0:I n st)(round:∀m st',I m st'→c9 P C c st' (Round I m Q)):c9 P C (.loop c) st Q:=by
 intro B φ w a i s;refine wp_loop_ghost (fun m a' w'=>∃st' φ',Pic C.eJ B st'.h φ' w'∧Ev st.h φ w st'.h φ' w'∧kS st'.h φ' w' a' st'.sl∧I m st') n ⟨st,φ,i,.refl _ _ _,s,h0⟩ ?_;rintro m a' w' ⟨st1,φ1,i1,e1,s1,hI⟩;refine wp_mono (round m st1 hI B φ1 w' a' i1 s1) fun e a2 w2 hp=>?_;obtain ⟨st2,φ2,k1,k2,k3,k4⟩:=hp;cases e with
 | normal=>
  obtain ⟨m',hlt,hI'⟩:=k4;exact ⟨m',hlt,st2,φ2,k1,e1.trans k2,k3,hI'⟩
 | exit id=>exact ⟨st2,φ2,k1,e1.trans k2,k3,k4⟩
 | goto l=>exact ⟨st2,φ2,k1,e1.trans k2,k3,k4⟩
 | ret=>exact ⟨st2,φ2,k1,e1.trans k2,k3,k4⟩
 | panic ch=>exact ⟨st2,φ2,k1,e1.trans k2,k3,k4⟩
 | outgrown=>exact ⟨st2,φ2,k1,e1.trans k2,k3,k4⟩
def OpA (P:Program)(C:Cfg)(ρ:Operand→AV)(h:c6)(o:Op)(K:AV→c6→Prop):Prop:=
 (∃x h',v8 C ρ h o=some (x,h')∧K x h')∨(∃c f args,o=.call c∧aH C ρ c=some (f,args)∧p9 C f=true∧CallA P C f args h K)
variable {ρ:Operand→AV}
theorem OpA.plain {o:Op}{K:AV→c6→Prop}{x:AV}{h':c6}(hp:v8 C ρ h o=some (x,h'))(hk:K x h'):OpA P C ρ h o K:=.inl ⟨x,h',hp,hk⟩
theorem OpA.call {c:Call}{K:AV→c6→Prop}(ht:aH C ρ c=some (f,args))(hb:p9 C f=true)(hc:CallA P C f args h K):OpA P C ρ h (.call c) K:=
 .inr ⟨c,f,args,rfl,ht,hb,hc⟩
theorem OpA.mono {o:Op}{K K':AV→c6→Prop}(r:OpA P C ρ h o K)(hk:∀x h',K x h'→K' x h'):OpA P C ρ h o K':=by
 rcases r with ⟨x,h',h1,h2⟩ | ⟨c,f,args,h1,h2,h3,h4⟩
 ·exact .inl ⟨x,h',h1,hk _ _ h2⟩
 ·exact .inr ⟨c,f,args,h1,h2,h3,h4.mono hk⟩
def WK (C:Cfg)(B:Nat)(h:c6)(φ:Map)(w:World)(a:Act)(dst:Option Tmp)(K:AV→c6→Prop):Act→World→Prop:=
 fun a' w'=>∃v x h' φ',a'=a.put dst v∧Pic C.eJ B h' φ' w'∧Ev h φ w h' φ' w'∧Rel h' φ' w' v x∧K x h'
theorem FZ {B:Nat}{h:c6}{φ:Map}{w:World}(i:Pic C.eJ B h φ w)(g:Good P C){ρc:Operand→Value}{ρ:Operand→AV}(hρ:∀x,Rel h φ w (ρc x) (ρ x)){o:Oper}{x:AV}{h':c6}
  (hp:v8 C ρ h o.op=some (x,h')):OkX P C.eJ B h φ w (execOp ρc o) x h':=by
 unfold v8 at hp;split at hp
 ·rename_i y hy;cases hp;obtain ⟨v,w',h1,h2,h3⟩:=PE i g hρ hy;exact ⟨_,v,w',φ,h1,.inl rfl,i.iI h2,.iI h2,h3⟩
 ·split at hp
  ·rename_i y hy;cases hp;obtain ⟨v,h1,h3⟩:=PF i g hρ hy;exact ⟨_,v,w,φ,h1,.inl rfl,i,.refl _ _ _,h3⟩
  ·exact FY i g hρ hp
theorem size_of_list {ρc:Operand→Value}{ρ:Operand→AV}(first captured:Array Value)(xs ys:List AV)(l:Array Operand)(h1:first.size=xs.length)(h2:captured.size=ys.length) :
  (first++l.map ρc++captured).size=(xs++l.toList.map ρ++ys).length:=by
 simp[h1,h2]
theorem rV {h:c6}{φ:Map}{w:World}{a b:Array Value}{xs ys:List AV}(ha:a.size=xs.length)(ra:∀(j:Nat) v x,a[j]?=some v→xs[j]?=some x→Rel h φ w v x)
  (rb:∀(j:Nat) v x,b[j]?=some v→ys[j]?=some x→Rel h φ w v x):∀(j:Nat) v x,(a++b)[j]?=some v→(xs++ys)[j]?=some x→Rel h φ w v x:=by
 intro j v x hv hx;by_cases hj:j<a.size
 ·rw[Array.getElem?_append_left hj]at hv;rw[List.getElem?_append_left (by omega)]at hx;exact ra j v x hv hx
 ·rw[Array.getElem?_append_right (by omega)]at hv;rw[List.getElem?_append_right (by omega),←ha]at hx;exact rb _ v x hv hx
theorem sV {fn:Func}(hf:P.funcs[f]?=some fn)(hn:(fn.name == "runtime.NumGoroutine")=false)(hb:fn.body.isSome=true)(args:Array Value)(w:World) :
  (callFunc f args).run P w=.ok (.enter f args) w:=by
 have hb':fn.body.isNone=false:=by cases h:fn.body<;>simp[h]at hb ⊢
 simp only[callFunc,Sem.run_bind,run_program,Result.andThen_ok,hf,hn,hb',Bool.false_eq_true,if_false,Sem.run_pure]
theorem OpA.sound (g:Good P C){B:Nat}{φ:Map}{w:World}{a:Act}{h:c6}{ρ:Operand→AV}{o:Oper}{K:AV→c6→Prop}{Q:Exit→Act→World→Prop}(i:Pic C.eJ B h φ w)(hρ:∀x,Rel h φ w (a.eval x) (ρ x))
  (r:OpA P C ρ h o.op K):o.wp P a w (WK C B h φ w a o.dst K) Q:=by
 rcases r with ⟨x,h',hp,hk⟩ | ⟨c,f,args,ho,ht,hb,hc⟩
 ·obtain ⟨nx,v,w',φ',h1,h2,h3,h4,h5⟩:=FZ i g hρ hp;unfold Oper.wp;rw[h1];rcases h2 with rfl | ⟨rfl,rfl⟩
  ·exact ⟨v,x,h',φ',rfl,h3,h4,h5,hk⟩
  ·exact ⟨undef,x,h',φ',rfl,h3,h4,h5,hk⟩
 ·have hfn:∃fn,P.funcs[f]?=some fn∧(fn.name == "runtime.NumGoroutine")=false∧fn.body.isSome=true:=by
   unfold p9 at hb;split at hb
   ·rename_i fn hfn;exact ⟨fn,(g.fns f fn hfn).1,(g.fns f fn hfn).2,hb⟩
   ·cases hb
  obtain ⟨fn,hf,hnm,hbody⟩:=hfn;have key:∃cargs:Array Value,(execOp a.eval o).run P w=.ok (.enter f cargs) w∧cargs.size=args.length∧(∀(j:Nat) v x,cargs[j]?=some v→args[j]?=some x→Rel h φ w v x):=by
   obtain ⟨dst,op,type,pos,after,guard⟩:=o;simp only at ho;subst ho;obtain ⟨callee,cas,cts⟩:=c;unfold aH at ht;obtain ⟨l1,l2⟩:=tV hρ cas;cases callee with
   | value fo=>
    simp only at ht;split at ht
    ·rename_i id first captured hfo;cases ht;obtain ⟨ca,cc,hv,hs1,hs2,hr1,hr2⟩:=(hfo▸hρ fo:Rel h φ w (a.eval fo) _).WJ;refine ⟨ca++cas.map a.eval++cc,?_,size_of_list _ _ _ _ _ hs1 hs2,rV (by simp[hs1]) (rV hs1 hr1 l2) hr2⟩;simp only[execOp,resolve,hv,Deferred.ofValue,Sem.run_bind,Sem.run_pure,Result.andThen_ok,invoke];exact sV hf hnm hbody _ w
    ·cases ht
   | invoke recv name=>
    simp only at ht;split at ht
    ·rename_i t y hre;split at ht
     ·rename_i id hm;cases ht;obtain ⟨u,hv,hr⟩:=(hre▸hρ recv:Rel h φ w (a.eval recv) _).H9;refine ⟨#[u]++cas.map a.eval,?_,t65,?_⟩
      ·have hmeth:=(g.FI t name f hm u w).1;have hex:((#[.iface t u]++cas.map a.eval:Array Value)[0]?:Option Value)=some (.iface t u):=by rw[Array.getElem?_append_left (by simp)];rfl
       have hrest:(#[.iface t u]++cas.map a.eval:Array Value).extract 1 (#[.iface t u]++cas.map a.eval:Array Value).size=cas.map a.eval:=by apply Array.ext';simp;exact List.take_of_length_le (by simp)
       simp only[execOp,resolve,hv,Sem.run_bind,Sem.run_pure,Result.andThen_ok,invoke,hex,hrest,callMethod,run_program,hmeth];exact sV hf hnm hbody _ w
      ·have:=rV (a:=#[u]) (xs:=[y]) (b:=cas.map a.eval) (ys:=cas.toList.map ρ) (h:=h) (φ:=φ) (w:=w) rfl (fun j v x hv hx=>by
        match j with
        | 0=>
         simp at hv hx;subst hv hx;exact hr
        | j+1=>simp at hx) l2
       simpa using this
     ·cases ht
    ·cases ht
   | builtin b=>simp at ht
  obtain ⟨cargs,hrun,hsz,hrel⟩:=key;unfold Oper.wp;rw[hrun,Oper.upon_enter];refine (hc B φ w cargs i hsz hrel).mono fun e w' hpost=>?_;obtain ⟨v,x,h',φ',rfl,h1,h2,h3,h4⟩:=hpost;exact ⟨v,x,h',φ',rfl,h1,h2,h3,h4⟩
end
section
variable {P:Program}{C:Cfg}
variable {ops:Array Oper}
theorem Y0 {h:c6}{φ:Map}{w:World}{a:Act}{sl:List AV}(s:kS h φ w a sl){o:Oper}{b:Bool}(hw:aX ops sl o=some b):Region.wanted o (yielded ops a.tmps)=b:=by
  unfold aX at hw;unfold Region.wanted;cases hg:o.guard with
  | none=>simp[hg]at hw;simp[hw]
  | some jw=>
    obtain ⟨j,want⟩:=jw;simp only[hg]at hw;cases hd:(ops[j]?).bind (·.dst) with
    | none=>simp[hd]at hw
    | some d=>
      simp only[hd]at hw;split at hw
      · rename_i t ht
        cases hw;have hr:=s.rel d;rw[ht]at hr;have hv:=hr.bP;have ht':a.tmps[d]?=some (.bool t):=by
          cases he:a.tmps[d]? with
          | none=>simp[Array.getD_eq_getD_getElem?,he,undef]at hv
          | some v=>simp[Array.getD_eq_getD_getElem?,he]at hv;rw[hv]
        have hy:yielded ops a.tmps j=some t:=by unfold yielded;simp[hd,ht']
        simp only[hy];cases t<;>cases want<;>rfl
      · rename_i ht
        cases hw;have hr:=s.rel d;rw[ht]at hr;obtain ⟨a',hv,hsz,_⟩:=hr.nG;have hy:yielded ops a.tmps j=none:=by
          unfold yielded;simp only[hd,Option.bind_some];cases he:a.tmps[d]? with
          | none=>rfl
          | some v=>
            simp[Array.getD_eq_getD_getElem?,he]at hv;rw[hv]
        show (yielded ops a.tmps j==some want)=false;rw[hy];rfl
      · cases hw
theorem tW {h:c6}{φ:Map}{w:World}:Rel h φ w undef (.tup []):=.tup #[] [] rfl (by simp)
def o4 (P:Program)(C:Cfg)(ops:Array Oper):List Oper→St→(St→Prop)→Prop
  | [],st,Q=>Q st
  | o::rest,st,Q=>
    (aX ops st.sl o=some true∧OpA P C (rho C st.sl) st.h o.op fun x h'=>o4 P C ops rest ⟨eY st.sl o.dst x,h'⟩ Q)∨
    (aX ops st.sl o=some false∧o4 P C ops rest ⟨eY st.sl o.dst (.tup []),st.h⟩ Q)
theorem o4.sound (g:Good P C){ops:Array Oper}{B:Nat}{h0:c6}{φ0:Map}{w0:World}{Q:St→Prop}:∀(l:List Oper) (st:St) (φ:Map) (w:World) (a:Act),Pic C.eJ B st.h φ w→Ev h0 φ0 w0 st.h φ w→kS st.h φ w a st.sl→
    o4 P C ops l st Q→wpList P ops (Post C B h0 φ0 w0 fun e st'=>e=.normal∧Q st') l a w
  | [],st,φ,w,a,i,e,s,r=>⟨st,φ,i,e,s,rfl,r⟩
  | o::rest,st,φ,w,a,i,e,s,r=>by
    unfold wpList;rcases r with ⟨h1,h2⟩ | ⟨h1,h2⟩
    · rw[Y0 s h1]
      refine .inl (Oper.wp_mono (fun a' w' hp=>?_) (OpA.sound g i (s.eval i rfl) h2));obtain ⟨v,x,h',φ',rfl,i',e',r',k⟩:=hp;exact o4.sound g rest _ φ' w' _ i' (e.trans e') ((s.ev e').put o.dst r') k
    · rw[Y0 s h1]
      exact o4.sound g rest ⟨eY st.sl o.dst (.tup []),st.h⟩ φ w _ i e (s.put o.dst tW) h2
theorem c9.region (g:Good P C){id:Nat}{st:St}{Q:Exit→St→Prop}(r:o4 P C ops ops.toList st fun st'=>Q .normal st'):c9 P C (.region id ops false) st Q:=by intro B φ w a i s;refine wp_mono (wp_region_list (o4.sound g ops.toList st φ w a i (.refl _ _ _) s r)) fun e a' w' hp=>?_;obtain ⟨st',φ',h1,h2,h3,rfl,h4⟩:=hp;exact ⟨st',φ',h1,h2,h3,h4⟩
def DM (C:Cfg)(look:List Tmp)(sl:List AV):Operand→AV
  | .tmp t=>if look.contains t then sl.getD t .any else .any
  | x=>rho C sl x
structure eI where
  before:List (List Nat)
  eff:List Bool
def eI.bef (p:eI)(i:Nat):List Nat:=p.before.getD i []
def eI.isE (p:eI)(i:Nat):Bool:=p.eff.getD i false
def eI.gX (p:eI):Nat→Nat
  | 0=>0
  | i+1=>p.gX i+if p.isE i then 1 else 0
def eI.ok (p:eI)(ops:Array Oper)(slots:Nat):Bool:=
  (List.range ops.size).all fun i=>match ops[i]? with
    | none=>false
    | some o=>
      o.after.all (fun e=>decide (e.on<i)||! Region.binds .any e) &&
      (p.bef i).all (fun j=>o.after.any fun e=>Region.binds .any e&&(e.on==j||(p.bef e.on).contains j)) &&
      (match o.dst with
       | some d=>decide (d<slots)
       | none=>true) &&
      (List.range ops.size).all fun j=>j==i||match ops[j]? with
        | none=>false
        | some oj=>
          (match oj.dst with
           | some d=>o.dst != some d&&(!(o.looksAt ops).contains d||(if j<i then (p.bef i).contains j else (p.bef j).contains i))
           | none=>true) &&
          (!(p.isE i&&p.isE j&&decide (j<i))||(p.bef i).contains j)
def eI.meets (p:eI)(n i k:Nat):Bool:=
  (List.range n).all fun j=>! p.isE j||((!(p.bef i).contains j||decide (p.gX j<k))&&(!(p.bef j).contains i||decide (k≤p.gX j)))
def J4 (P:Program)(C:Cfg)(ops:Array Oper)(p:eI):List Oper→Nat→List AV→List c6→List (Nat×(c6→Prop))→(St→Prop)→Prop
  | [],_,sl,hs,pend,Q=>(∀x∈pend,∀k,k<hs.length→p.meets ops.size x.1 k=true→x.2 (hs.reverse.getD k []))∧Q ⟨sl,hs.headD []⟩
  | o::rest,i,sl,hs,pend,Q=>
    (aX ops sl o=some true∧p.isE i=true∧∃x h',OpA P C (DM C (o.looksAt ops) sl) (hs.headD []) o.op (fun y h=>y=x∧h=h')∧J4 P C ops p rest (i+1) (eY sl o.dst x) (h'::hs) pend Q)∨
    (aX ops sl o=some true∧p.isE i=false∧∃x,fC C (DM C (o.looksAt ops) sl) o.op=some x∧J4 P C ops p rest (i+1) (eY sl o.dst x) hs pend Q)∨
    (aX ops sl o=some true∧p.isE i=false∧∃x,J4 P C ops p rest (i+1) (eY sl o.dst x) hs ((i,fun H=>OpA P C (DM C (o.looksAt ops) sl) H o.op (fun y h=>y=x∧h=H))::pend) Q)∨
    (aX ops sl o=some false∧p.isE i=false∧J4 P C ops p rest (i+1) (eY sl o.dst (.tup [])) hs pend Q)
end
section
variable {P:Program}{C:Cfg}
def oY:List AV→List Oper→List AV→Nat→List AV
 | sl,_,_,0=>sl
 | sl,o::l,r::rs,j+1=>oY (eY sl o.dst r) l rs j
 | sl,_,_,_=>sl
def Fact (P:Program)(C:Cfg)(ops:Array Oper)(p:eI)(F:List c6)(i:Nat)(o:Oper)(sl:List AV)(r:AV):Prop:=
 (aX ops sl o=some true∧p.isE i=true∧OpA P C (DM C (o.looksAt ops) sl) (F.getD (p.gX i) []) o.op fun y h=>y=r∧h=F.getD (p.gX i+1) [])∨
 (aX ops sl o=some true∧p.isE i=false∧∀k,k<F.length→p.meets ops.size i k=true→OpA P C (DM C (o.looksAt ops) sl) (F.getD k []) o.op fun y h=>y=r∧h=F.getD k [])∨
 (aX ops sl o=some false∧p.isE i=false∧r=.tup [])
theorem lF {ops:Array Oper}{p:eI}{Q:St→Prop}:∀(l:List Oper) (i:Nat) (sl:List AV) (hs:List c6) (pend:List (Nat×(c6→Prop))),
  J4 P C ops p l i sl hs pend Q→hs.length=p.gX i+1→
  ∃(rs:List AV) (more:List c6),rs.length=l.length∧(hs.reverse++more).length=p.gX (i+l.length)+1∧
   (∀x∈pend,∀k,k<(hs.reverse++more).length→p.meets ops.size x.1 k=true→x.2 ((hs.reverse++more).getD k []))∧
   (∀j o,l[j]?=some o→Fact P C ops p (hs.reverse++more) (i+j) o (oY sl l rs j) (rs.getD j .any))∧
   Q ⟨oY sl l rs l.length,(hs.reverse++more).getD (p.gX (i+l.length)) []⟩
 | [],i,sl,hs,pend,hd,hl=>by
  obtain ⟨h1,h2⟩:=hd;refine ⟨[],[],rfl,t189,t141,by simp,?_⟩;have e:(hs.reverse++[]).getD (p.gX (i+([]:List Oper).length)) []=hs.headD []:=by
   cases hs with
   | nil=>simp at hl
   | cons x hs=>
    simp only[List.append_nil,List.length_nil,Nat.add_zero,List.headD_cons,List.reverse_cons];simp at hl;rw[List.getD_eq_getElem?_getD,List.getElem?_append_right t65];simp[hl]
  rw[e];exact h2
 | o::rest,i,sl,hs,pend,hd,hl=>by
  have hcur:∀more:List c6,(hs.reverse++more).getD (p.gX i) []=hs.headD []:=fun more=>by
   cases hs with
   | nil=>simp at hl
   | cons x hs=>
    simp only[List.headD_cons,List.reverse_cons];simp at hl;rw[List.getD_eq_getElem?_getD,List.append_assoc,List.getElem?_append_right t65];simp[hl]
  have hlen:i+(o::rest).length=i+1+rest.length:=by simp;omega
  rcases hd with ⟨h1,h2,x,h',h3,h4⟩ | ⟨h1,h2,x,h3,h4⟩ | ⟨h1,h2,x,h4⟩ | ⟨h1,h2,h4⟩
  ·obtain ⟨rs,more,k1,k2,k3,k4,k5⟩:=lF rest (i+1) _ (h'::hs) pend h4 t162;have e:(h'::hs).reverse++more=hs.reverse++(h'::more):=by simp
   rw[e]at k2 k3 k4 k5;refine ⟨x::rs,h'::more,by simp[k1],by rw[hlen];exact k2,k3,fun j oj hj=>?_,by rw[hlen];exact k5⟩
   match j with
   | 0=>
    simp at hj;subst hj;refine .inl ⟨h1,h2,?_⟩;rw[Nat.add_zero,hcur];refine h3.mono fun y h hy=>⟨hy.1,hy.2.trans ?_⟩;rw[List.getD_eq_getElem?_getD,List.getElem?_append_right t65];simp[hl]
   | j+1=>
    have:=k4 j oj t150;rw[show i+1+j=i+(j+1) from by omega]at this;simpa [oY] using this
  ·obtain ⟨rs,more,k1,k2,k3,k4,k5⟩:=lF rest (i+1) _ hs pend h4 t162;refine ⟨x::rs,more,by simp[k1],by rw[hlen];exact k2,k3,fun j oj hj=>?_,by rw[hlen];exact k5⟩
   match j with
   | 0=>
    simp at hj;subst hj;exact .inr (.inl ⟨h1,h2,fun k _ _=>.plain (x:=x) (by show v8 C (DM C (o.looksAt ops) sl) _ o.op=_;unfold v8;rw[h3]) ⟨rfl,rfl⟩⟩)
   | j+1=>
    have:=k4 j oj t150;rw[show i+1+j=i+(j+1) from by omega]at this;simpa [oY] using this
  ·obtain ⟨rs,more,k1,k2,k3,k4,k5⟩:=lF rest (i+1) _ hs _ h4 t162;refine ⟨x::rs,more,by simp[k1],by rw[hlen];exact k2,fun y hy=>k3 y (by simp[hy]),fun j oj hj=>?_,by rw[hlen];exact k5⟩
   match j with
   | 0=>
    simp at hj;subst hj;exact .inr (.inl ⟨h1,h2,fun k hk hm=>k3 _ List.mem_cons_self k hk hm⟩)
   | j+1=>
    have:=k4 j oj t150;rw[show i+1+j=i+(j+1) from by omega]at this;simpa [oY] using this
  ·obtain ⟨rs,more,k1,k2,k3,k4,k5⟩:=lF rest (i+1) _ hs pend h4 t162;refine ⟨.tup []::rs,more,by simp[k1],by rw[hlen];exact k2,k3,fun j oj hj=>?_,by rw[hlen];exact k5⟩
   match j with
   | 0=>
    simp at hj;subst hj;exact .inr (.inr ⟨h1,h2,rfl⟩)
   | j+1=>
    have:=k4 j oj t150;rw[show i+1+j=i+(j+1) from by omega]at this;simpa [oY] using this
theorem vL (sl:List AV)(d:Option Tmp)(x:AV):(eY sl d x).length=sl.length:=by cases d<;>simp[eY]
theorem pF:∀(l:List Oper) (sl:List AV) (rs:List AV) (j:Nat),(oY sl l rs j).length=sl.length
 | _,sl,_,0=>by simp[oY]
 | [],sl,_,j+1=>by simp[oY]
 | _::_,sl,[],j+1=>by simp[oY]
 | o::l,sl,r::rs,j+1=>by rw[oY,pF l _ rs j,vL]
theorem J5 (sl:List AV)(d:Option Tmp)(x:AV)(t:Nat)(h:d≠some t):(eY sl d x).getD t .any=sl.getD t .any:=by
 cases d with
 | none=>rfl
 | some d=>
  have:d≠t:=fun e=>h (by rw[e]);simp[eY,List.getElem?_set_ne this]
theorem J6 (sl:List AV)(x:AV)(t:Nat)(h:t<sl.length):(eY sl (some t) x).getD t .any=x:=by simp[eY,h]
theorem qB:∀(l:List Oper) (sl rs:List AV) (j t:Nat),rs.length=l.length→j≤l.length→(∀o∈l,∀d,o.dst=some d→d<sl.length)→
  (∀(a b:Nat) (oa ob:Oper),l[a]?=some oa→l[b]?=some ob→a≠b→∀d,oa.dst=some d→ob.dst≠some d)→
  (∃(a:Nat) (oa:Oper),a<j∧l[a]?=some oa∧oa.dst=some t∧(oY sl l rs j).getD t .any=rs.getD a .any)∨
  ((∀(a:Nat) (oa:Oper),a<j→l[a]?=some oa→oa.dst≠some t)∧(oY sl l rs j).getD t .any=sl.getD t .any)
 | _,sl,_,0,t,_,_,_,_=>.inr ⟨fun a oa ha=>by omega,by simp[oY]⟩
 | [],sl,rs,j+1,t,_,hj,_,_=>by simp at hj
 | o::l,sl,[],j+1,t,hr,_,_,_=>by simp at hr
 | o::l,sl,r::rs,j+1,t,hr,hj,hb,hd=>by
  simp only[oY];rcases qB l (eY sl o.dst r) rs j t (by simpa using hr) t150 (fun o' ho' d hd'=>by rw[vL];exact hb o' (by simp[ho']) d hd')
   (fun a b oa ob h1 h2 h3=>hd (a+1) (b+1) oa ob t141 t115 (by omega)) with ⟨a,oa,h1,h2,h3,h4⟩ | ⟨h1,h2⟩
  ·exact .inl ⟨a+1,oa,by omega,t115,h3,by simpa using h4⟩
  ·by_cases ho:o.dst=some t
   ·refine .inl ⟨0,o,by omega,rfl,ho,?_⟩;rw[h2,ho,J6 _ _ _ (hb o (by simp) t ho)];rfl
   ·refine .inr ⟨fun a oa ha hoa=>?_,?_⟩
    ·match a with
     | 0=>simp at hoa;subst hoa;exact ho
     | a+1=>exact h1 a oa (by omega) (by simpa using hoa)
    ·rw[h2,J5 _ _ _ _ ho]
theorem vM (p:eI):∀{i j:Nat},i≤j→p.gX i≤p.gX j:=by
 intro i j h;induction h with
 | refl=>exact Nat.le_refl _
 | step _ ih=>exact Nat.le_trans ih (by simp only[eI.gX];omega)
variable {i:Nat}
theorem R3 (p:eI){j:Nat}(h:i<j)(hi:p.isE i=true):p.gX i<p.gX j:=by have h1:p.gX (i+1)≤p.gX j:=vM p h;simp only[eI.gX,hi,if_true]at h1;omega
theorem vN (p:eI):∀(i k:Nat),k<p.gX i→∃j,j<i∧p.isE j=true∧p.gX j=k
 | 0,k,h=>by simp[eI.gX]at h
 | i+1,k,h=>by
  simp only[eI.gX]at h;by_cases hk:k<p.gX i
  ·obtain ⟨j,h1,h2,h3⟩:=vN p i k hk;exact ⟨j,by omega,h2,h3⟩
  ·by_cases hi:p.isE i=true
   ·rw[if_pos hi]at h;exact ⟨i,by omega,hi,by omega⟩
   ·rw[if_neg hi]at h;omega
structure lW (p:eI)(ops:Array Oper)(slots:Nat):Prop where
 back:∀(i:Nat) (o:Oper),ops[i]?=some o→∀e∈o.after,Region.binds .any e=true→e.on<i
 bef:∀(i:Nat) (o:Oper),ops[i]?=some o→∀j∈p.bef i,∃e∈o.after,Region.binds .any e=true∧(e.on=j∨j∈p.bef e.on)
 fits:∀(i:Nat) (o:Oper) (d:Tmp),ops[i]?=some o→o.dst=some d→d<slots
 apart:∀(i j:Nat) (oi oj:Oper),ops[i]?=some oi→ops[j]?=some oj→i≠j→∀d,oj.dst=some d→oi.dst≠some d
 look:∀(i j:Nat) (oi oj:Oper),ops[i]?=some oi→ops[j]?=some oj→i≠j→∀d,oj.dst=some d→d∈oi.looksAt ops→(j<i∧j∈p.bef i)∨(i<j∧i∈p.bef j)
 eff:∀i j,i<ops.size→j<i→p.isE i=true→p.isE j=true→j∈p.bef i
variable {ops:Array Oper}{slots:Nat}
theorem eI.spec {p:eI}(h:p.ok ops slots=true):lW p ops slots:=by
 have key:∀(i:Nat) (o:Oper),ops[i]?=some o→_:=fun i o ho=>by have h1:=List.all_eq_true.1 h i (List.mem_range.2 (Array.getElem?_eq_some_iff.1 ho).1);simp only[ho,Bool.and_eq_true]at h1;exact h1
 have key2:∀(i j:Nat) (oi oj:Oper),ops[i]?=some oi→ops[j]?=some oj→i≠j→_:=fun i j oi oj hi hj hne=>by have h1:=List.all_eq_true.1 (key i oi hi).2 j (List.mem_range.2 (Array.getElem?_eq_some_iff.1 hj).1);simp only[hj,Bool.or_eq_true,beq_iff_eq,Ne.symm hne,false_or,Bool.and_eq_true]at h1;exact h1
 refine ⟨fun i o ho e he hb=>?_,fun i o ho j hj=>?_,fun i o d ho hd=>?_,fun i j oi oj hi hj hne d hd=>?_,fun i j oi oj hi hj hne d hd hl=>?_,fun i j hi hj h1 h2=>?_⟩
 ·have h1:=(key i o ho).1.1.1;have h2:=Array.all_eq_true_iff_forall_mem.1 h1 e he;simp only[Bool.or_eq_true,decide_eq_true_eq,Bool.not_eq_true']at h2;rcases h2 with h2 | h2
  ·exact h2
  ·rw[hb]at h2;cases h2
 ·have h1:=(key i o ho).1.1.2;have h2:=List.all_eq_true.1 h1 j hj;obtain ⟨e,he,h3⟩:=Array.any_eq_true'.1 h2;simp only[Bool.and_eq_true,Bool.or_eq_true,beq_iff_eq]at h3;refine ⟨e,he,h3.1,?_⟩;rcases h3.2 with h4 | h4
  ·exact .inl h4
  ·exact .inr (by simpa using h4)
 ·have h1:=(key i o ho).1.2;simp only[hd,decide_eq_true_eq]at h1;exact h1
 ·have h1:=(key2 i j oi oj hi hj hne).1;simp only[hd,Bool.and_eq_true,bne_iff_ne,ne_eq]at h1;exact h1.1
 ·have h1:=(key2 i j oi oj hi hj hne).1;simp only[hd,Bool.and_eq_true,Bool.or_eq_true,Bool.not_eq_true']at h1;have h2:=h1.2;have hc:(oi.looksAt ops).contains d=true:=by simpa using hl
  rcases h2 with h2 | h2
  ·rw[hc]at h2;cases h2
  ·split at h2
   ·rename_i hlt;exact .inl ⟨hlt,t115⟩
   ·rename_i hlt;exact .inr ⟨by omega,t115⟩
 ·have hi':ops[i]?=some ops[i]:=Array.getElem?_eq_getElem hi;have hj':ops[j]?=some ops[j]:=Array.getElem?_eq_getElem (by omega);have h3:=(key2 i j _ _ hi' hj' (by omega)).2;simp only[h1,h2,hj,decide_true,Bool.and_self,Bool.not_true,Bool.false_eq_true,false_or]at h3;simpa using h3
structure DN (C:Cfg)(ops:Array Oper)(p:eI)(F:List c6)(sl0 rs:List AV)(B:Nat)(h0:c6)(φ0:Map)(w0:World)(listed:Array Bool)(a:Act)(w:World)(k:Nat)(φ:Map):Prop where
 lsz:listed.size=ops.size
 down:∀(i:Nat) (o:Oper),ops[i]?=some o→listed.getD i false=true→∀e∈o.after,Region.binds .any e=true→listed.getD e.on false=true
 dst:∀(i:Nat) (o:Oper) (d:Tmp),ops[i]?=some o→listed.getD i false=true→o.dst=some d→Rel (F.getD k []) φ w (a.tmps.getD d undef) (rs.getD i .any)
 oth:∀t,(∀(i:Nat) (o:Oper),ops[i]?=some o→listed.getD i false=true→o.dst≠some t)→Rel (F.getD k []) φ w (a.tmps.getD t undef) (sl0.getD t .any)
 num:∀j,j<ops.size→p.isE j=true→(listed.getD j false=true↔p.gX j<k)
 top:k<F.length
 pic:Pic C.eJ B (F.getD k []) φ w
 ev:Ev h0 φ0 w0 (F.getD k []) φ w
 size:sl0.length≤a.tmps.size
 nI:a.defers=[]
variable {listed:Array Bool}
theorem kJ (h:listed.getD i true=false):i<listed.size∧listed.getD i false=false:=by
 by_cases hi:i<listed.size
 ·simp[Array.getD_eq_getD_getElem?,hi]at h;exact ⟨hi,by simp[Array.getD_eq_getD_getElem?,hi,h]⟩
 ·simp[Array.getD_eq_getD_getElem?,hi]at h
theorem rW {j:Nat}(hi:i<listed.size):(listed.setIfInBounds i true).getD j false=if j=i then true else listed.getD j false:=by
 by_cases hj:j=i
 ·subst hj;simp[Array.getD_eq_getD_getElem?,hi]
 ·simp[Array.getD_eq_getD_getElem?,Array.getElem?_setIfInBounds_ne (Ne.symm hj),hj]
theorem DN.bef {p:eI}{F:List c6}{sl0 rs:List AV}{B:Nat}{h0:c6}{φ0:Map}{w0:World}{a:Act}{w:World}{k:Nat}{φ:Map}(d:DN C ops p F sl0 rs B h0 φ0 w0 listed a w k φ)(s:lW p ops slots) :
  ∀(i:Nat) (o:Oper),ops[i]?=some o→(∀e∈o.after,Region.binds .any e=true→listed.getD e.on false=true)→∀j∈p.bef i,listed.getD j false=true:=by
 intro i;induction i using Nat.strongRecOn with
 | _ i ih=>
  intro o ho he j hj;obtain ⟨e,hem,hb,hor⟩:=s.bef i o ho j hj;have hl:=he e hem hb;rcases hor with rfl | hj'
  ·exact hl
  ·have hon:=s.back i o ho e hem hb;have hsz:e.on<ops.size:=by
    rw[←d.lsz];rcases Nat.lt_or_ge e.on listed.size with h' | h'
    ·exact h'
    ·simp[Array.getD_eq_getD_getElem?,Array.getElem?_eq_none h']at hl
   exact ih e.on hon _ (Array.getElem?_eq_getElem hsz) (d.down _ _ (Array.getElem?_eq_getElem hsz) hl) j hj'
def left (n:Nat)(listed:Array Bool):Nat:=((List.range n).filter fun i=>! listed.getD i false).length
theorem filter_lt {α:Type}{l:List α}{f g:α→Bool}(hsub:∀x,g x=true→f x=true){y:α}(hy:y∈l)(hf:f y=true)(hg:g y=false):(l.filter g).length<(l.filter f).length:=by
 induction l with
 | nil=>simp at hy
 | cons x l ih=>
  have hle:∀l':List α,(l'.filter g).length≤(l'.filter f).length:=by
   intro l';induction l' with
   | nil=>simp
   | cons z l' ih'=>
    simp only[List.filter_cons];by_cases hz:g z=true
    ·rw[if_pos hz,if_pos (hsub z hz)];simp only[List.length_cons];omega
    ·rw[if_neg hz];split<;>(try simp only[List.length_cons])<;>omega
  simp only[List.filter_cons];rcases List.mem_cons.1 hy with rfl | hy'
  ·rw[hg,hf];simp only[Bool.false_eq_true,if_false,if_true,List.length_cons];have:=hle l;omega
  ·have:=ih hy';by_cases hz:g x=true
   ·rw[if_pos hz,if_pos (hsub x hz)];simp only[List.length_cons];omega
   ·rw[if_neg hz];split<;>(try simp only[List.length_cons])<;>omega
theorem Y1 {n:Nat}(hi:i<listed.size)(hn:i<n)(hu:listed.getD i false=false):left n (listed.setIfInBounds i true)<left n listed:=by
 unfold left;refine filter_lt (y:=i) (fun x hx=>?_) (List.mem_range.2 hn) (by simp[hu]) (by rw[rW hi];simp);rw[rW hi]at hx;split at hx
 ·simp at hx
 ·exact hx
end
section
variable {P:Program}{C:Cfg}
theorem DN.looks {ops:Array Oper}{p:eI}{F:List c6}{sl0 rs:List AV}{B:Nat}{h0:c6}{φ0:Map}{w0:World}{listed:Array Bool}{a:Act}{w:World}{k:Nat}{φ:Map}(d:DN C ops p F sl0 rs B h0 φ0 w0 listed a w k φ)(s:lW p ops sl0.length)
  (hrs:rs.length=ops.size) {i:Nat} {o:Oper} (ho:ops[i]?=some o) (hun:listed.getD i false=false) (hall:∀e∈o.after,Region.binds .any e=true→listed.getD e.on false=true) {t:Tmp} (ht:t∈o.looksAt ops) :
  Rel (F.getD k []) φ w (a.tmps.getD t undef) ((oY sl0 ops.toList rs i).getD t .any):=by
 have hi:i<ops.size:=(Array.getElem?_eq_some_iff.1 ho).1;rcases qB ops.toList sl0 rs i t (by simpa using hrs) t65 (fun x hx e he=>by
   obtain ⟨j,hj,rfl⟩:=List.mem_iff_getElem.1 hx;exact s.fits j _ e t120 he) (fun x y ox oy h1 h2 h3 e he=>by
   exact s.apart y x oy ox t115 t141 (Ne.symm h3) e he) with ⟨j,oj,h1,h2,h3,h4⟩ | ⟨h1,h2⟩
 ·rw[h4];have hj:ops[j]?=some oj:=by simpa using h2
  rcases s.look i j o oj ho hj (by omega) t h3 ht with ⟨_,h5⟩ | ⟨h5,_⟩
  ·exact d.dst j oj t hj (d.bef s i o ho hall j h5) h3
  ·omega
 ·rw[h2];refine d.oth t fun j oj hj hl hd=>?_;by_cases hji:j<i
  ·exact h1 j oj hji t150 hd
  ·by_cases hje:j=i
   ·subst hje;rw[hun]at hl;cases hl
   ·rcases s.look i j o oj ho hj (Ne.symm hje) t hd ht with ⟨h5,_⟩ | ⟨h5,h6⟩
    ·omega
    ·have:=d.bef s j oj hj (d.down j oj hj hl) i h6;rw[hun]at this;cases this
theorem DN.PK {ops:Array Oper}{p:eI}{F:List c6}{sl0 rs:List AV}{B:Nat}{h0:c6}{φ0:Map}{w0:World}{listed:Array Bool}{a:Act}{w:World}{k:Nat}{φ:Map}(d:DN C ops p F sl0 rs B h0 φ0 w0 listed a w k φ)(s:lW p ops sl0.length)
  (hrs:rs.length=ops.size) {i:Nat} {o:Oper} (ho:ops[i]?=some o) (hun:listed.getD i false=false) (hall:∀e∈o.after,Region.binds .any e=true→listed.getD e.on false=true) (x:Operand) :
  Rel (F.getD k []) φ w (a.eval x) (DM C (o.looksAt ops) (oY sl0 ops.toList rs i) x):=by
 cases x with
 | tmp t=>
  simp only[DM];split
  ·rename_i hc;exact d.looks s hrs ho hun hall (by simpa using hc)
  ·exact .jW _
 | const v=>exact zR v
 | global g=>exact .pure (d.pic.eJ g)
 | func f=>exact .pure (.func (.func f))
theorem DN.wanted {ops:Array Oper}{p:eI}{F:List c6}{sl0 rs:List AV}{B:Nat}{h0:c6}{φ0:Map}{w0:World}{listed:Array Bool}{a:Act}{w:World}{k:Nat}{φ:Map}(d:DN C ops p F sl0 rs B h0 φ0 w0 listed a w k φ)(s:lW p ops sl0.length)
  (hrs:rs.length=ops.size) {i:Nat} {o:Oper} (ho:ops[i]?=some o) (hun:listed.getD i false=false) (hall:∀e∈o.after,Region.binds .any e=true→listed.getD e.on false=true) {b:Bool}
  (hw:aX ops (oY sl0 ops.toList rs i) o=some b):Region.wanted o (yielded ops a.tmps)=b:=by
 unfold aX at hw;unfold Region.wanted;cases hg:o.guard with
 | none=>simp[hg]at hw;simp[hw]
 | some jw=>
  obtain ⟨j,want⟩:=jw;simp only[hg]at hw;cases hd:(ops[j]?).bind (·.dst) with
  | none=>simp[hd]at hw
  | some e=>
   simp only[hd]at hw;split at hw
   ·rename_i t ht;cases hw;have hmem:e∈o.looksAt ops:=by unfold Oper.looksAt;simp[hg,hd]
    have hr:=d.looks s hrs ho hun hall hmem;rw[ht]at hr;have hv:=hr.bP;have ht':a.tmps[e]?=some (.bool t):=by
     cases he:a.tmps[e]? with
     | none=>simp[Array.getD_eq_getD_getElem?,he,undef]at hv
     | some v=>simp[Array.getD_eq_getD_getElem?,he]at hv;rw[hv]
    have hy:yielded ops a.tmps j=some t:=by unfold yielded;simp[hd,ht']
    simp only[hy];cases t<;>cases want<;>rfl
   ·rename_i ht;cases hw;have hmem:e∈o.looksAt ops:=by unfold Oper.looksAt;simp[hg,hd]
    have hr:=d.looks s hrs ho hun hall hmem;rw[ht]at hr;obtain ⟨a',hv,hsz,_⟩:=hr.nG;have hy:yielded ops a.tmps j=none:=by
     unfold yielded;simp only[hd,Option.bind_some];cases he:a.tmps[e]? with
     | none=>rfl
     | some v=>
      simp[Array.getD_eq_getD_getElem?,he]at hv;rw[hv]
    show (yielded ops a.tmps j==some want)=false;rw[hy];rfl
   ·cases hw
theorem DN.step {ops:Array Oper}{p:eI}{F:List c6}{sl0 rs:List AV}{B:Nat}{h0:c6}{φ0:Map}{w0:World}{listed:Array Bool}{a:Act}{w:World}{k:Nat}{φ:Map}(d:DN C ops p F sl0 rs B h0 φ0 w0 listed a w k φ)(s:lW p ops sl0.length)
  {i:Nat} {o:Oper} (ho:ops[i]?=some o) (hun:listed.getD i false=false) (hall:∀e∈o.after,Region.binds .any e=true→listed.getD e.on false=true)
  {k':Nat} {φ':Map} {w':World} {v:Value} (hk:∀j,j<ops.size→p.isE j=true→((listed.setIfInBounds i true).getD j false=true↔p.gX j<k')) (hk':k'<F.length)
  (hp:Pic C.eJ B (F.getD k' []) φ' w') (he:Ev (F.getD k []) φ w (F.getD k' []) φ' w') (hv:Rel (F.getD k' []) φ' w' v (rs.getD i .any)) :
  DN C ops p F sl0 rs B h0 φ0 w0 (listed.setIfInBounds i true) (a.put o.dst v) w' k' φ':=by
 have hi:i<listed.size:=by rw[d.lsz];exact (Array.getElem?_eq_some_iff.1 ho).1
 have hget:∀j,(listed.setIfInBounds i true).getD j false=true↔(j=i∨listed.getD j false=true):=fun j=>by rw[rW hi];by_cases hj:j=i<;>simp[hj]
 have hput:∀t,o.dst≠some t→(a.put o.dst v).tmps.getD t undef=a.tmps.getD t undef:=fun t ht=>by
  cases hd:o.dst with
  | none=>simp[Act.put]
  | some e=>
   have:e≠t:=fun h=>ht (by rw[hd,h]);simp[Act.put,Array.getD_eq_getD_getElem?,Array.getElem?_setIfInBounds_ne this]
 refine ⟨by simp[d.lsz],fun j oj hj hl e hem hb=>?_,fun j oj t hj hl hd=>?_,fun t ht=>?_,hk,hk',hp,d.ev.trans he,?_,?_⟩
 ·rw[hget];rcases (hget j).1 hl with rfl | hl'
  ·rw[ho]at hj;cases hj;exact .inr (hall e hem hb)
  ·exact .inr (d.down j oj hj hl' e hem hb)
 ·by_cases hji:j=i
  ·subst hji;rw[ho]at hj;cases hj;have ht:=s.fits j o t ho hd;have ht':t<a.tmps.size:=Nat.lt_of_lt_of_le ht d.size;have:(a.put o.dst v).tmps.getD t undef=v:=by simp[hd,Act.put,Array.getD_eq_getD_getElem?,ht']
   rw[this];exact hv
  ·have hl':listed.getD j false=true:=by
    rcases (hget j).1 hl with h | h
    ·exact absurd h hji
    ·exact h
   rw[hput t (s.apart i j o oj ho hj (Ne.symm hji) t hd)];exact he.rel (d.dst j oj t hj hl' hd)
 ·rw[hput t (ht i o ho ((hget i).2 (.inl rfl)))];exact he.rel (d.oth t fun j oj hj hl=>ht j oj hj ((hget j).2 (.inr hl)))
 ·have:(a.put o.dst v).tmps.size=a.tmps.size:=by cases hd:o.dst<;>simp[Act.put]
  rw[this];exact d.size
 ·have:(a.put o.dst v).defers=a.defers:=by cases hd:o.dst<;>simp[Act.put]
  rw[this];exact d.nI
theorem PL (g:Good P C){ops:Array Oper}{p:eI}{F:List c6}{sl0 rs:List AV}{B:Nat}{h0:c6}{φ0:Map}{w0:World}(s:lW p ops sl0.length)(hrs:rs.length=ops.size)(hF:F.length=p.gX ops.size+1)
  (hfact:∀i o,ops[i]?=some o→Fact P C ops p F i o (oY sl0 ops.toList rs i) (rs.getD i .any)) {Q:Exit→Act→World→Prop}
  (hQ:∀a w φ,Pic C.eJ B (F.getD (p.gX ops.size) []) φ w→Ev h0 φ0 w0 (F.getD (p.gX ops.size) []) φ w→kS (F.getD (p.gX ops.size) []) φ w a (oY sl0 ops.toList rs ops.size)→Q .normal a w) :
  ∀(fuel:Nat) (listed:Array Bool) (a:Act) (w:World) (k:Nat) (φ:Map),left ops.size listed≤fuel→DN C ops p F sl0 rs B h0 φ0 w0 listed a w k φ→wpAny P .any ops Q fuel listed a w:=by
 have done:∀(listed:Array Bool) (a:Act) (w:World) (k:Nat) (φ:Map),DN C ops p F sl0 rs B h0 φ0 w0 listed a w k φ→(∀i,i<ops.size→listed.getD i false=true)→Q .normal a w:=by
  intro listed a w k φ d hall;have hk:k=p.gX ops.size:=by
   have h1:k≤p.gX ops.size:=by have:=d.top;omega
   rcases Nat.lt_or_ge k (p.gX ops.size) with h2 | h2
   ·obtain ⟨j,hj,hE,hr⟩:=vN p ops.size k h2;have:=(d.num j hj hE).1 (hall j hj);omega
   ·omega
  subst hk;refine hQ a w φ d.pic d.ev ⟨by rw[pF];exact d.size,fun t=>?_,d.nI⟩;rcases qB ops.toList sl0 rs ops.size t (by simpa using hrs) (by simp) (fun x hx e he=>by
    obtain ⟨j,hj,rfl⟩:=List.mem_iff_getElem.1 hx;exact s.fits j _ e t120 he) (fun x y ox oy h1 h2 h3 e he=>by
    exact s.apart y x oy ox t115 t141 (Ne.symm h3) e he) with ⟨j,oj,h1,h2,h3,h4⟩ | ⟨h1,h2⟩
  ·rw[h4];exact d.dst j oj t t115 (hall j h1) h3
  ·rw[h2];exact d.oth t fun j oj hj _=>h1 j oj (Array.getElem?_eq_some_iff.1 hj).1 t150
 have noready:∀(listed:Array Bool),listed.size=ops.size→Region.ready .any ops listed=[]→∀i,i<ops.size→listed.getD i false=true:=by
  intro listed hsz hr i;induction i using Nat.strongRecOn with
  | _ i ih=>
   intro hi;cases hl:listed.getD i false with
   | true=>rfl
   | false=>
    have ho:ops[i]?=some ops[i]:=Array.getElem?_eq_getElem hi;have hmem:i∈Region.ready .any ops listed:=by
     rw[mem_ready];refine ⟨?_,_,ho,fun e he hb=>?_⟩
     ·simp[Array.getD_eq_getD_getElem?,hsz,hi]at hl ⊢;exact hl
     ·have hon:=s.back i _ ho e he hb;exact ih e.on hon (by omega)
    rw[hr]at hmem;cases hmem
 intro fuel;induction fuel with
 | zero=>
  intro listed a w k φ hleft d;have hall:∀i,i<ops.size→listed.getD i false=true:=by
   intro i hi;cases hl:listed.getD i false with
   | true=>rfl
   | false=>
    have:i∈(List.range ops.size).filter fun i=>! listed.getD i false:=List.mem_filter.2 ⟨List.mem_range.2 hi,by simp[hl]⟩;have h0:((List.range ops.size).filter fun i=>! listed.getD i false)=[]:=List.eq_nil_of_length_eq_zero (by unfold left at hleft;omega);rw[h0]at this;cases this
  refine ⟨?_,done listed a w k φ d hall⟩;cases hr:Region.ready .any ops listed with
  | nil=>rfl
  | cons x xs=>
   have hx:x∈Region.ready .any ops listed:=by rw[hr];simp
   obtain ⟨h1,_,h2,_⟩:=mem_ready.1 hx;have:=kJ h1;rw[hall x (Array.getElem?_eq_some_iff.1 h2).1]at this;cases this.2
 | succ fuel ih=>
  intro listed a w k φ hleft d;refine ⟨fun hr=>done listed a w k φ d (noready listed d.lsz hr),fun i hi=>?_⟩;obtain ⟨hun0,o,ho,hall⟩:=mem_ready.1 hi;obtain ⟨hisz,hun⟩:=kJ hun0;have hin:i<ops.size:=by rw[←d.lsz];exact hisz
  have hlt:=Y1 hisz hin hun;have hbef:=d.bef s i o ho hall;have hget:∀j,(listed.setIfInBounds i true).getD j false=true↔(j=i∨listed.getD j false=true):=fun j=>by rw[rW hisz];by_cases hj:j=i<;>simp[hj]
  unfold wpOp;simp only[ho];rcases hfact i o ho with ⟨h1,h2,h3⟩ | ⟨h1,h2,h3⟩ | ⟨h1,h2,h3⟩
  ·
   have hik:p.gX i=k:=by
    have h4:¬p.gX i<k:=fun hh=>by have:=(d.num i hin h2).2 hh;rw[hun]at this;cases this
    rcases Nat.lt_or_ge k (p.gX i) with h5 | h5
    ·obtain ⟨j,hj,hE,hr⟩:=vN p i k h5;have h6:=hbef j (s.eff i j hin hj h2 hE);have:=(d.num j (by omega) hE).1 h6;omega
    ·omega
   rw[if_pos (d.wanted s hrs ho hun hall h1)];rw[hik]at h3;refine .inl (Oper.wp_mono (fun a' w' hp=>?_) (OpA.sound g d.pic (d.PK s hrs ho hun hall) h3));obtain ⟨v,x,h',φ',rfl,hp1,hp2,hp3,rfl,rfl⟩:=hp;refine ih _ _ _ (k+1) φ' (by omega) (d.step s ho hun hall (fun j hj hE=>?_) (by have:=R3 p hin h2;omega) hp1 hp2 hp3)
   rw[hget];constructor
   ·rintro (rfl | hl)
    ·omega
    ·have:=(d.num j hj hE).1 hl;omega
   ·intro hl;by_cases hji:j=i
    ·exact .inl hji
    ·refine .inr ((d.num j hj hE).2 ?_);rcases Nat.lt_trichotomy j i with h5 | h5 | h5
     ·have:=R3 p h5 hE;omega
     ·exact absurd h5 hji
     ·have:=R3 p h5 h2;omega
  ·
   have hmeet:p.meets ops.size i k=true:=by
    unfold eI.meets;refine List.all_eq_true.2 fun j hj=>?_;have hj':=List.mem_range.1 hj;by_cases hE:p.isE j=true
    ·simp only[hE,Bool.not_true,Bool.false_or,Bool.and_eq_true,Bool.or_eq_true,Bool.not_eq_true',decide_eq_true_eq];refine ⟨?_,?_⟩
     ·by_cases hb:(p.bef i).contains j=true
      ·exact .inr ((d.num j hj' hE).1 (hbef j t203))
      ·exact .inl t203
     ·by_cases hb:(p.bef j).contains i=true
      ·refine .inr ?_;rcases Nat.lt_or_ge (p.gX j) k with h5 | h5
       ·have hl:=(d.num j hj' hE).2 h5;have hoj:ops[j]?=some ops[j]:=Array.getElem?_eq_getElem hj';have:=d.bef s j _ hoj (d.down j _ hoj hl) i t203;rw[hun]at this;cases this
       ·exact h5
      ·exact .inl t203
    ·simp[hE]
   rw[if_pos (d.wanted s hrs ho hun hall h1)];refine .inl (Oper.wp_mono (fun a' w' hp=>?_) (OpA.sound g d.pic (d.PK s hrs ho hun hall) (h3 k d.top hmeet)));obtain ⟨v,x,h',φ',rfl,hp1,hp2,hp3,rfl,rfl⟩:=hp;refine ih _ _ _ k φ' (by omega) (d.step s ho hun hall (fun j hj hE=>?_) d.top hp1 hp2 hp3);rw[hget];constructor
   ·rintro (rfl | hl)
    ·rw[h2]at hE;cases hE
    ·exact (d.num j hj hE).1 hl
   ·exact fun hl=>.inr ((d.num j hj hE).2 hl)
  ·
   rw[if_neg (by rw[d.wanted s hrs ho hun hall h1];simp)];refine ih _ _ _ k φ (by omega) (d.step s ho hun hall (fun j hj hE=>?_) d.top d.pic (.refl _ _ _) (by rw[h3];exact tW));rw[hget];constructor
   ·rintro (rfl | hl)
    ·rw[h2]at hE;cases hE
    ·exact (d.num j hj hE).1 hl
   ·exact fun hl=>.inr ((d.num j hj hE).2 hl)
theorem qC (w:World):w.grownBy { w with drawn:=w.drawn+1 } none:=⟨rfl,rfl,rfl,Nat.le_refl _,fun _ _ _=>rfl⟩
theorem c9.draw (g:Good P C){id:Nat}{ops:Array Oper}{st:St}{Q:Exit→St→Prop}(p:eI)(hp:p.ok ops st.sl.length=true)(r:J4 P C ops p ops.toList 0 st.sl [st.h] [] fun st'=>Q .normal st'):c9 P C (.region id ops true) st Q:=by
 intro B φ w a i s;obtain ⟨rs,more,h1,h2,_,h4,h5⟩:=lF ops.toList 0 st.sl [st.h] [] r (by simp[eI.gX]);have sp:=eI.spec hp;simp only[Nat.zero_add,Array.length_toList]at h1 h2 h4 h5;refine wp_region_any g.mixed (PL (C:=C) g (B:=B) (h0:=st.h) (φ0:=φ) (w0:=w) sp h1 h2 (fun j o ho=>h4 j o (by simpa using ho)) (fun a' w' φ' k1 k2 k3=>⟨_,φ',k1,k2,k3,h5⟩) ops.size _ a _ 0 φ ?_ ?_)
 ·unfold left;have:=List.length_filter_le (fun i=>!(Array.replicate ops.size false).getD i false) (List.range ops.size);simpa using this
 ·have hno:∀j,(Array.replicate ops.size false).getD j false=false:=fun j=>by by_cases hj:j<ops.size<;>simp[Array.getD_eq_getD_getElem?,hj]
  have hg:=qC w;refine ⟨by simp,fun j o _ hl=>t209,fun j o t _ hl=>t209,fun t _=>?_,fun j _ _=>by rw[hno];simp,by simp,?_,?_,s.size,s.nI⟩
  ·exact (Ev.iI hg).rel (s.rel t)
  ·exact i.iI hg
  ·exact Ev.iI hg
end
def aF (n:Nat):Nat→AV→Bool
 | 0,_=>false
 | d+1,x=>match x with
  | .ptr β _ _=>decide (β<n)
  | .own β _ _ _=>decide (β<n)
  | .fn _ a c=>a.all (aF n d)&&c.all (aF n d)
  | .iface _ v=>aF n d v
  | .agg xs=>xs.all (aF n d)
  | .tup xs=>xs.all (aF n d)
  | _=>true
def PM (n:Nat)(h:c6):Option c6:=
 if (h.take n).all (fun b=>b.cells.all (aF n 4)) then some (h.take n) else none
def o6 {α β:Type}(f:α→Option β):List α→Option (List β)
 | []=>some []
 | x::xs=>match f x with
  | some y=>match o6 f xs with
   | some ys=>some (y::ys)
   | none=>none
  | none=>none
def iT (n:Nat)(h:c6):Nat→AV→Option AV
 | 0,_=>none
 | d+1,x=>match x with
  | .j4=>some (.vec 0 [])
  | .own β g off len=>match h[β]? with
   | some b=>if b.gen=g∧n≤β then (if b.cQ then (if len=0 then some (.vec 0 []) else none)
    else if off+len*b.esz≤b.cells.length then (match o6 (iT n h d) ((b.cells.drop off).take (len*b.esz)) with
     | some cs=>some (.vec len cs)
     | none=>none) else none) else none
   | none=>none
  | .any=>some .any
  | .bool b=>some (.bool b)
  | .int k i=>some (.int k i)
  | .str s=>some (.str s)
  | .lV=>some .lV
  | .pU=>some .pU
  | .tJ=>some .tJ
  | .vec m cs=>some (.vec m cs)
  | .lT cs o=>some (.lT cs o)
  | _=>none
def jQ (n:Nat)(h:c6):Nat→AV→Option AV
 | 0,_=>none
 | d+1,x=>match x with
  | .j4=>some (.vec 0 [])
  | .own β g off len=>if β<n then some (.own β g off len) else iT n h d (.own β g off len)
  | .ptr β g off=>if β<n then some (.ptr β g off) else none
  | .fn f a c=>if a.all (aF n d)&&c.all (aF n d) then some (.fn f a c) else none
  | .iface t v=>(jQ n h d v).map (.iface t)
  | .agg xs=>(o6 (jQ n h d) xs).map .agg
  | .tup xs=>(o6 (jQ n h d) xs).map .tup
  | .any=>some .any
  | .bool b=>some (.bool b)
  | .int k i=>some (.int k i)
  | .str s=>some (.str s)
  | .lV=>some .lV
  | .pU=>some .pU
  | .tJ=>some .tJ
  | .vec m cs=>some (.vec m cs)
  | .lT cs o=>some (.lT cs o)
section
variable {P:Program}{C:Cfg}{G:Nat→AV}{B:Nat}{h:c6}{φ:Map}{w:World}
theorem fZ {α β:Type}{f:α→Option β}:∀{xs:List α} {ys:List β},o6 f xs=some ys→ys.length=xs.length∧∀(j:Nat) y,ys[j]?=some y→∃x,xs[j]?=some x∧f x=some y
 | [],ys,h=>by simp only[o6,Option.some.injEq]at h;subst h;exact ⟨rfl,fun j y hy=>by simp at hy⟩
 | x::xs,ys,h=>by
  simp only[o6]at h;split at h
  ·rename_i y hy;split at h
   ·rename_i ys' hys;cases h;obtain ⟨h1,h2⟩:=fZ hys;refine ⟨by simp[h1],fun j z hz=>?_⟩
    match j with
    | 0=>simp at hz;subst hz;exact ⟨x,rfl,hy⟩
    | j+1=>simpa using h2 j z (by simpa using hz)
   ·cases h
  ·cases h
variable {n:Nat}
theorem jG {β:Nat}{b:Blk}(hb:(h.take n)[β]?=some b):h[β]?=some b∧β<n:=by
 rw[List.getElem?_take]at hb;split at hb
 ·exact ⟨hb,by assumption⟩
 ·cases hb
theorem qD {β:Nat}{b:Blk}(hb:h[β]?=some b)(hn:β<n):(h.take n)[β]?=some b:=by rw[List.getElem?_take,if_pos hn];exact hb
theorem GA (n:Nat){k:Nat}(hk:X6 h φ w k):X6 (h.take n) φ w k:=⟨hk.1,fun β b hb hv=>hk.2 β b (jG hb).1 hv⟩
theorem vO (n:Nat){k j:Nat}(hk:eQ h φ w k j):eQ (h.take n) φ w k j:=⟨hk.1,fun β b hb hv=>hk.2 β b (jG hb).1 hv⟩
variable {x:AV}
theorem PRel.take (n:Nat){v:Value}(r:PRel w (eQ h φ w) v x):PRel w (eQ (h.take n) φ w) v x:=r.mono fun _ _ hk=>⟨rfl,vO n hk⟩
theorem jH (n:Nat):∀(d:Nat) (v:Value) (x:AV),aF n d x=true→Rel h φ w v x→Rel (h.take n) φ w v x
 | 0,_,_,hx,_=>by simp[aF]at hx
 | d+1,v,x,hx,r=>by
  cases r with
  | pure hp=>exact .pure (hp.take n)
  | ptr β g off bl b hb hg hv=>
   simp only[aF,decide_eq_true_eq]at hx;exact .ptr β g off bl b (qD hb hx) hg hv
  | own β g off len cap ad b hb hg hlc hcm had hn hv=>
   simp only[aF,decide_eq_true_eq]at hx;exact .own β g off len cap ad b (qD hb hx) hg hlc hcm had hn hv
  | fn f a c xs ys ha hc hra hrc=>
   simp only[aF,Bool.and_eq_true]at hx;exact .fn f a c xs ys ha hc (fun j v x h1 h2=>jH n d v x (List.all_eq_true.1 hx.1 x (List.mem_of_getElem? h2)) (hra j v x h1 h2))
    (fun j v x h1 h2=>jH n d v x (List.all_eq_true.1 hx.2 x (List.mem_of_getElem? h2)) (hrc j v x h1 h2))
  | iface t v x hr=>exact .iface t v x (jH n d v x (by simpa [aF] using hx) hr)
  | agg a xs ha h1 hr=>
   simp only[aF]at hx;exact .agg a xs ha h1 (fun j v x k1 k2=>jH n d v x (List.all_eq_true.1 hx x (List.mem_of_getElem? k2)) (hr j v x k1 k2))
  | tup a xs ha hr=>
   simp only[aF]at hx;exact .tup a xs ha (fun j v x k1 k2=>jH n d v x (List.all_eq_true.1 hx x (List.mem_of_getElem? k2)) (hr j v x k1 k2))
theorem PN {h':c6}(hd:PM n h=some h')(i:Pic G B h φ w):h'=h.take n∧Pic G B h' φ w:=by
 unfold PM at hd;split at hd
 ·rename_i hall;cases hd;refine ⟨rfl,⟨fun β b hb hv=>?_,fun β β' b b' hb hb' hv hv' he=>i.inj β β' b b' (jG hb).1 (jG hb').1 hv hv' he,fun β b hb hv=>i.base β b (jG hb).1 hv,fun β b hb hv=>i.cQ β b (jG hb).1 hv,i.room,fun g=>(i.eJ g).take n⟩⟩;obtain ⟨cur,h1,h2,h3,h4⟩:=i.blk β b (jG hb).1 hv;have hb2:=List.all_eq_true.1 hall b (List.mem_of_getElem? hb);exact ⟨cur,h1,h2,h3,fun j v x k1 k2=>⟨(h4 j v x k1 k2).1,jH n 4 v x (List.all_eq_true.1 hb2 x (List.mem_of_getElem? k2)) (h4 j v x k1 k2).2⟩⟩
 ·cases hd
theorem zX {h0:c6}{φ0:Map}{w0:World}(e:Ev h0 φ0 w0 h φ w)(hn:h0.length≤n):Ev h0 φ0 w0 (h.take n) φ w:=
 ⟨e.os,e.tape,e.output,e.size,fun k hk=>⟨(e.lU k hk).1,GA n (e.lU k hk).2⟩,fun k j hk=>⟨(e.cells k j hk).1,vO n (e.cells k j hk).2⟩,by have:=e.mY;simp;omega,fun β b b' h1 h2=>e.Gs β b b' h1 (jG h2).1⟩
theorem zY (i:Pic G B h φ w)(n:Nat):∀(d:Nat) (v:Value) (x y:AV),iT n h d x=some y→Rel h φ w v x→PRel w (eQ (h.take n) φ w) v y
 | 0,_,_,_,hx,_=>by simp[iT]at hx
 | d+1,v,x,y,hx,r=>by
  cases x;case j4=>
   replace hx:=s1z hx;subst hx;cases r.eK;exact .yE _ _
  case own β g off len=>
   simp only[iT]at hx;obtain ⟨ad,cap,b,rfl,hb,hg,hlc,hcm,had,hn,hv⟩:=r.jV;rw[hb]at hx;simp only at hx;split at hx
   ·rename_i hc;split at hx
    ·split at hx
     ·rename_i hl;cases hx;subst hl;exact .yE _ _
     ·cases hx
    ·rename_i hvirt;have hvirt':b.cQ=false:=by simpa using hvirt
     split at hx
     ·rename_i hle;split at hx
      ·rename_i cs hcs;cases hx;obtain ⟨hlen,hget⟩:=fZ hcs;obtain ⟨rfl,_⟩:=hv hc.1.symm hvirt';obtain ⟨cur,hw,hs,hl,hr⟩:=i.blk β b hb hvirt';have hlen':cs.length=len*b.esz:=by rw[hlen];simp;omega
       refine .vec (φ β).1 off len cap cs ((cur.toList.drop off).take (len*b.esz)) (fun m hm=>⟨i.lt hb hvirt',fun γ c hγ hcv he=>?_⟩) hlc (by rw[hlen'];simp;omega) (fun j u hu=>?_) (fun j u z hu hz=>?_)
       ·obtain ⟨h1,h2⟩:=jG hγ;have:=i.inj γ β c b h1 hb hcv hvirt' he;omega
       ·rw[List.getElem?_take,List.getElem?_drop]at hu;split at hu
        ·rename_i hj;have hu':cur[off+j]?=some u:=by simpa using hu
         refine ⟨by rw[cell_of_row w _ _ cur _ _ hw];exact hu',?_⟩;have hjc:off+j<b.cells.length:=by omega
         exact (hr (off+j) u b.cells[off+j] hu' (List.getElem?_eq_getElem hjc)).1
        ·cases hu
       ·obtain ⟨x,hx1,hx2⟩:=hget j z hz;rw[List.getElem?_take,List.getElem?_drop]at hu hx1;split at hu
        ·rename_i hj;rw[if_pos hj]at hx1;exact zY i n d u x z hx2 (hr (off+j) u x t149 hx1).2
        ·cases hu
      ·cases hx
     ·cases hx
   ·cases hx
  case any=>replace hx:=s1z hx;subst hx;exact .any _
  case bool b=>replace hx:=s1z hx;subst hx;cases r.bP;exact .bool _
  case int k m=>replace hx:=s1z hx;subst hx;cases r.z5;exact .int _ _
  case str s=>replace hx:=s1z hx;subst hx;cases r.eX;exact .str _
  case lV=>replace hx:=s1z hx;subst hx;cases r.zP;exact .lV
  case pU=>replace hx:=s1z hx;subst hx;cases r with | pure hp=>exact hp.take n
  case tJ=>replace hx:=s1z hx;subst hx;cases r with | pure hp=>exact hp.take n
  case vec m cs=>replace hx:=s1z hx;subst hx;exact r.nH.take n
  case lT cs o=>replace hx:=s1z hx;subst hx;exact r.oA.take n
  all_goals simp[iT]at hx
theorem oC (i:Pic G B h φ w)(n:Nat):∀(d:Nat) (v:Value) (x y:AV),jQ n h d x=some y→Rel h φ w v x→Rel (h.take n) φ w v y
 | 0,_,_,_,hx,_=>by simp[jQ]at hx
 | d+1,v,x,y,hx,r=>by
  cases x;case j4=>
   replace hx:=s2z hx;subst hx;cases r.eK;exact .pure (.yE _ _)
  case own β g off len=>
   simp only[jQ]at hx;split at hx
   ·rename_i hlt;cases hx;exact jH n 1 v _ (by simp[aF,hlt]) r
   ·exact .pure (zY i n d v _ y hx r)
  case ptr β g off=>
   simp only[jQ]at hx;split at hx
   ·rename_i hlt;cases hx;exact jH n 1 v _ (by simp[aF,hlt]) r
   ·cases hx
  case fn f a c=>
   simp only[jQ]at hx;split at hx
   ·rename_i hlt;cases hx;exact jH n (d+1) v _ (by simpa [aF] using hlt) r
   ·cases hx
  case iface t z=>
   simp only[jQ]at hx;obtain ⟨y',hy',rfl⟩:=Option.map_eq_some_iff.1 hx;obtain ⟨u,rfl,hr⟩:=r.H9;exact .iface t u y' (oC i n d u z y' hy' hr)
  case agg xs=>
   simp only[jQ]at hx;obtain ⟨ys,hys,rfl⟩:=Option.map_eq_some_iff.1 hx;obtain ⟨a,rfl,ha,h1,hr⟩:=r.kR;obtain ⟨hlen,hget⟩:=fZ hys;refine .agg a ys (by rw[ha,hlen]) h1 fun j u z hu hz=>?_;obtain ⟨x,hx1,hx2⟩:=hget j z hz;exact oC i n d u x z hx2 (hr j u x hu hx1)
  case tup xs=>
   simp only[jQ]at hx;obtain ⟨ys,hys,rfl⟩:=Option.map_eq_some_iff.1 hx;obtain ⟨a,rfl,ha,hr⟩:=r.nG;obtain ⟨hlen,hget⟩:=fZ hys;refine .tup a ys (by rw[ha,hlen]) fun j u z hu hz=>?_;obtain ⟨x,hx1,hx2⟩:=hget j z hz;exact oC i n d u x z hx2 (hr j u x hu hx1)
  case any=>replace hx:=s2z hx;subst hx;exact .jW _
  case bool b=>replace hx:=s2z hx;subst hx;cases r.bP;exact .bW _
  case int k m=>replace hx:=s2z hx;subst hx;cases r.z5;exact .bY _ _
  case str s=>replace hx:=s2z hx;subst hx;cases r.eX;exact .pX _
  case lV=>replace hx:=s2z hx;subst hx;cases r.zP;exact .pure .lV
  case pU=>replace hx:=s2z hx;subst hx;cases r with | pure hp=>exact .pure (hp.take n)
  case tJ=>replace hx:=s2z hx;subst hx;cases r with | pure hp=>exact .pure (hp.take n)
  case vec m cs=>replace hx:=s2z hx;subst hx;exact .pure (r.nH.take n)
  case lT cs o=>replace hx:=s2z hx;subst hx;exact .pure (r.oA.take n)
theorem GB (i:Pic C.eJ B h φ w)(g:Good P C){a:Act}{sl:List AV}(s:kS h φ w a sl){r:ResultVar}(hx:mX C sl h r=some x) :
  ∃v,(match r with
   | .tmp t=>pure (a.tmps.getD t undef)
   | .cell p t=>do loadVar t (←asAddr (a.tmps.getD p undef)):Sem Value).run P w=.ok v w∧Rel h φ w v x:=by
 cases r with
 | tmp t=>
  simp only[mX,Option.some.injEq]at hx;subst hx;exact ⟨_,rfl,s.rel t⟩
 | cell p t=>
  simp only[mX]at hx;obtain ⟨v,h1,h2⟩:=FX i g (s.rel p) hx;refine ⟨v,?_,h2⟩;have hp:∃ad,a.tmps.getD p undef=.pointer (some ad):=by
   cases hv:a.tmps.getD p undef with
   | pointer o=>cases o with
    | some ad=>exact ⟨ad,rfl⟩
    | none=>simp[Instr.loadAt,hv,Instr.sureAddr]at h1
   | _=>simp[Instr.loadAt,hv,Instr.sureAddr]at h1
  obtain ⟨ad,hv⟩:=hp;simp only[hv,asAddr,Sem.run_bind,Sem.run_pure,Result.andThen_ok];simpa [Instr.loadAt,hv,Instr.sureAddr] using h1
theorem J7 (i:Pic C.eJ B h φ w)(g:Good P C){a:Act}{sl:List AV}(s:kS h φ w a sl):∀{rs:List ResultVar} {xs:List AV},lE C sl h rs=some xs→
  ∃vs:List Value,(rs.mapM fun r=>(match r with
   | .tmp t=>pure (a.tmps.getD t undef)
   | .cell p t=>do loadVar t (←asAddr (a.tmps.getD p undef)):Sem Value)).run P w=.ok vs w∧vs.length=xs.length∧∀(j:Nat) v x,vs[j]?=some v→xs[j]?=some x→Rel h φ w v x
 | [],xs,hx=>by simp only[lE,Option.some.injEq]at hx;subst hx;exact ⟨[],rfl,rfl,by simp⟩
 | r::rs,xs,hx=>by
  simp only[lE]at hx;split at hx
  ·rename_i x xs' h1 h2;cases hx;obtain ⟨v,k1,k2⟩:=GB i g s h1;obtain ⟨vs,k3,k4,k5⟩:=J7 i g s h2;refine ⟨v::vs,?_,by simp[k4],fun j u y hu hy=>?_⟩
   ·rw[List.mapM_cons];simp only[Sem.run_bind,k1,k3,Result.andThen_ok,Sem.run_pure]
   ·match j with
    | 0=>simp at hu hy;subst hu hy;exact k2
    | j+1=>exact k5 j u y t149 (by simpa using hy)
  ·cases hx
theorem Y2 (i:Pic C.eJ B h φ w)(g:Good P C){a:Act}{sl:List AV}(s:kS h φ w a sl){fn:Func}(hx:yD C fn.results sl h=some x):∃v,(results fn a.tmps).run P w=.ok v w∧Rel h φ w v x:=by
 unfold yD at hx;have key:∀xs,lE C sl h fn.results.toList=some xs→∃vs:List Value,(results fn a.tmps).run P w=.ok (if hs:vs.toArray.size=1 then vs.toArray[0] else .tuple vs.toArray) w∧vs.length=xs.length∧∀(j:Nat) v x,vs[j]?=some v→xs[j]?=some x→Rel h φ w v x:=by
  intro xs hxs;obtain ⟨vs,k1,k2,k3⟩:=J7 i g s hxs;refine ⟨vs,?_,k2,k3⟩;unfold results;rw[Array.mapM_eq_mapM_toList];simp only[Sem.run_bind,Sem.run_map,Sem.run_pure]
  erw [k1]
  rfl
 split at hx
 ·rename_i y hy;cases hx;obtain ⟨vs,h1,h2,h3⟩:=key _ hy
  match vs,h2 with
  | [v],_=>exact ⟨v,t141,h3 0 v x rfl rfl⟩
 ·rename_i xs hne hxs;cases hx;obtain ⟨vs,h1,h2,h3⟩:=key _ hxs;have hl:vs.length≠1:=by
   intro hl;rw[h2]at hl
   match xs,hl with
   | [x],_=>exact hne x rfl
  refine ⟨.tuple vs.toArray,by simpa [hl] using h1,.tup _ _ (by simp[h2]) fun j v x hv hx=>h3 j v x t158 hx⟩
 ·cases hx
def Ends (C:Cfg)(fn:Func)(R:AV→c6→Prop):Exit→St→Prop
 | .normal,st | .ret,st=>∃x,yD C fn.results st.sl st.h=some x∧R x st.h
 | _,_=>False
theorem CallA.lU (g:Good P C){f:FuncId}{fn:Func}{c:Code}{args:List AV}{h:c6}{R:AV→c6→Prop}(hf:C.fns f=some fn)(hb:fn.body=some c)
  (r:c9 P C c ⟨args++List.replicate (fn.ntmps-args.length) .any,h⟩ (Ends C fn R)):CallA P C f args h R:=by
 intro B φ w cargs i hs hr;refine calls_of_wp (g.fns f fn hf).1 hb (wp_mono (r B φ w _ i ⟨?_,fun t=>?_,rfl⟩) fun e a' w' hp=>?_)
 ·simp[hs]
 ·by_cases ht:t<cargs.size
  ·have h1:(cargs++Array.replicate (fn.ntmps-cargs.size) undef).getD t undef=cargs[t]:=by simp[Array.getD_eq_getD_getElem?,Array.getElem?_append_left ht,ht]
   have h2:(args++List.replicate (fn.ntmps-args.length) AV.any).getD t .any=args[t]'(by omega):=by simp[List.getD,List.getElem?_append_left (show t<args.length by omega),show t<args.length by omega]
   rw[h1,h2];exact hr t _ _ (Array.getElem?_eq_getElem ht) (List.getElem?_eq_getElem (by omega))
  ·have h2:(args++List.replicate (fn.ntmps-args.length) AV.any).getD t .any=.any:=by rw[List.getD_eq_getElem?_getD,List.getElem?_append_right (by omega),List.getElem?_replicate];split<;>rfl
   rw[h2];exact .jW _
 ·obtain ⟨st',φ',h1,h2,h3,h4⟩:=hp;cases e with
  | normal=>
   obtain ⟨x,hx,hR⟩:=h4;obtain ⟨v,k1,k2⟩:=Y2 h1 g h3 hx;exact ⟨h3.nI,v,k1,v,x,st'.h,φ',rfl,h1,h2,k2,hR⟩
  | ret=>
   obtain ⟨x,hx,hR⟩:=h4;obtain ⟨v,k1,k2⟩:=Y2 h1 g h3 hx;exact ⟨h3.nI,v,k1,v,x,st'.h,φ',rfl,h1,h2,k2,hR⟩
  | _=>exact h4.elim
theorem CallA.frz {f:FuncId}{args:List AV}{h:c6}{R Q:AV→c6→Prop}(r:CallA P C f args h R)(hq:∀x h1,R x h1→∃y h2,jQ h.length h1 6 x=some y∧PM h.length h1=some h2∧Q y h2):CallA P C f args h Q:=by intro B φ w cargs i hs hr;refine (r B φ w cargs i hs hr).mono fun e w' hp=>?_;obtain ⟨v,x,h1,φ',rfl,k1,k2,k3,k4⟩:=hp;obtain ⟨y,h2,q1,q2,q3⟩:=hq x h1 k4;obtain ⟨rfl,k5⟩:=PN q2 k1;exact ⟨v,y,_,φ',rfl,k5,zX k2 (Nat.le_refl _),oC k1 _ 6 v x y q1 k3,q3⟩
end
def qE:AV→AV→Bool
 | .any,.any | .lV,.lV | .j4,.j4 | .pU,.pU | .tJ,.tJ=>true
 | .bool a,.bool b=>a==b
 | .int k a,.int k' b=>k==k'&&a==b
 | .str a,.str b=>a.data.toList==b.data.toList
 | _,_=>false
theorem pG {a b:AV}(h:qE a b=true):a=b:=by
 cases a<;>cases b<;>simp only[qE,Bool.false_eq_true,Bool.and_eq_true,beq_iff_eq]at h<;>first | rfl | (subst h;rfl) | skip
 ·obtain ⟨rfl,rfl⟩:=h;rfl
 ·rename_i x y;cases x;cases y;simp at h;rw[h]
def lG:List AV→List AV→Bool
 | [],[]=>true
 | a::as1,b::bs=>qE a b&&lG as1 bs
 | _,_=>false
theorem sW:∀{a b:List AV},lG a b=true→a=b
 | [],[],_=>rfl
 | [],_::_,h=>by simp[lG]at h
 | _::_,[],h=>by simp[lG]at h
 | a::as1,b::bs,h=>by simp only[lG,Bool.and_eq_true]at h;rw[pG h.1,sW h.2]
def J8 (P:Program)(C:Cfg)(t:TypeId):Bool:=
 match C.ut t with
 | .other=>true
 | .int k=>match P.underlying t with
  | some (.int k')=>k==k'
  | _=>false
 | .bool=>match P.underlying t with
  | some .bool=>true
  | _=>false
 | .str=>match P.underlying t with
  | some .string=>true
  | _=>false
 | .slice e=>match P.underlying t with
  | some (.slice e')=>e==e'&&(C.ut e).known
  | _=>false
 | .arr n e=>match P.underlying t with
  | some (.array n' e')=>n==n'&&e==e'&&(C.ut e).known&&n*C.sz e==C.sz t
  | _=>false
 | .n7 fields eq=>match P.underlying t with
  | some (.struct fs)=>fs.toList.map (fun f=>(f.offset,f.type))==fields&&fields.all (fun f=>(C.ut f.2).known&&decide (f.1+C.sz f.2≤C.sz t)) &&
    (! eq||(! P.stoodInHeld t&&! P.eqGuardType P.depth t&&fs.toList.all fun f=>f.name != "_"))
  | _=>false
 | .ptr e=>match P.underlying t with
  | some (.pointer e')=>e==e'
  | _=>false
 | .iface=>match P.underlying t with
  | some (.interface _)=>true
  | _=>false
 | .func=>match P.underlying t with
  | some (.func _ _ _)=>true
  | _=>false
def J9 (P:Program)(C:Cfg)(t:TypeId):Bool:=
 !(C.ut t).known||match P.info? t with
  | some i=>match i.zero with
   | some z=>i.size==C.sz t&&i.bytes==(C.ti t).bytes&&lG (z.cells.toList.map emb) (C.ti t).zero&&(C.ti t).zero.length==C.sz t&&z.cells.toList.all (·.oneCell')
   | none=>false
  | none=>false
theorem PO {P:Program}{C:Cfg}{t:TypeId}(hu:J8 P C t=true)(hi:J9 P C t=true):TOk P C t:=by
 refine ⟨?_,fun hk=>?_⟩
 ·unfold J8 at hu;split at hu<;>rename_i he<;>first | (rw[he];done) | (rw[he];simp only;done) | (rw[he];simp only) | trivial | skip
  ·split at hu
   ·rename_i hp;rw[hp,beq_iff_eq.1 hu]
   ·cases hu
  ·split at hu
   ·rename_i hp;exact hp
   ·cases hu
  ·split at hu
   ·rename_i hp;exact hp
   ·cases hu
  ·split at hu
   ·rename_i hp;simp only[Bool.and_eq_true,beq_iff_eq]at hu;exact ⟨by rw[hp,hu.1],hu.2⟩
   ·cases hu
  ·split at hu
   ·rename_i hp;simp only[Bool.and_eq_true,beq_iff_eq]at hu;exact ⟨by rw[hp,hu.1.1.1,hu.1.1.2],hu.1.2,hu.2⟩
   ·cases hu
  ·split at hu
   ·rename_i fs hp;simp only[Bool.and_eq_true,beq_iff_eq,Bool.or_eq_true,Bool.not_eq_true',List.all_eq_true,decide_eq_true_eq,bne_iff_ne]at hu;refine ⟨fs,hp,hu.1.1,fun f hf=>hu.1.2 f hf,fun h=>?_⟩;rcases hu.2 with h' | h'
    ·rw[h]at h';cases h'
    ·exact ⟨h'.1.1,h'.1.2,h'.2⟩
   ·cases hu
  ·split at hu
   ·rename_i hp;rw[hp,beq_iff_eq.1 hu]
   ·cases hu
  ·split at hu
   ·rename_i ms hp;exact ⟨ms,hp⟩
   ·cases hu
  ·split at hu
   ·rename_i a b c hp;exact ⟨a,b,c,hp⟩
   ·cases hu
 ·unfold J9 at hi;rw[hk]at hi;simp only[Bool.not_true,Bool.false_or]at hi;split at hi
  ·rename_i i hin;split at hi
   ·rename_i z hz;simp only[Bool.and_eq_true,beq_iff_eq,List.all_eq_true]at hi;exact ⟨i,z,hin,hz,hi.1.1.1.1,hi.1.1.1.2,sW hi.1.1.2,hi.1.2,hi.2⟩
   ·cases hi
  ·cases hi
section
variable {P:Program}{C:Cfg}
theorem o4.nil {ops:Array Oper}{st:St}{Q:St→Prop}(h:Q st):o4 P C ops [] st Q:=h
theorem o4.plain {ops:Array Oper}{o:Oper}{rest:List Oper}{st:St}{Q:St→Prop}{x:AV}{h':c6}(hw:aX ops st.sl o=some true)(hp:v8 C (rho C st.sl) st.h o.op=some (x,h'))
  (hk:o4 P C ops rest ⟨eY st.sl o.dst x,h'⟩ Q):o4 P C ops (o::rest) st Q:=.inl ⟨hw,.plain hp hk⟩
theorem o4.skip {ops:Array Oper}{o:Oper}{rest:List Oper}{st:St}{Q:St→Prop}(hw:aX ops st.sl o=some false)
  (hk:o4 P C ops rest ⟨eY st.sl o.dst (.tup []),st.h⟩ Q):o4 P C ops (o::rest) st Q:=.inr ⟨hw,hk⟩
theorem o4.call {ops:Array Oper}{o:Oper}{rest:List Oper}{st:St}{Q:St→Prop}{c:Call}{f:FuncId}{args:List AV}(hw:aX ops st.sl o=some true)(ho:o.op=.call c)(ht:aH C (rho C st.sl) c=some (f,args))(hb:p9 C f=true)
  (hc:CallA P C f args st.h fun x h'=>o4 P C ops rest ⟨eY st.sl o.dst x,h'⟩ Q):o4 P C ops (o::rest) st Q:=.inl ⟨hw,t230⟩
def PQ (C:Cfg)(ops:Array Oper):List Oper→St→Option St
 | [],st=>some st
 | o::rest,st=>match aX ops st.sl o with
  | some true=>match v8 C (rho C st.sl) st.h o.op with
   | some (x,h')=>PQ C ops rest ⟨eY st.sl o.dst x,h'⟩
   | none=>none
  | some false=>PQ C ops rest ⟨eY st.sl o.dst (.tup []),st.h⟩
  | none=>none
end
end Go.Ab
end
section
namespace Go.Ab
open Go.RowKit
inductive Refs (n:Nat):AV→Prop
 | any:Refs n .any
 | bool (b:Bool):Refs n (.bool b)
 | int (k:IntKind) (i:Int):Refs n (.int k i)
 | str (s:ByteArray):Refs n (.str s)
 | lV:Refs n .lV
 | j4:Refs n .j4
 | pU:Refs n .pU
 | tJ:Refs n .tJ
 | vec (m:Nat) (cs:List AV):Refs n (.vec m cs)
 | lT (cs:List AV) (o:Nat):Refs n (.lT cs o)
 | ptr (β g off:Nat) (hb:β<n):Refs n (.ptr β g off)
 | own (β g off len:Nat) (hb:β<n):Refs n (.own β g off len)
 | fn (f:Fn) (a c:List AV) (ha:∀x∈a,Refs n x) (hc:∀x∈c,Refs n x):Refs n (.fn f a c)
 | iface (t:TypeId) (v:AV) (hv:Refs n v):Refs n (.iface t v)
 | agg (xs:List AV) (hx:∀x∈xs,Refs n x):Refs n (.agg xs)
 | tup (xs:List AV) (hx:∀x∈xs,Refs n x):Refs n (.tup xs)
section
variable {P:Program}{C:Cfg}{G:Nat→AV}{B:Nat}{h:c6}{φ:Map}{w:World}
variable {x:AV}
theorem tX {α:Type}{a:Array α}{xs:List AV}(hs:a.size=xs.length)(hx:x∈xs):∃(j:Nat) (v:α),a[j]?=some v∧xs[j]?=some x:=by obtain ⟨j,hj,he⟩:=List.mem_iff_getElem.1 hx;exact ⟨j,a[j]'(by omega),Array.getElem?_eq_getElem (by omega),by rw[List.getElem?_eq_getElem hj,he]⟩
theorem Refs.GC {v:Value}(r:Rel h φ w v x):Refs h.length x:=by
 induction r with
 | pure hp=>cases hp<;>constructor<;>simp
 | ptr β g off bl b hb hg hv=>exact .ptr _ _ _ (List.getElem?_eq_some_iff.1 hb).1
 | own β g off len cap ad b hb _ _ _ _ _ _=>exact .own _ _ _ _ (List.getElem?_eq_some_iff.1 hb).1
 | fn f a c xs ys ha hc hra hrc iha ihc=>
  refine .fn f xs ys (fun x hx=>?_) (fun x hx=>?_)
  ·obtain ⟨j,v,h1,h2⟩:=tX ha hx;exact iha j v x h1 h2
  ·obtain ⟨j,v,h1,h2⟩:=tX hc hx;exact ihc j v x h1 h2
 | iface t v x hr ih=>exact .iface t x ih
 | agg a xs ha h1 hr ih=>
  refine .agg xs fun x hx=>?_;obtain ⟨j,v,h1,h2⟩:=tX ha hx;exact ih j v x h1 h2
 | tup a xs ha hr ih=>
  refine .tup xs fun x hx=>?_;obtain ⟨j,v,h1,h2⟩:=tX ha hx;exact ih j v x h1 h2
theorem vP {n:Nat}{v:Value}(hx:Refs n x)(r:Rel h φ w v x):Rel (h.take n) φ w v x:=by
 induction r with
 | pure hp=>exact .pure (hp.take n)
 | ptr β g off bl b hb hg hv=>cases hx with | ptr _ _ _ hl=>exact .ptr β g off bl b (qD hb hl) hg hv
 | own β g off len cap ad b hb hg hlc hcm had hn hv=>cases hx with | own _ _ _ _ hl=>exact .own β g off len cap ad b (qD hb hl) hg hlc hcm had hn hv
 | fn f a c xs ys ha hc hra hrc iha ihc=>
  cases hx with | fn _ _ _ h1 h2=>
  exact .fn f a c xs ys ha hc (fun j v x k1 k2=>iha j v x k1 k2 (h1 x (List.mem_of_getElem? k2))) (fun j v x k1 k2=>ihc j v x k1 k2 (h2 x (List.mem_of_getElem? k2)))
 | iface t v x hr ih=>cases hx with | iface _ _ h1=>exact .iface t v x (ih h1)
 | agg a xs ha h1 hr ih=>cases hx with | agg _ h2=>exact .agg a xs ha h1 (fun j v x k1 k2=>ih j v x k1 k2 (h2 x (List.mem_of_getElem? k2)))
 | tup a xs ha hr ih=>cases hx with | tup _ h2=>exact .tup a xs ha (fun j v x k1 k2=>ih j v x k1 k2 (h2 x (List.mem_of_getElem? k2)))
theorem PR {l:c6}{φ':Map}{w':World}(i:Pic G B h φ w)(i':Pic G B (h++l) φ' w'):Pic G B h φ' w':=by
 have ht:(h++l).take h.length=h:=by simp
 have hget:∀{β:Nat} {b:Blk},h[β]?=some b→(h++l)[β]?=some b:=fun hb=>by rw[List.getElem?_append_left (List.getElem?_eq_some_iff.1 hb).1];exact hb
 refine ⟨fun β b hb hv=>?_,fun β β' b b' hb hb' hv hv' he=>i'.inj β β' b b' (hget hb) (hget hb') hv hv' he,fun β b hb hv=>i'.base β b (hget hb) hv,fun β b hb hv=>i'.cQ β b (hget hb) hv,i'.room,fun g=>?_⟩
 ·obtain ⟨cur0,_,_,k3,k4⟩:=i.blk β b hb hv;obtain ⟨cur,h1,h2,h3,h4⟩:=i'.blk β b (hget hb) hv;refine ⟨cur,h1,h2,h3,fun j v x e1 e2=>⟨(h4 j v x e1 e2).1,?_⟩⟩;have hj:j<cur0.size:=Nat.lt_of_lt_of_le (List.getElem?_eq_some_iff.1 e2).1 k3;have r0:=(k4 j cur0[j] x (Array.getElem?_eq_getElem hj) e2).2;have:=vP (Refs.GC r0) (h4 j v x e1 e2).2;rw[ht]at this;exact this
 ·have:=(i'.eJ g).take h.length;rw[ht]at this;exact this
theorem CallA.shut {f:FuncId}{args:List AV}{R Q:AV→c6→Prop}(r:CallA P C f args h R)(hq:∀x h1,R x h1→∃l y,h1=h++l∧jQ h.length h1 6 x=some y∧Q y h):CallA P C f args h Q:=by
 intro B φ w cargs i hs hr;refine (r B φ w cargs i hs hr).mono fun e w' hp=>?_;obtain ⟨v,x,h1,φ',rfl,k1,k2,k3,k4⟩:=hp;obtain ⟨l,y,rfl,q1,q2⟩:=hq x h1 k4;have ht:(h++l).take h.length=h:=by simp
 have hr':=oC k1 h.length 6 v x y q1 k3;have he:=zX k2 (Nat.le_refl _);rw[ht]at hr' he;exact ⟨v,y,h,φ',rfl,PR i k1,he,hr',q2⟩
theorem pic_nil (w:World)(B:Nat)(hB:B≤w.heap.size)(hG:G=fun _=>.any):Pic G B [] (fun _=>(0,0)) w:=
 ⟨fun β b hb=>by simp at hb,fun β β' b b' hb=>by simp at hb,fun β b hb=>by simp at hb,fun β b hb=>by simp at hb,hB,fun g=>by rw[hG];exact .any _⟩
theorem CallA.top {f:FuncId}{args:List AV}(hG:C.eJ=fun _=>.any)(r:CallA P C f args [] (fun x _=>x=.bool true))(w:World)(cargs:Array Value)(hs:cargs.size=args.length)
  (hr:∀(j:Nat) v x,cargs[j]?=some v→args[j]?=some x→PRel w (fun k _=>k<w.heap.size) v x):Calls P f cargs w fun e w'=>e=.returned (.bool true)∧Below w.heap.size w w':=by
 have hst:∀k,k<w.heap.size→X6 [] (fun _=>(0,0)) w k:=fun k hk=>⟨hk,fun β b hb=>by simp at hb⟩;refine (r w.heap.size (fun _=>(0,0)) w cargs (pic_nil w _ (Nat.le_refl _) hG) hs fun j v x h1 h2=>.pure ((hr j v x h1 h2).mono fun k j hk=>⟨rfl,(hst k hk).X7 j⟩)).mono fun e w' hp=>?_;obtain ⟨v,x,h',φ',rfl,_,ev,hrel,rfl⟩:=hp;rw[hrel.bP];exact ⟨rfl,ev.os,ev.tape,ev.output,ev.size,fun k hk=>(ev.lU k (hst k hk)).1⟩
def Hp (l:List Int):AV:=.vec l.length (l.map (.int .i64))
theorem PS (c:Nat)(a:Option Addr):PRel w (fun k _=>k<w.heap.size) (.slice a 0 c) (Hp []):=.yE a c
theorem PT {x:Addr}{len cap:Nat}{zs:List Int}(hl:len≤cap)(hz:zs.length=cap)(hc:∀i,i<zs.length→w.cell? (x.add i)=some (.int .i64 (zs.getD i 0))) :
  PRel w (fun k _=>k<w.heap.size) (.slice (some x) len cap) (Hp (zs.take len)):=by
 by_cases h0:len=0
 ·subst h0;exact .yE _ _
 ·have hlen:(zs.take len).length=len:=by simp;omega
  have c0:=hc 0 (by omega);obtain ⟨b,o,s⟩:=x;have hs:s=none:=by
   cases s with
   | none=>rfl
   | some k=>
    simp only[Addr.add,if_true,World.cell?]at c0;split at c0<;>simp at c0
  subst hs;have hb:b<w.heap.size:=by
   simp only[Addr.add,if_true,World.cell?]at c0;split at c0
   ·rename_i hh;exact (Array.getElem?_eq_some_iff.1 hh).1
   ·cases c0
  have hv:Hp (zs.take len)=.vec len ((zs.take len).map (.int .i64)):=by rw[Hp,hlen]
  rw[hv];refine .vec b o len cap _ ((zs.take len).map (.int .i64)) (fun _ _=>hb) hl (by simp) (fun j v hv=>?_) (fun j v y hv hy=>?_)
  ·rw[List.getElem?_map,List.getElem?_take]at hv;split at hv
   ·rename_i hj;have hjz:j<zs.length:=by omega
    rw[List.getElem?_eq_getElem hjz]at hv;simp at hv;subst hv;refine ⟨?_,rfl⟩;have:=hc j hjz;rw[List.getD_eq_getElem?_getD,List.getElem?_eq_getElem hjz]at this;rw[←show (({ block:=b,off:=o,spot:=none }:Addr).add j)=⟨b,o+j,none⟩ from by
     unfold Addr.add;split
     ·rename_i h;subst h;rfl
     ·rfl]
    exact this
   ·simp at hv
  ·rw[List.getElem?_map]at hv hy;cases hq:(zs.take len)[j]? with
   | none=>rw[hq]at hv;simp at hv
   | some q=>
    rw[hq]at hv hy;simp at hv hy;subst hv hy;exact .int _ _
theorem v9 (h l:c6)(i:Nat):(h++l)[h.length+i]?=l[i]?:=by rw[List.getElem?_append_right (by omega),Nat.add_sub_cancel_left]
theorem jI (h l:c6):(h++l)[h.length]?=l[0]?:=by rw[List.getElem?_append_right (by omega),Nat.sub_self]
theorem s3 (h l:c6)(i:Nat)(b:Blk):(h++l).set (h.length+i) b=h++l.set i b:=by rw[List.set_append_right _ _ (by omega),Nat.add_sub_cancel_left]
theorem zZ (h l:c6)(b:Blk):(h++l).set h.length b=h++l.set 0 b:=by rw[List.set_append_right _ _ (by omega),Nat.sub_self]
theorem c9.less {c:Code}{sl sl':List AV}{Q:Exit→St→Prop}(hl:sl'.length=sl.length)(hs:∀t,sl'.getD t .any=sl.getD t .any∨sl'.getD t .any=.any)(r:c9 P C c ⟨sl',h⟩ Q):c9 P C c ⟨sl,h⟩ Q:=by
 intro B φ w a i s;refine r B φ w a i ⟨by rw[hl];exact s.size,fun t=>?_,s.nI⟩;rcases hs t with e | e
 ·show Rel h φ w _ (sl'.getD t .any);rw[e];exact s.rel t
 ·show Rel h φ w _ (sl'.getD t .any);rw[e];exact .jW _
end
end Go.Ab
end
