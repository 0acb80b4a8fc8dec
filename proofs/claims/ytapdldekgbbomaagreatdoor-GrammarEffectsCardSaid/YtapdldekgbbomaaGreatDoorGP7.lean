/- My own texts, put together by a program of mine. -/
import Derived.Test.YtapdldekgbbomaaGreatDoorGP6
set_option linter.unusedSimpArgs false
set_option linter.unusedVariables false
set_option maxRecDepth 100000
set_option maxHeartbeats 4000000
section
namespace Go.Proofs.YtapdldekgbbomaaGreatDoor
open Go.Ab Go.Un
end Go.Proofs.YtapdldekgbbomaaGreatDoor
namespace Go.Ab
theorem Rel.ints {h1 h2:c8}{φ1 φ2:Map}{w:World}{v:Value}{xs:List AV}(hi:∀x∈xs,∃n,x=.int .i64 n)(r:Rel h1 φ1 w v (.agg xs)):Rel h2 φ2 w v (.agg xs):=by obtain ⟨a,rfl,ha,hs,hr⟩:=r.jD;refine .agg a xs ha hs fun j v x e1 e2=>?_;obtain ⟨n,rfl⟩:=hi x (List.mem_of_getElem? e2);have:=hr j v _ e1 e2;cases this.z6;exact .bP _ _
variable {h:c8}
theorem l6.borrowR {P:Program}{C:Cfg}{f:FuncId}{args args':List AV}{x:AV}(hx:∀{h1 h2:c8} {φ1 φ2:Map} {w:World} {v:Value},Rel h1 φ1 w v x→Rel h2 φ2 w v x)(ha:KB 0 h args' args)(r:l6 P C f args' (bJ 0 h) fun y _=>y=x):l6 P C f args h fun y k=>y=x∧k=h:=by
  intro B φ w cargs i hs hr;obtain ⟨i',_⟩:=yL 0 i;obtain ⟨k1,k2⟩:=ha.get;refine (r B φ w cargs i' t214 fun j v y h1 h2=>?_).mono fun e w' hp=>?_
  · have hj:j<args.length:=by rw[←k1];exact (List.getElem?_eq_some_iff.1 h2).1
    have e1:args'.getD j .any=y:=by simp[List.getD,h2]
    have e2:args.getD j .any=args[j]:=by simp[List.getD,hj]
    rcases k2 j with h | h
    · rw[e1]at h
      rw[h];exact .jE _
    · rw[e1,e2]at h
      exact yM i 0 h (hr j v _ h1 (List.getElem?_eq_getElem hj))
  · obtain ⟨v,y,h',φ',rfl,h1,h2,h3,rfl⟩:=hp
    have hfree:∀k,k<w.heap.size→J2 (bJ 0 h) φ w k:=fun k hk=>⟨hk,fun β b hb hv=>by
      rcases dA hb with ⟨hn,_⟩ | ⟨_,b',_,rfl⟩
      · omega
      · cases hv⟩
    have hk:∀k,k<w.heap.size→w'.heap[k]?=w.heap[k]?:=fun k hk=>(h2.fJ k (hfree k hk)).1;have ev:Ev h φ w h φ w':=⟨h2.os,h2.tape,h2.output,h2.size,fun k hs=>⟨hk k hs.1,Nat.lt_of_lt_of_le hs.1 h2.size,hs.2⟩,fun k j hs=>⟨World.cell?_of_block (hk k hs.1),Nat.lt_of_lt_of_le hs.1 h2.size,hs.2⟩,Nat.le_refl _,fun β b b' e1 e2=>by rw[e1]at e2;cases e2;exact ⟨Nat.le_refl _,fun _=>⟨rfl,rfl,rfl⟩⟩⟩;refine ⟨v,_,h,φ,rfl,⟨fun β b hb hv=>?_,i.inj,i.base,i.cL,Nat.le_trans i.room h2.size,fun g=>ev.B6 (i.eK g)⟩,ev,hx h3,rfl,rfl⟩;obtain ⟨cur,q1,q2,q3,q4⟩:=i.blk β b hb hv;exact ⟨cur,(hk _ (Array.getElem?_eq_some_iff.1 q1).1).trans q1,q2,q3,fun j v x a d=>⟨(q4 j v x a d).1,ev.rel (q4 j v x a d).2⟩⟩
end Go.Ab
namespace Go.Proofs.YtapdldekgbbomaaGreatDoor
open Go.Ab Go.Un
variable {h:c8}{u:Un}{it:aD}{x:Int}
theorem QH (hu:WU u)(w:WIt u it)(h0:0≤x)(h1:x<(g5 u it).length):CB 57 [.agg [.vec u.globals.length (l5 u.globals),.vec u.c5.length (j6 u.c5),.vec u.procs.length (n8 u.procs),.int .i64 u.main],.agg [.int .i64 it.proc,.vec it.n5.length (l5 it.n5)],.int .i64 x] h (.vec (z5 ((g5 u it).getD x.toNat j4) x.toNat).length (l5 (z5 ((g5 u it).getD x.toNat j4) x.toNat))):=by obtain ⟨pc,rfl⟩:=Int.eq_ofNat_of_zero_le h0;exact c_nextF hu w (by omega)
theorem A3 (hu:WU u)(w:WIt u it)(h0:0≤x)(h1:x<(g5 u it).length):CB 31 [.agg [.vec u.globals.length (l5 u.globals),.vec u.c5.length (j6 u.c5),.vec u.procs.length (n8 u.procs),.int .i64 u.main],.agg [.int .i64 it.proc,.vec it.n5.length (l5 it.n5)],.int .i64 x] h (.vec (z5 ((g5 u it).getD x.toNat j4) x.toNat).length (l5 (z5 ((g5 u it).getD x.toNat j4) x.toNat))):=by obtain ⟨pc,rfl⟩:=Int.eq_ofNat_of_zero_le h0;exact c_nextR hu w (by omega)
theorem IJ (hu:WU u)(w:WIt u it)(h0:0≤x)(h1:x<(g5 u it).length)(m:Int):CB 58 [.agg [.vec u.globals.length (l5 u.globals),.vec u.c5.length (j6 u.c5),.vec u.procs.length (n8 u.procs),.int .i64 u.main],.agg [.int .i64 it.proc,.vec it.n5.length (l5 it.n5)],.int .i64 x,.int .i64 m] h (.int .i64 (chI it ((g5 u it).getD x.toNat j4) m)):=by obtain ⟨pc,rfl⟩:=Int.eq_ofNat_of_zero_le h0;exact PT hu w (by omega) m
theorem xK (hu:WU u)(w:WIt u it)(h0:0≤x)(h1:x<(g5 u it).length)(m:Int):CB 24 [.agg [.vec u.globals.length (l5 u.globals),.vec u.c5.length (j6 u.c5),.vec u.procs.length (n8 u.procs),.int .i64 u.main],.agg [.int .i64 it.proc,.vec it.n5.length (l5 it.n5)],.int .i64 x,.int .i64 m] h (.int .i64 (chI it ((g5 u it).getD x.toNat j4) m)):=by obtain ⟨pc,rfl⟩:=Int.eq_ofNat_of_zero_le h0;exact HU hu w (by omega) m
noncomputable def J0 (u:Un)(c:Clo)(lock:Int)(l:List Ru):List Ef×Int×Int:=
  if lock<0∨(u.c5.length:Int)≤lock then ([],0,6) else match (List.range l.length).find? fun k=>!qI u c l k with
    | some k=>([],(k:Int),12)
    | none=>(jL u c lock l l.length,(l.length:Int),0)
variable {c:Clo}{lock:Int}{l:List Ru}
theorem effR_u (h:lock<0∨(u.c5.length:Int)≤lock):J0 u c lock l=([],0,6):=if_pos h
variable {k:Nat}
theorem effR_b (h0:0≤lock)(h1:lock<u.c5.length)(hk:k<l.length)(ha:∀d,d<k→aU u c l d)(hn:¬aU u c l k):J0 u c lock l=([],(k:Int),12):=by unfold J0;rw[if_neg (by omega),show (List.range l.length).find? (fun k=>!qI u c l k)=some k from List.find?_range_eq_some.2 ⟨by rw[fW hn];rfl,List.mem_range.2 hk,fun j hj=>by rw[jV.2 (ha j hj)];rfl⟩]
theorem IK (h0:0≤lock)(h1:lock<u.c5.length)(ha:∀d,d<l.length→aU u c l d):J0 u c lock l=(jL u c lock l l.length,(l.length:Int),0):=by unfold J0;rw[if_neg (by omega),show (List.range l.length).find? (fun k=>!qI u c l k)=none from List.find?_range_eq_none.2 fun j hj=>by rw[jV.2 (ha j hj)];rfl]
variable {i:Nat}
theorem TV (hr:aU u c l k)(hi:i<(l.getD k g6).items.length):0≤((l.getD k g6).items.getD i (0,0)).1∧((l.getD k g6).items.getD i (0,0)).1<(g5 u (c.insts.getD (l.getD k g6).inst.toNat c9)).length∧(((l.getD k g6).items.getD i (0,0)).2 = -1∨0≤((l.getD k g6).items.getD i (0,0)).2∧((l.getD k g6).items.getD i (0,0)).2<k):=by
  obtain ⟨p0,p1,_,_,p4⟩:=hr.it i hi;refine ⟨p0,p1,?_⟩;unfold oT at p4;split at p4
  · exact .inr ⟨p4.1,p4.2.1⟩
  · exact .inl p4
def KI (r:Ru)(i:Nat):Bool:=decide (i+1=r.items.length)&&!r.op'
theorem qO (hr:aU u c l k)(hi:i<(l.getD k g6).items.length):(((g5 u (c.insts.getD (l.getD k g6).inst.toNat c9)).getD ((l.getD k g6).items.getD i (0,0)).1.toNat j4).op==8)=KI (l.getD k g6) i:=by rw[Bool.eq_iff_iff,beq_iff_eq,KI,Bool.and_eq_true,decide_eq_true_eq,Bool.not_eq_true'];exact (hr.it i hi).2.2.2.1
theorem xL (hr:aU u c l k)(hi:i<(l.getD k g6).items.length):rT u c l k (l.getD k g6) ((l.getD k g6).items.getD i (0,0)) (decide (i+1=(l.getD k g6).items.length))=true:=by have h:=(hr.it i hi).2.2.2.2;refine mA.2 ?_;rw[decide_eq_true_eq];exact h
theorem iW {u:Un}{c:Clo}{l:List Ru}{k i:Nat}(h0:0≤((l.getD k g6).items.getD i (0,0)).1)(h1:((l.getD k g6).items.getD i (0,0)).1<(g5 u (c.insts.getD (l.getD k g6).inst.toNat c9)).length)(h2:((l.getD k g6).items.getD i (0,0)).1∈xH u c (l.getD k g6) i)
    (h3:(((g5 u (c.insts.getD (l.getD k g6).inst.toNat c9)).getD ((l.getD k g6).items.getD i (0,0)).1.toNat j4).op==8)=KI (l.getD k g6) i) (h4:rT u c l k (l.getD k g6) ((l.getD k g6).items.getD i (0,0)) (decide (i+1=(l.getD k g6).items.length))=true):oB u c l k (l.getD k g6) i:=by
  refine ⟨h0,h1,h2,?_,?_⟩
  · have e:(ptX u c ((l.getD k g6).inst,((l.getD k g6).items.getD i (0,0)).1)).op=8↔(KI (l.getD k g6) i=true):=by rw[←h3,beq_iff_eq];rfl
    rw[e,KI];simp
  · have h:=mA.1 h4
    rw[decide_eq_true_eq]at h;exact h
variable {m:Int}{bf:List Ef}{r:Ru}
theorem IL {x:Int×Int}(hb:∀e∈bf,smE e)(hx:x.2 = -1∨0≤x.2∧x.2<bf.length):smE (KH u c m bf r x):=by
  unfold KH;split
  · have h:=vT (it:=ptI c (r.inst,x.1)) (x:=ptX u c (r.inst,x.1)) (m:=m)
    exact .inl (HZ (by omega) (by omega))
  · exact hb _ (j7 (by omega))
variable {b0 b1 b2 b3:Blk}{f:List Ef}{n:Nat}
theorem app_ef {l:c8}{e:Ef}(hn:f.length=n)(hl:n<1000000):j5 cfg 63 (h++(b0::b1::b2::b3::p8 63 3 n (y0 f)::⟨0,false,63,3,[.int .i64 e.lo,.int .i64 e.hi,.int .i64 e.net],0⟩::l)) (.own (h.length+4) n 0 n) (.own (h.length+5) 0 0 1)=some (.own (h.length+4) (n+1) 0 (n+1),h++(b0::b1::b2::b3::p8 63 3 (n+1) (y0 (f++[e]))::⟨0,false,63,3,[.int .i64 e.lo,.int .i64 e.hi,.int .i64 e.net],0⟩::l)):=by subst hn;rw[aC (C:=cfg) (K:=3) (m:=1) (new:=[.int .i64 e.lo,.int .i64 e.hi,.int .i64 e.net]) (zs:=y0 f) t30 rfl (by omega) (by rw[bB];omega) rfl (by omega) t205 rfl (by decide) (by omega),n7,show y0 f++[.int .i64 e.lo,.int .i64 e.hi,.int .i64 e.net]=y0 (f++[e]) from by simp[y0,PV]];rfl
theorem A4 (l:List Ef):aO (y0 l):=aO.flat fun _=>aO.cons .int (aO.cons .int (aO.cons .int aO.nil))
variable {β g len:Nat}{H:c8}{a:List Ef}
theorem frz_ef {d:Nat}(hb:H[β]?=some (p8 63 3 g (y0 a)))(hn:n≤β)(hl:a.length=len):gT n H (d+3) (.own β g 0 len)=some (.vec len (y0 a)):=by rw[cW,if_neg (by omega)];exact eN hb hn (by rw[bB,hl];omega) (by omega) ((A4 a).frz _ _ _)
theorem frz_eft {y:Int}(hb:H[β]?=some (p8 63 3 g (y0 a)))(hn:n≤β)(hl:a.length=len):gT n H 6 (.tup [.own β g 0 len,.int .i64 x,.int .i64 y])=some (.tup [.vec len (y0 a),.int .i64 x,.int .i64 y]):=by have e:gT n H 5 (.own β g 0 len)=some (.vec len (y0 a)):=frz_ef (d:=2) hb hn hl;rw[lF];simp only[s5,iN,e,Option.map_some]
theorem Ad {x:Int×Int}(h:x.2 = -1):KH u c m bf r x=ofE (chI (c.insts.getD r.inst.toNat c9) ((g5 u (c.insts.getD r.inst.toNat c9)).getD x.1.toNat j4) m):=if_pos h
theorem Ae {x:Int×Int}(h:¬x.2 = -1):KH u c m bf r x=bf.getD x.2.toNat mG:=if_neg h
theorem X4 (hr:aU u c l k)(hi:i<(l.getD k g6).items.length):oT u c l k (l.getD k g6) ((l.getD k g6).items.getD i (0,0)) (i+1=(l.getD k g6).items.length):=(hr.it i hi).2.2.2.2
theorem QI:(J0 u c lock l).1.length≤l.length:=by
  unfold J0;split
  · simp
  · split
    · simp
    · rw[dJ];exact Nat.le_refl _
theorem frz_efS (hb:H[β]?=some (p8 63 3 g (y0 a)))(hl:a.length=len):LU 0 H (.own β g 0 len)=some (.vec len (y0 a)):=by exact eN hb (Nat.zero_le _) (by rw[bB,hl];omega) (by omega) ((A4 a).frz _ _ _)
attribute [local go_sem] rd Int.natCast_nonneg Int.natCast_inj Int.toNat_natCast_add_one mnI mxI wrap64 qS max2 u4 u3 bB kH iR iS iT lU iU iV lV eA w8 aJ w6 q9 cQ n6 dW dX cP gR fV lZ hU List.length_take oF app_ef dJ
theorem A5:(xH u c r i).length≤2:=by
  cases i with
  | zero=>simp[xH]
  | succ i=>exact nF
theorem c_right (hu:WU u)(wc:WC u c)(hk:k<l.length)(hl:l.length<1000000)(hit:∀r∈l,r.items.length<1000000):CB 32 [.agg [.vec u.globals.length (l5 u.globals),.vec u.c5.length (j6 u.c5),.vec u.procs.length (n8 u.procs),.int .i64 u.main,.vec c.insts.length (p6 c.insts),.vec c.calls.length (s6 c.calls),.vec c.roots.length (l5 c.roots),.vec l.length (g8 l)],.int .i64 ((k:Nat):Int)] h (.bool (qI u c l k)):=by
  refine .bz Tryz.f32 110 ?_;have hml:=hu.ml;have hwl:=wc.len;have hwc:=wc.cl;have hri:(l.getD k g6).items.length<1000000:=hit _ (j7 hk);refine c135z ?_;refine c28z ?_;refine .spl 19 rfl rfl (fun e1=>?_) (fun e1=>?_)
  ·try simp only[e1]
   have qe1:=fact e1;refine .k 8 [(3,19)] ?_;refine .k 8 [(12,28),(16,32)] ?_;refine .m [(12,28),(16,32)] ?_;refine c46z ?_;exact .ret (.ex (hq:=t109))
  try simp only[e1]
  have qe1:=fact e1;refine .k 8 [(3,19)] ?_;refine .e 1 ?_;refine .spl 28 rfl rfl (fun e2=>?_) (fun e2=>?_)
  ·try simp only[e2]
   have qe2:=fact e2;refine .k 8 [(12,28),(16,32)] ?_;refine .m [(12,28)] ?_;refine c46z ?_;exact .ret (.ex (hq:=t109))
  try simp only[e2]
  have qe2:=fact e2;refine .k 4 [(12,28)] ?_;refine .spl 32 rfl rfl (fun e3=>?_) (fun e3=>?_)
  ·try simp only[e3]
   have qe3:=fact e3;refine .m [(12,28),(16,32)] ?_;refine u2z ?_ ?_
   ·intro e4 qe4;refine c4z ?_;exact .ret (.ex (hq:=t109))
   intro e4 qe4;refine .sk ?_;refine .c7 [1,2,5] ?_;have w:WIt u (c.insts.getD (l.getD k g6).inst.toNat c9):=wc.wi _ (j7 (by omega));have w1:=w.lo;have w2:=w.hi;have hsz:(g5 u (c.insts.getD (l.getD k g6).inst.toNat c9)).length≤1664:=aI hu w;have hwr:=wc.cll (l.getD k g6).inst.toNat (by omega);refine c17z ?_;refine .ca rfl rfl (O5 hu wc (by omega) (by omega)) ?_;refine .n ?_;refine c7z ?_;refine g7.wT (t:=7) (γ:=h.length+2) (len:=1) (e:=3) (K:=1) (g:=0) (zs:=l5 [0]) t30 rfl (by omega) (oR _) (rB (by decide) rfl) ?_;rw[cM];simp only[n7,List.set_cons_succ,List.set_cons_zero];generalize iC _ _ _ _ _=Vb;refine .aW (fun m st=>∃(i:Nat),(m=(l.getD k g6).items.length-i∧((∀d,d<i→oB u c l k (l.getD k g6) d)∧i≤(l.getD k g6).items.length))∧st=⟨mkS 110 [(1,AV.int .i64 ((k:Nat):Int)),(2,AV.ptr h.length 0 0),(5,AV.ptr (h.length+1) 0 0),(6,AV.vec (g5 u (c.insts.getD (l.getD k g6).inst.toNat c9)).length (r8 (g5 u (c.insts.getD (l.getD k g6).inst.toNat c9)))),(7,AV.vec (xH u c (l.getD k g6) i).length (l5 (xH u c (l.getD k g6) i))),(45,AV.vec (l.getD k g6).items.length (j0 (l.getD k g6).items)),(46,AV.int .i64 (((l.getD k g6).items.length:Nat):Int)),(47,AV.int .i64 ((i:Nat):Int))],h++[⟨0,false,84,8,[.vec u.globals.length (l5 u.globals),.vec u.c5.length (j6 u.c5),.vec u.procs.length (n8 u.procs),.int .i64 u.main,.vec c.insts.length (p6 c.insts),.vec c.calls.length (s6 c.calls),.vec c.roots.length (l5 c.roots),.vec l.length (g8 l)],0⟩,⟨0,false,53,3,[.int .i64 (l.getD k g6).inst,.bool (l.getD k g6).op',.vec (l.getD k g6).items.length (j0 (l.getD k g6).items)],0⟩,Vb]⟩) (.v ⟨0,⟨rfl,⟨t106,by omega⟩⟩,rfl⟩) ?_ (he:=by rfl);rintro m sl h' ⟨i,⟨hm,⟨hI,hi⟩⟩,hst⟩;obtain ⟨rfl,rfl⟩:=St.mk.inj hst;clear hst;have hwy:=A5 (u:=u) (c:=c) (r:=(l.getD k g6)) (i:=i);refine c20z ?_;refine u2z ?_ ?_
   ·intro e5 qe5;refine c9z ?_;refine c135z ?_;refine .c7 [1,2,5,6,7,9,10,45,46,47] ?_;refine c28z ?_;refine .spl 61 rfl rfl (fun e6=>?_) (fun e6=>?_)
    ·try simp only[e6]
     have qe6:=fact e6;refine .k 8 [(3,61),(10,68)] ?_;refine .m [(10,68)] ?_;refine c46z ?_;exact .ret (.ex (hq:=t47))
    try simp only[e6]
    have qe6:=fact e6;refine .k 7 [(3,61)] ?_;refine .spl 68 rfl rfl (fun e7=>?_) (fun e7=>?_)
    ·try simp only[e7]
     have qe7:=fact e7;refine .m [(10,68)] ?_;refine c46z ?_;exact .ret (.ex (hq:=t47))
    try simp only[e7]
    have qe7:=fact e7;refine .k 3 [(10,68)] ?_;refine .ca rfl rfl (TO (xH u c (l.getD k g6) i) (by omega)) ?_;refine .m [(10,68)] ?_;refine u2z ?_ ?_
    ·intro e8 qe8;refine c4z ?_;exact .ret (.ex (hq:=t47))
    intro e8 qe8;refine c100z ?_;refine .c7 [1,2,5,6,9,10,45,46,47] ?_;refine .ss u9 (mkP 22 [0,0,2,7,15,31,63,0,128,384,896,1920,3968,8191,16383,32767,32767,32767,32767,524287,1048575,2097151] []) ?_;refine .k 8 [] ?_;refine .k 1 [] ?_;refine .spl 83 rfl rfl (fun e9=>?_) (fun e9=>?_)
    ·try simp only[e9]
     have qe9:=fact e9;refine .k 6 [(8,83)] ?_;refine .spl 89 rfl rfl (fun e10=>?_) (fun e10=>?_)
     ·try simp only[e10]
      have qe10:=fact e10;refine .n [(14,89)] ?_;refine c46z ?_;exact .ret (.ex (hq:=t58))
     try simp only[e10]
     have qe10:=fact e10;refine c45z ?_;refine .n [(14,89)] ?_;refine u2z ?_ ?_
     ·intro e11 qe11;refine c4z ?_;exact .ret (.ex (hq:=t58))
     intro e11 qe11;refine c182z ?_;have hl1:i+1=(l.getD k g6).items.length:=(by omega);have hitem:oB u c l k (l.getD k g6) i:=iW (by omega) (by omega) (by simp_all) t78 t151;refine c88z ?_;refine c131z ?_;refine c178z ?_;refine .rz ?_;exact ⟨_,by omega,.v ⟨(i+1),⟨rfl,⟨fun d hd=>if e:d=i then e▸hitem else hI d (by omega),by omega⟩⟩,rfl⟩ (he:=t33)⟩
    try simp only[e9]
    have qe9:=fact e9;refine .k 6 [(8,83)] ?_;refine .spl 89 rfl rfl (fun e12=>?_) (fun e12=>?_)
    ·try simp only[e12]
     have qe12:=fact e12;refine .n [(14,89)] ?_;refine c46z ?_;exact .ret (.ex (hq:=t57))
    try simp only[e12]
    have qe12:=fact e12;refine c45z ?_;refine .n [(14,89)] ?_;refine u2z ?_ ?_
    ·intro e13 qe13;refine c4z ?_;exact .ret (.ex (hq:=t57))
    intro e13 qe13;refine c182z ?_;have hl1:¬(i+1=(l.getD k g6).items.length):=(by omega);have hitem:oB u c l k (l.getD k g6) i:=iW (by omega) (by omega) (by simp_all) t78 t151;refine c88z ?_;refine c131z ?_;refine c178z ?_;refine .rz ?_;exact ⟨_,by omega,.v ⟨(i+1),⟨rfl,⟨fun d hd=>if e:d=i then e▸hitem else hI d (by omega),by omega⟩⟩,rfl⟩ (he:=t33)⟩
   intro e5 qe5;refine c10z ?_;refine c4z ?_;exact .ret (.ex (hq:=t153))
  try simp only[e3]
  have qe3:=fact e3;refine .m [(12,28),(16,32)] ?_;refine c14z ?_;refine .c7 [1,2,5] ?_;have w:WIt u (c.insts.getD (l.getD k g6).inst.toNat c9):=wc.wi _ (j7 (by omega));have w1:=w.lo;have w2:=w.hi;have hsz:(g5 u (c.insts.getD (l.getD k g6).inst.toNat c9)).length≤1664:=aI hu w;have hwr:=wc.cll (l.getD k g6).inst.toNat (by omega);refine c17z ?_;refine .ca rfl rfl (O5 hu wc (by omega) (by omega)) ?_;refine .n ?_;refine c7z ?_;refine g7.wT (t:=7) (γ:=h.length+2) (len:=1) (e:=3) (K:=1) (g:=0) (zs:=l5 [0]) t30 rfl (by omega) (oR _) (rB (by decide) rfl) ?_;rw[cM];simp only[n7,List.set_cons_succ,List.set_cons_zero];generalize iC _ _ _ _ _=Vb;refine .aW (fun m st=>∃(i:Nat),(m=(l.getD k g6).items.length-i∧((∀d,d<i→oB u c l k (l.getD k g6) d)∧i≤(l.getD k g6).items.length))∧st=⟨mkS 110 [(1,AV.int .i64 ((k:Nat):Int)),(2,AV.ptr h.length 0 0),(5,AV.ptr (h.length+1) 0 0),(6,AV.vec (g5 u (c.insts.getD (l.getD k g6).inst.toNat c9)).length (r8 (g5 u (c.insts.getD (l.getD k g6).inst.toNat c9)))),(7,AV.vec (xH u c (l.getD k g6) i).length (l5 (xH u c (l.getD k g6) i))),(45,AV.vec (l.getD k g6).items.length (j0 (l.getD k g6).items)),(46,AV.int .i64 (((l.getD k g6).items.length:Nat):Int)),(47,AV.int .i64 ((i:Nat):Int))],h++[⟨0,false,84,8,[.vec u.globals.length (l5 u.globals),.vec u.c5.length (j6 u.c5),.vec u.procs.length (n8 u.procs),.int .i64 u.main,.vec c.insts.length (p6 c.insts),.vec c.calls.length (s6 c.calls),.vec c.roots.length (l5 c.roots),.vec l.length (g8 l)],0⟩,⟨0,false,53,3,[.int .i64 (l.getD k g6).inst,.bool (l.getD k g6).op',.vec (l.getD k g6).items.length (j0 (l.getD k g6).items)],0⟩,Vb]⟩) (.v ⟨0,⟨rfl,⟨t106,by omega⟩⟩,rfl⟩) ?_ (he:=by rfl);rintro m sl h' ⟨i,⟨hm,⟨hI,hi⟩⟩,hst⟩;obtain ⟨rfl,rfl⟩:=St.mk.inj hst;clear hst;have hwy:=A5 (u:=u) (c:=c) (r:=(l.getD k g6)) (i:=i);refine c20z ?_;refine u2z ?_ ?_
  ·intro e14 qe14;refine c9z ?_;refine c135z ?_;refine .c7 [1,2,5,6,7,9,10,45,46,47] ?_;refine c28z ?_;refine .spl 61 rfl rfl (fun e15=>?_) (fun e15=>?_)
   ·try simp only[e15]
    have qe15:=fact e15;refine .k 8 [(3,61),(10,68)] ?_;refine .m [(10,68)] ?_;refine c46z ?_;exact .ret (.ex (hq:=t47))
   try simp only[e15]
   have qe15:=fact e15;refine .k 7 [(3,61)] ?_;refine .spl 68 rfl rfl (fun e16=>?_) (fun e16=>?_)
   ·try simp only[e16]
    have qe16:=fact e16;refine .m [(10,68)] ?_;refine c46z ?_;exact .ret (.ex (hq:=t47))
   try simp only[e16]
   have qe16:=fact e16;refine .k 3 [(10,68)] ?_;refine .ca rfl rfl (TO (xH u c (l.getD k g6) i) (by omega)) ?_;refine .m [(10,68)] ?_;refine u2z ?_ ?_
   ·intro e17 qe17;refine c4z ?_;exact .ret (.ex (hq:=t47))
   intro e17 qe17;refine c100z ?_;refine .c7 [1,2,5,6,9,10,45,46,47] ?_;refine .ss u9 (mkP 22 [0,0,2,7,15,31,63,0,128,384,896,1920,3968,8191,16383,32767,32767,32767,32767,524287,1048575,2097151] []) ?_;refine .k 8 [] ?_;refine .k 1 [] ?_;refine .spl 83 rfl rfl (fun e18=>?_) (fun e18=>?_)
   ·try simp only[e18]
    have qe18:=fact e18;refine .k 6 [(8,83)] ?_;refine .spl 89 rfl rfl (fun e19=>?_) (fun e19=>?_)
    ·try simp only[e19]
     have qe19:=fact e19;refine .n [(14,89)] ?_;refine c46z ?_;exact .ret (.ex (hq:=t58))
    try simp only[e19]
    have qe19:=fact e19;refine c45z ?_;refine .n [(14,89)] ?_;refine u2z ?_ ?_
    ·intro e20 qe20;refine c4z ?_;exact .ret (.ex (hq:=t58))
    intro e20 qe20;refine c182z ?_;have hl1:i+1=(l.getD k g6).items.length:=(by omega);have hitem:oB u c l k (l.getD k g6) i:=iW (by omega) (by omega) (by simp_all) t78 t151;refine c88z ?_;refine c131z ?_;refine c178z ?_;refine .rz ?_;exact ⟨_,by omega,.v ⟨(i+1),⟨rfl,⟨fun d hd=>if e:d=i then e▸hitem else hI d (by omega),by omega⟩⟩,rfl⟩ (he:=t33)⟩
   try simp only[e18]
   have qe18:=fact e18;refine .k 6 [(8,83)] ?_;refine .spl 89 rfl rfl (fun e21=>?_) (fun e21=>?_)
   ·try simp only[e21]
    have qe21:=fact e21;refine .n [(14,89)] ?_;refine c46z ?_;exact .ret (.ex (hq:=t57))
   try simp only[e21]
   have qe21:=fact e21;refine c45z ?_;refine .n [(14,89)] ?_;refine u2z ?_ ?_
   ·intro e22 qe22;refine c4z ?_;exact .ret (.ex (hq:=t57))
   intro e22 qe22;refine c182z ?_;have hl1:¬(i+1=(l.getD k g6).items.length):=(by omega);have hitem:oB u c l k (l.getD k g6) i:=iW (by omega) (by omega) (by simp_all) t78 t151;refine c88z ?_;refine c131z ?_;refine c178z ?_;refine .rz ?_;exact ⟨_,by omega,.v ⟨(i+1),⟨rfl,⟨fun d hd=>if e:d=i then e▸hitem else hI d (by omega),by omega⟩⟩,rfl⟩ (he:=t33)⟩
  intro e14 qe14;refine c10z ?_;refine c4z ?_;exact .ret (.ex (hq:=t153))
theorem TW (a b:Ef):z8 (h++[b0,b1,b2,⟨0,false,63,3,[.int .i64 a.lo,.int .i64 a.hi,.int .i64 a.net],0⟩]) (h++[b0,b1,b2,⟨0,false,63,3,[.int .i64 b.lo,.int .i64 b.hi,.int .i64 b.net],0⟩]):=(z8.refl h).app rfl ⟨.inl rfl,.inl rfl,.inl rfl,.inr (dK.get ⟨.int _ _,.int _ _,.int _ _,trivial⟩),trivial⟩
theorem c_effOf (hu:WU u)(wc:WC u c)(hk:k<l.length)(hl:l.length<1000000)(hit:∀r∈l,r.items.length<1000000)(hr:aU u c l k)(hbl:bf.length=k)(hbs:∀e∈bf,smE e)(mt:Int):CB 33 [.agg [.vec u.globals.length (l5 u.globals),.vec u.c5.length (j6 u.c5),.vec u.procs.length (n8 u.procs),.int .i64 u.main,.vec c.insts.length (p6 c.insts),.vec c.calls.length (s6 c.calls),.vec c.roots.length (l5 c.roots),.vec l.length (g8 l)],.int .i64 ((k:Nat):Int),.int .i64 mt,.vec bf.length (y0 bf)] h (.agg [.int .i64 (dY u c mt bf (l.getD k g6) (l.getD k g6).items.length).lo,.int .i64 (dY u c mt bf (l.getD k g6) (l.getD k g6).items.length).hi,.int .i64 (dY u c mt bf (l.getD k g6) (l.getD k g6).items.length).net]):=by
  refine .bz Tryz.f33 54 ?_;have hml:=hu.ml;have hwl:=wc.len;have hwc:=wc.cl;have hri:(l.getD k g6).items.length<1000000:=hit _ (j7 hk);have hi0:=hr.i0;have hi1:=hr.i1;have w:WIt u (c.insts.getD (l.getD k g6).inst.toNat c9):=wc.wi _ (j7 (by omega));have w1:=w.lo;have w2:=w.hi;have hsz:(g5 u (c.insts.getD (l.getD k g6).inst.toNat c9)).length≤1664:=aI hu w;have hwr:=wc.cll (l.getD k g6).inst.toNat (by omega);refine c61z ?_;refine .e 8 ?_;refine c44z ?_;refine .c7 [2,3,4,8,9,10] ?_;refine c29z ?_;refine .aW (fun m st=>∃(j:Nat),(m=(l.getD k g6).items.length-j∧(j≤(l.getD k g6).items.length))∧st=⟨mkS 54 [(2,AV.int .i64 mt),(3,AV.vec bf.length (y0 bf)),(4,AV.ptr h.length 0 0),(8,AV.ptr (h.length+1) 0 0),(9,AV.ptr (h.length+2) 0 0),(10,AV.ptr (h.length+3) 0 0),(21,AV.vec (l.getD k g6).items.length (j0 (l.getD k g6).items)),(22,AV.int .i64 (((l.getD k g6).items.length:Nat):Int)),(23,AV.int .i64 ((j:Nat):Int))],h++[⟨0,false,84,8,[.vec u.globals.length (l5 u.globals),.vec u.c5.length (j6 u.c5),.vec u.procs.length (n8 u.procs),.int .i64 u.main,.vec c.insts.length (p6 c.insts),.vec c.calls.length (s6 c.calls),.vec c.roots.length (l5 c.roots),.vec l.length (g8 l)],0⟩,⟨0,false,63,3,[.int .i64 0,.int .i64 0,.int .i64 0],0⟩,⟨0,false,53,3,[.int .i64 (l.getD k g6).inst,.bool (l.getD k g6).op',.vec (l.getD k g6).items.length (j0 (l.getD k g6).items)],0⟩,⟨0,false,63,3,[.int .i64 (dY u c mt bf (l.getD k g6) j).lo,.int .i64 (dY u c mt bf (l.getD k g6) j).hi,.int .i64 (dY u c mt bf (l.getD k g6) j).net],0⟩]⟩) (.v ⟨0,⟨rfl,by omega⟩,rfl⟩) ?_ (he:=by rfl);rintro m sl h' ⟨j,⟨hm,hj⟩,hst⟩;obtain ⟨rfl,rfl⟩:=St.mk.inj hst;clear hst;refine c20z ?_;refine u2z ?_ ?_
  ·intro e1 qe1;refine c9z ?_;have ic:=TV hr (i:=j) (by omega);have ic0:=ic.1;have ic1:=ic.2.1;have ic2:=ic.2.2;have own:=IL (u:=u) (c:=c) (m:=mt) (r:=(l.getD k g6)) (x:=((l.getD k g6).items.getD j (0,0))) hbs (by omega);refine .z ?_;refine .sg u9 (mkH 16 [0,1,0,4,12,0,32,124,252,0,512,0,4095,8191,0,32767] [14,15] [] [0,16384,49152] [0,1,2,3,4,5,6,7,8,9,10,11,12,13]) 0 ?_;refine c139z ?_;refine c81z ?_;refine c24z ?_;refine c24z ?_;refine .p 1 ?_;refine .cl rfl rfl (fun _=>IJ hu w ic.1 ic.2.1 mt) ?_;refine .cl rfl rfl (fun _=>c_of _ t128 t128) ?_;refine c170z ?_;refine c21z ?_;refine c233z ?_;refine .seq ?_;refine .c7 [2,3,4,8,9,10,12,13,21,22,23] ?_;refine .z ?_;refine u2z ?_ ?_
   ·intro e2 qe2;refine c2z ?_;refine .c7 [2,3,4,8,9,10,13,21,22,23] ?_;refine .r ?_;refine .e 2 ?_;refine .ca rfl rfl (IE (dY u c mt bf (l.getD k g6) j) (bf.getD ((l.getD k g6).items.getD j (0,0)).2.toNat mG) (nX (by omega)) (by rw[←Ae (u:=u) (c:=c) (m:=mt) (r:=(l.getD k g6)) (by omega)];exact own)) ?_;refine c30z ?_;refine .rz ?_;exact ⟨_,by omega,.v ⟨(j+1),⟨rfl,by omega⟩,rfl⟩ (he:=t173) (hk:=by exact TW _ _)⟩
   intro e2 qe2;refine .sk ?_;refine .r ?_;refine .e 2 ?_;refine .ca rfl rfl (IE (dY u c mt bf (l.getD k g6) j) (ofE (chI (c.insts.getD (l.getD k g6).inst.toNat c9) ((g5 u (c.insts.getD (l.getD k g6).inst.toNat c9)).getD ((l.getD k g6).items.getD j (0,0)).1.toNat j4) mt)) (nX (by omega)) (by rw[←Ad (bf:=bf) (by omega)];exact own)) ?_;refine c30z ?_;refine .c7 [2,3,4,8,9,10,21,22,23] ?_;refine .rz ?_;exact ⟨_,by omega,.v ⟨(j+1),⟨rfl,by omega⟩,rfl⟩ (he:=t174) (hk:=by exact TW _ _)⟩
  intro e1 qe1;refine c10z ?_;refine .c7 [8,10] ?_;refine .z ?_;exact .ret (.ex (hq:=t230))
theorem QJ (hu:WU u)(wc:WC u c)(hk:k<l.length)(hl:l.length<1000000)(hit:∀r∈l,r.items.length<1000000)(hr:aU u c l k)(hbl:bf.length=k)(hbs:∀e∈bf,smE e)(mt:Int)(hβ:H[β]?=some (p8 63 3 g (y0 bf))):CB 33 [.agg [.vec u.globals.length (l5 u.globals),.vec u.c5.length (j6 u.c5),.vec u.procs.length (n8 u.procs),.int .i64 u.main,.vec c.insts.length (p6 c.insts),.vec c.calls.length (s6 c.calls),.vec c.roots.length (l5 c.roots),.vec l.length (g8 l)],.int .i64 ((k:Nat):Int),.int .i64 mt,.own β g 0 k] H (.agg [.int .i64 (dY u c mt bf (l.getD k g6) (l.getD k g6).items.length).lo,.int .i64 (dY u c mt bf (l.getD k g6) (l.getD k g6).items.length).hi,.int .i64 (dY u c mt bf (l.getD k g6) (l.getD k g6).items.length).net]):=by subst hbl;exact l6.borrowR (Rel.ints (fun x hx=>by replace hx:=s6z hx;rcases hx with rfl | rfl | rfl<;>exact ⟨_,rfl⟩)) (args':=[.agg [.vec u.globals.length (l5 u.globals),.vec u.c5.length (j6 u.c5),.vec u.procs.length (n8 u.procs),.int .i64 u.main,.vec c.insts.length (p6 c.insts),.vec c.calls.length (s6 c.calls),.vec c.roots.length (l5 c.roots),.vec l.length (g8 l)],.int .i64 ((bf.length:Nat):Int),.int .i64 mt,.vec bf.length (y0 bf)]) (args:=[.agg [.vec u.globals.length (l5 u.globals),.vec u.c5.length (j6 u.c5),.vec u.procs.length (n8 u.procs),.int .i64 u.main,.vec c.insts.length (p6 c.insts),.vec c.calls.length (s6 c.calls),.vec c.roots.length (l5 c.roots),.vec l.length (g8 l)],.int .i64 ((bf.length:Nat):Int),.int .i64 mt,.own β g 0 bf.length]) ⟨.inr rfl,.inr rfl,.inr rfl,.inr (frz_efS hβ rfl),trivial⟩ ((c_effOf hu wc hk hl hit hr rfl hbs mt).mono fun y k hq=>hq.1)
theorem keep_g (g1 g2:Nat)(a b:List Ef):z8 (h++[b0,b1,b2,b3,p8 63 3 g1 (y0 a)]) (h++[b0,b1,b2,b3,p8 63 3 g2 (y0 b)]):=(z8.refl h).app rfl ⟨.inl rfl,.inl rfl,.inl rfl,.inl rfl,.inr (by rw[o9];exact (A4 _).refs _),trivial⟩
theorem H3 (hu:WU u)(wc:WC u c)(hl:l.length<1000000)(hit:∀r∈l,r.items.length<1000000){xi xp xd:Int}:CB 10 [.agg [.vec u.globals.length (l5 u.globals),.vec u.c5.length (j6 u.c5),.vec u.procs.length (n8 u.procs),.int .i64 u.main],.agg [.vec c.insts.length (p6 c.insts),.vec c.calls.length (s6 c.calls),.vec c.roots.length (l5 c.roots)],.agg [.int .i64 lock,.int .i64 xi,.int .i64 xp,.int .i64 xd,.vec l.length (g8 l)]] h (.tup [.vec (J0 u c lock l).1.length (y0 (J0 u c lock l).1),.int .i64 (J0 u c lock l).2.1,.int .i64 (J0 u c lock l).2.2]):=by
  refine .bz Tryz.f10 52 ?_;have hml:=hu.ml;have hwl:=wc.len;refine c20z ?_;refine c28z ?_;refine .spl 15 rfl rfl (fun e1=>?_) (fun e1=>?_)
  ·try simp only[e1]
   have qe1:=fact e1;refine .m [(3,15)] ?_;refine c46z ?_;exact .ret (.ex (hf:=t102) (hq:=t210))
  try simp only[e1]
  have qe1:=fact e1;refine .m [(3,15)] ?_;refine u2z ?_ ?_
  ·intro e2 qe2;refine c4z ?_;exact .ret (.ex (hf:=t102) (hq:=t210))
  intro e2 qe2;refine .sk ?_;refine .c7 [3,4,5] ?_;refine c98z ?_;refine g7.yU 10 rfl ?_;refine .aW (fun m st=>∃(k:Nat),(m=l.length-k∧((∀d,d<k→aU u c l d)∧k≤l.length))∧st=⟨mkS 52 [(5,AV.ptr (h.length+2) 0 0),(9,AV.ptr (h.length+3) 0 0),(10,AV.own (h.length+4) k 0 k),(30,AV.int .i64 ((l.length:Nat):Int)),(31,AV.int .i64 ((k:Nat):Int))],h++[⟨0,false,30,4,[.vec u.globals.length (l5 u.globals),.vec u.c5.length (j6 u.c5),.vec u.procs.length (n8 u.procs),.int .i64 u.main],0⟩,⟨0,false,34,3,[.vec c.insts.length (p6 c.insts),.vec c.calls.length (s6 c.calls),.vec c.roots.length (l5 c.roots)],0⟩,⟨0,false,39,5,[.int .i64 lock,.int .i64 xi,.int .i64 xp,.int .i64 xd,.vec l.length (g8 l)],0⟩,⟨0,false,84,8,[.vec u.globals.length (l5 u.globals),.vec u.c5.length (j6 u.c5),.vec u.procs.length (n8 u.procs),.int .i64 u.main,.vec c.insts.length (p6 c.insts),.vec c.calls.length (s6 c.calls),.vec c.roots.length (l5 c.roots),.vec l.length (g8 l)],0⟩,p8 63 3 k (y0 (jL u c lock l k))]⟩) (.v ⟨0,⟨rfl,⟨t106,by omega⟩⟩,rfl⟩ (hs:=t61)) ?_;rintro m sl h' ⟨k,⟨hm,⟨hA,hk0⟩⟩,hst⟩;obtain ⟨rfl,rfl⟩:=St.mk.inj hst;clear hst;have hel:=dJ (u:=u) (c:=c) (m:=lock) (l:=l) (k:=k);refine c20z ?_;refine u2z ?_ ?_
  ·intro e3 qe3;refine c9z ?_;refine c20z ?_;refine c39z ?_;refine .ca rfl rfl (c_right hu wc (by omega) hl hit) ?_;refine .n ?_;refine u2z ?_ ?_
   ·intro e4 qe4;refine .c7 [11] ?_;refine .z ?_;exact .ret (.ex (hf:=t102) (hq:=t191))
   intro e4 qe4;refine .sk ?_;have hR:aU u c l k:=jV.1 (by simp_all);refine .r ?_;refine .e 6 ?_;refine .ca rfl rfl (QJ hu wc (by omega) hl hit hR (dJ) (fun e he=>O3 e he) lock t30) ?_;refine c30z ?_;refine .c7 [5,9,10,30,31] ?_;refine .rz ?_;exact ⟨_,by omega,.v ⟨(k+1),⟨rfl,⟨fun d hd=>if e:d=k then e▸hR else hA d (by omega),by omega⟩⟩,rfl⟩ (he:=t126) (hk:=by exact keep_g _ _ _ _) (hs:=t61)⟩
  intro e3 qe3;refine c10z ?_;refine .z ?_;exact .ret (.ex (hf:=t102) (hq:=t192))
theorem QK (hu:WU u)(wc:WC u c)(hk:k<l.length)(hl:l.length<1000000)(hit:∀r∈l,r.items.length<1000000):CB 34 [.agg [.vec u.globals.length (l5 u.globals),.vec u.c5.length (j6 u.c5),.vec u.procs.length (n8 u.procs),.int .i64 u.main],.agg [.vec c.insts.length (p6 c.insts),.vec c.calls.length (s6 c.calls),.vec c.roots.length (l5 c.roots)],.vec l.length (g8 l),.int .i64 ((k:Nat):Int)] h (.bool (qI u c l k)):=by
  refine .bz Tryz.f34 166 ?_;have hml:=hu.ml;have hwl:=wc.len;have hwc:=wc.cl;have hri:(l.getD k g6).items.length<1000000:=hit _ (j7 hk);refine c135z ?_;refine c28z ?_;refine .spl 23 rfl rfl (fun e1=>?_) (fun e1=>?_)
  ·try simp only[e1]
   have qe1:=fact e1;refine .m [(3,23)] ?_;refine c46z ?_;exact .ret (.ex (hq:=t193))
  try simp only[e1]
  have qe1:=fact e1;refine .m [(3,23)] ?_;refine u2z ?_ ?_
  ·intro e2 qe2;refine c4z ?_;exact .ret (.ex (hq:=t193))
  intro e2 qe2;refine .sk ?_;refine .c7 [2,3,4,5,9] ?_;have w:WIt u (c.insts.getD (l.getD k g6).inst.toNat c9):=wc.wi _ (j7 (by omega));have w1:=w.lo;have w2:=w.hi;have hsz:(g5 u (c.insts.getD (l.getD k g6).inst.toNat c9)).length≤1664:=aI hu w;have hwr:=wc.cll (l.getD k g6).inst.toNat (by omega);refine .ss u9 (mkP 13 [0,1,0,4,0,16,60,124,252,511,1023,2047,4095] []) ?_;refine c159z ?_;refine .c7 [2,3,4,5,9,10] ?_;refine c26z ?_;refine g7.wT (t:=11) (γ:=h.length+3) (len:=1) (e:=3) (K:=1) (g:=0) (zs:=l5 [0]) t30 rfl (by omega) (oR _) (rB (by decide) rfl) ?_;rw[cM];simp only[n7,List.set_cons_succ,List.set_cons_zero];generalize iC _ _ _ _ _=Vb;refine .aW (fun m st=>∃(i:Nat),(m=(l.getD k g6).items.length-i∧((∀d,d<i→oB u c l k (l.getD k g6) d)∧i≤(l.getD k g6).items.length))∧st=⟨mkS 166 [(2,AV.vec l.length (g8 l)),(3,AV.int .i64 ((k:Nat):Int)),(4,AV.ptr h.length 0 0),(5,AV.ptr (h.length+1) 0 0),(9,AV.ptr (h.length+2) 0 0),(10,AV.vec (g5 u (c.insts.getD (l.getD k g6).inst.toNat c9)).length (r8 (g5 u (c.insts.getD (l.getD k g6).inst.toNat c9)))),(11,AV.vec (xH u c (l.getD k g6) i).length (l5 (xH u c (l.getD k g6) i))),(12,AV.int .i64 ((i:Nat):Int))],h++[⟨0,false,30,4,[.vec u.globals.length (l5 u.globals),.vec u.c5.length (j6 u.c5),.vec u.procs.length (n8 u.procs),.int .i64 u.main],0⟩,⟨0,false,34,3,[.vec c.insts.length (p6 c.insts),.vec c.calls.length (s6 c.calls),.vec c.roots.length (l5 c.roots)],0⟩,⟨0,false,53,3,[.int .i64 (l.getD k g6).inst,.bool (l.getD k g6).op',.vec (l.getD k g6).items.length (j0 (l.getD k g6).items)],0⟩,Vb]⟩) (.v ⟨0,⟨rfl,⟨t106,by omega⟩⟩,rfl⟩) ?_ (he:=by rfl);rintro m sl h' ⟨i,⟨hm,⟨hI,hi⟩⟩,hst⟩;obtain ⟨rfl,rfl⟩:=St.mk.inj hst;clear hst;have hwy:=A5 (u:=u) (c:=c) (r:=(l.getD k g6)) (i:=i);refine c1z ?_;refine u2z ?_ ?_
  ·intro e3 qe3;refine c9z ?_;refine .sg u9 (mkH 14 [0,1,0,7,15,0,0,64,192,448,992,0,2079,8191] [11,12] [] [0,2048,6144] [0,1,2,3,4,5,6,7,8,9,10]) 0 ?_;refine c139z ?_;refine .rm [true] ?_;refine .p 2 ?_;refine c149z ?_;refine c180z ?_;refine .p 1 ?_;refine .po [true,true,true] ?_;refine c138z ?_;refine .seq ?_;refine .c7 [2,3,4,5,9,10,11,12,13,14] ?_;refine c28z ?_;refine .spl 65 rfl rfl (fun e4=>?_) (fun e4=>?_)
   ·try simp only[e4]
    have qe4:=fact e4;refine .k 8 [(3,65),(10,72)] ?_;refine .m [(10,72)] ?_;refine c46z ?_;exact .ret (.ex (hq:=t47))
   try simp only[e4]
   have qe4:=fact e4;refine .k 7 [(3,65)] ?_;refine .spl 72 rfl rfl (fun e5=>?_) (fun e5=>?_)
   ·try simp only[e5]
    have qe5:=fact e5;refine .m [(10,72)] ?_;refine c46z ?_;exact .ret (.ex (hq:=t47))
   try simp only[e5]
   have qe5:=fact e5;refine .k 3 [(10,72)] ?_;refine .ca rfl rfl (c_in (xH u c (l.getD k g6) i) (by omega)) ?_;refine .m [(10,72)] ?_;refine u2z ?_ ?_
   ·intro e6 qe6;refine c4z ?_;exact .ret (.ex (hq:=t47))
   intro e6 qe6;refine .sk ?_;refine .c7 [2,3,4,5,9,10,12,13,14] ?_;refine c267z ?_;refine .spl 88 rfl rfl (fun e7=>?_) (fun e7=>?_)
   ·try simp only[e7]
    have qe7:=fact e7;refine .m [(2,88)] ?_;refine u2z ?_ ?_
    ·intro e8 qe8;refine c4z ?_;exact .ret (.ex (hq:=by (refine congrArg AV.bool (fW (fun hh=>?_)).symm;have a:=qO hh (i:=i) (by omega);have hl1:i+1=(l.getD k g6).items.length:=(by omega);unfold KI at a;simp only[hl1,decide_true,decide_false]at a<;>simp_all)))
    intro e8 qe8;refine c100z ?_;refine .c7 [2,3,4,5,9,10,12,13,14] ?_;refine .z ?_;refine u2z ?_ ?_
    ·intro e9 qe9;have hop:=W9 hu w (pc:=((l.getD k g6).items.getD i (0,0)).1.toNat) (by omega);refine .sg u9 (mkH 44 [0,1,3,7,15,31,15,127,255,511,1023,1023,3071,8191,16383,32767,1023,66559,1023,263167,984063,2032639,1023,4195327,16712703,33489919,67108863,134217727,268435455,536870911,536870911,1610612735,4294967295,8589934591,17179869183,34359738367,68719476735,137438953471,274877906943,549755813887,1099511627775,2199023255551,4398046511103,8796093022207] [] [] [0] []) 0 ?_;refine .p 1 ?_;refine c62z ?_;refine .split 104 rfl (fun e10=>?_) (fun e10=>?_)
     ·try simp only[e10]
      have qe10:=fact e10;refine c132z ?_;refine c132z ?_;refine c132z ?_;refine .p 4 ?_;refine c156z ?_;exact .ret (.ex (hq:=t23))
     try simp only[e10]
     have qe10:=fact e10;refine .p 1 ?_;refine c136z ?_;refine .split 110 rfl (fun e11=>?_) (fun e11=>?_)
     ·try simp only[e11]
      have qe11:=fact e11;refine c132z ?_;refine c132z ?_;refine .p 6 ?_;refine .p 4 ?_;refine c156z ?_;exact .ret (.ex (hq:=t23))
     try simp only[e11]
     have qe11:=fact e11;refine .p 2 ?_;refine c200z ?_;refine c203z ?_;refine c203z ?_;refine c63z ?_;refine .split 129 rfl (fun e12=>?_) (fun e12=>?_)
     ·try simp only[e12]
      have qe12:=fact e12;refine c132z ?_;refine .p 3 ?_;refine c156z ?_;exact .ret (.ex (hq:=t23))
     try simp only[e12]
     have qe12:=fact e12;refine .p 2 ?_;refine c200z ?_;refine .split 136 rfl (fun e13=>?_) (fun e13=>?_)
     ·try simp only[e13]
      have qe13:=fact e13;refine .p 3 ?_;refine c136z ?_;refine z4.nil rfl ?_;refine u2z ?_ ?_
      ·intro e14 qe14;refine c4z ?_;exact .ret (.ex (hq:=t23))
      intro e14 qe14;refine .sk ?_;refine .c7 [2,3,4,5,9,10,12,13] ?_;have hl1:i+1=(l.getD k g6).items.length:=(by omega);have p5:(ptX u c ((l.getD k g6).inst,((l.getD k g6).items.getD i (0,0)).1))=((g5 u (c.insts.getD (l.getD k g6).inst.toNat c9)).getD ((l.getD k g6).items.getD i (0,0)).1.toNat j4):=rfl;have hci:rT u c l k (l.getD k g6) ((l.getD k g6).items.getD i (0,0)) (decide (i+1=(l.getD k g6).items.length))=true:=mA.2 t124;have hitem:oB u c l k (l.getD k g6) i:=iW (by omega) (by omega) (by simp_all) t78 hci;refine c69z ?_;refine c97z ?_;refine c137z ?_;refine .rz ?_;exact ⟨_,by omega,.v ⟨(i+1),⟨rfl,⟨fun d hd=>if e:d=i then e▸hitem else hI d (by omega),by omega⟩⟩,rfl⟩ (he:=t33)⟩
     try simp only[e13]
     have qe13:=fact e13;refine .p 6 ?_;refine .p 2 ?_;refine z4.nil rfl ?_;refine c14z ?_;refine .c7 [2,3,4,5,9,10,12,13] ?_;have hl1:i+1=(l.getD k g6).items.length:=(by omega);have p5:(ptX u c ((l.getD k g6).inst,((l.getD k g6).items.getD i (0,0)).1))=((g5 u (c.insts.getD (l.getD k g6).inst.toNat c9)).getD ((l.getD k g6).items.getD i (0,0)).1.toNat j4):=rfl;have hci:rT u c l k (l.getD k g6) ((l.getD k g6).items.getD i (0,0)) (decide (i+1=(l.getD k g6).items.length))=true:=mA.2 t124;have hitem:oB u c l k (l.getD k g6) i:=iW (by omega) (by omega) (by simp_all) t78 hci;refine c69z ?_;refine c97z ?_;refine c137z ?_;refine .rz ?_;exact ⟨_,by omega,.v ⟨(i+1),⟨rfl,⟨fun d hd=>if e:d=i then e▸hitem else hI d (by omega),by omega⟩⟩,rfl⟩ (he:=t33)⟩
    intro e9 qe9;refine .c7 [2,3,4,5,9,10,12,13] ?_;refine .z ?_;refine u2z ?_ ?_
    ·intro e15 qe15;refine c4z ?_;exact .ret (.ex (hq:=t23))
    intro e15 qe15;refine .sk ?_;have hl1:i+1=(l.getD k g6).items.length:=(by omega);have p5:(ptX u c ((l.getD k g6).inst,((l.getD k g6).items.getD i (0,0)).1))=((g5 u (c.insts.getD (l.getD k g6).inst.toNat c9)).getD ((l.getD k g6).items.getD i (0,0)).1.toNat j4):=rfl;have hci:rT u c l k (l.getD k g6) ((l.getD k g6).items.getD i (0,0)) (decide (i+1=(l.getD k g6).items.length))=true:=mA.2 t204;have hitem:oB u c l k (l.getD k g6) i:=iW (by omega) (by omega) (by simp_all) t78 hci;refine c69z ?_;refine c97z ?_;refine c137z ?_;refine .rz ?_;exact ⟨_,by omega,.v ⟨(i+1),⟨rfl,⟨fun d hd=>if e:d=i then e▸hitem else hI d (by omega),by omega⟩⟩,rfl⟩ (he:=t33)⟩
   try simp only[e7]
   have qe7:=fact e7;refine .m [(2,88)] ?_;refine u2z ?_ ?_
   ·intro e16 qe16;refine c4z ?_;exact .ret (.ex (hq:=by (refine congrArg AV.bool (fW (fun hh=>?_)).symm;have a:=qO hh (i:=i) (by omega);have hl1:¬(i+1=(l.getD k g6).items.length):=(by omega);unfold KI at a;simp only[hl1,decide_true,decide_false]at a<;>simp_all)))
   intro e16 qe16;refine c100z ?_;refine .c7 [2,3,4,5,9,10,12,13,14] ?_;refine .z ?_;refine u2z ?_ ?_
   ·intro e17 qe17;have hop:=W9 hu w (pc:=((l.getD k g6).items.getD i (0,0)).1.toNat) (by omega);refine .sg u9 (mkH 44 [0,1,3,7,15,31,15,127,255,511,1023,1023,3071,8191,16383,32767,1023,66559,1023,263167,984063,2032639,1023,4195327,16712703,33489919,67108863,134217727,268435455,536870911,536870911,1610612735,4294967295,8589934591,17179869183,34359738367,68719476735,137438953471,274877906943,549755813887,1099511627775,2199023255551,4398046511103,8796093022207] [] [] [0] []) 0 ?_;refine .p 1 ?_;refine c62z ?_;refine .split 104 rfl (fun e18=>?_) (fun e18=>?_)
    ·try simp only[e18]
     have qe18:=fact e18;refine c132z ?_;refine c132z ?_;refine c132z ?_;refine .p 4 ?_;refine c156z ?_;exact .ret (.ex (hq:=t22))
    try simp only[e18]
    have qe18:=fact e18;refine .p 1 ?_;refine c136z ?_;refine .split 110 rfl (fun e19=>?_) (fun e19=>?_)
    ·try simp only[e19]
     have qe19:=fact e19;refine c132z ?_;refine c132z ?_;refine .p 6 ?_;refine .p 4 ?_;refine c156z ?_;exact .ret (.ex (hq:=t22))
    try simp only[e19]
    have qe19:=fact e19;refine .p 2 ?_;refine c200z ?_;refine c203z ?_;refine c203z ?_;refine c63z ?_;refine .split 129 rfl (fun e20=>?_) (fun e20=>?_)
    ·try simp only[e20]
     have qe20:=fact e20;refine c132z ?_;refine .p 3 ?_;refine c156z ?_;exact .ret (.ex (hq:=t22))
    try simp only[e20]
    have qe20:=fact e20;refine .p 2 ?_;refine c200z ?_;refine .split 136 rfl (fun e21=>?_) (fun e21=>?_)
    ·try simp only[e21]
     have qe21:=fact e21;refine .p 6 ?_;refine .p 2 ?_;refine c156z ?_;exact .ret (.ex (hq:=t22))
    try simp only[e21]
    have qe21:=fact e21;refine .p 6 ?_;refine .p 2 ?_;refine z4.nil rfl ?_;refine c14z ?_;refine .c7 [2,3,4,5,9,10,12,13] ?_;have hl1:¬(i+1=(l.getD k g6).items.length):=(by omega);have p5:(ptX u c ((l.getD k g6).inst,((l.getD k g6).items.getD i (0,0)).1))=((g5 u (c.insts.getD (l.getD k g6).inst.toNat c9)).getD ((l.getD k g6).items.getD i (0,0)).1.toNat j4):=rfl;have hci:rT u c l k (l.getD k g6) ((l.getD k g6).items.getD i (0,0)) (decide (i+1=(l.getD k g6).items.length))=true:=mA.2 t124;have hitem:oB u c l k (l.getD k g6) i:=iW (by omega) (by omega) (by simp_all) t78 hci;refine c69z ?_;refine c97z ?_;refine c137z ?_;refine .rz ?_;exact ⟨_,by omega,.v ⟨(i+1),⟨rfl,⟨fun d hd=>if e:d=i then e▸hitem else hI d (by omega),by omega⟩⟩,rfl⟩ (he:=t33)⟩
   intro e17 qe17;refine .c7 [2,3,4,5,9,10,12,13] ?_;refine .z ?_;refine u2z ?_ ?_
   ·intro e22 qe22;refine c4z ?_;exact .ret (.ex (hq:=t22))
   intro e22 qe22;refine .sk ?_;have hl1:¬(i+1=(l.getD k g6).items.length):=(by omega);have p5:(ptX u c ((l.getD k g6).inst,((l.getD k g6).items.getD i (0,0)).1))=((g5 u (c.insts.getD (l.getD k g6).inst.toNat c9)).getD ((l.getD k g6).items.getD i (0,0)).1.toNat j4):=rfl;have hci:rT u c l k (l.getD k g6) ((l.getD k g6).items.getD i (0,0)) (decide (i+1=(l.getD k g6).items.length))=true:=mA.2 t204;have hitem:oB u c l k (l.getD k g6) i:=iW (by omega) (by omega) (by simp_all) t78 hci;refine c69z ?_;refine c97z ?_;refine c137z ?_;refine .rz ?_;exact ⟨_,by omega,.v ⟨(i+1),⟨rfl,⟨fun d hd=>if e:d=i then e▸hitem else hI d (by omega),by omega⟩⟩,rfl⟩ (he:=t33)⟩
  intro e3 qe3;refine c10z ?_;refine .c7 [9] ?_;refine c17z ?_;refine .spl 160 rfl rfl (fun e23=>?_) (fun e23=>?_)
  ·try simp only[e23]
   have qe23:=fact e23;refine .m [(2,160)] ?_;exact .ret (.ex (hq:=by exact congrArg AV.bool (jV.2 ⟨by omega,by omega,fun d hd=>hI d (by omega),.inl (by assumption)⟩).symm))
  try simp only[e23]
  have qe23:=fact e23;refine .m [(2,160)] ?_;exact .ret (.ex (hq:=by exact congrArg AV.bool (if hlen:0<(l.getD k g6).items.length then (decide_eq_true (by omega)).trans (jV.2 ⟨by omega,by omega,fun d hd=>hI d (by omega),.inr hlen⟩).symm else (decide_eq_false (by omega)).trans (fW (fun hh=>by have h2:=hh.ne;simp_all)).symm)))
theorem app_ef3 {l:c8}{b4 b5:Blk}{e:Ef}(hn:f.length=n)(hl:n<1000000):j5 cfg 63 (h++(b0::b1::b2::p8 63 3 n (y0 f)::b4::b5::⟨0,false,63,3,[.int .i64 e.lo,.int .i64 e.hi,.int .i64 e.net],0⟩::l)) (.own (h.length+3) n 0 n) (.own (h.length+6) 0 0 1)=some (.own (h.length+3) (n+1) 0 (n+1),h++(b0::b1::b2::p8 63 3 (n+1) (y0 (f++[e]))::b4::b5::⟨0,false,63,3,[.int .i64 e.lo,.int .i64 e.hi,.int .i64 e.net],0⟩::l)):=by subst hn;rw[aC (C:=cfg) (K:=3) (m:=1) (new:=[.int .i64 e.lo,.int .i64 e.hi,.int .i64 e.net]) (zs:=y0 f) t30 rfl (by omega) (by rw[bB];omega) rfl (by omega) t205 rfl (by decide) (by omega),n7,show y0 f++[.int .i64 e.lo,.int .i64 e.hi,.int .i64 e.net]=y0 (f++[e]) from by simp[y0,PV]];rfl
theorem BV {e:Nat}(h:0<f.length):(p8 e 3 g (y0 f)).cL=false:=by
  cases f with
  | nil=>simp at h
  | cons x f=>rfl
theorem keep_g3 (g1 g2:Nat)(a b:List Ef):z8 (h++[b0,b1,b2,p8 63 3 g1 (y0 a)]) (h++[b0,b1,b2,p8 63 3 g2 (y0 b)]):=(z8.refl h).app rfl ⟨.inl rfl,.inl rfl,.inl rfl,.inr (by rw[o9];exact (A4 _).refs _),trivial⟩
theorem IM {b5:Blk}(a b:Ef):z8 (h++[b0,b1,b2,b3,⟨1,false,63,3,[.int .i64 a.lo,.int .i64 a.hi,.int .i64 a.net],0⟩,b5]) (h++[b0,b1,b2,b3,⟨1,false,63,3,[.int .i64 b.lo,.int .i64 b.hi,.int .i64 b.net],0⟩,b5]):=(z8.refl h).app rfl ⟨.inl rfl,.inl rfl,.inl rfl,.inl rfl,.inr (dK.get ⟨.int _ _,.int _ _,.int _ _,trivial⟩),.inl rfl,trivial⟩
attribute [local go_sem] app_ef3 BV tB o9
theorem BW (hu:WU u)(wc:WC u c)(hl:l.length<1000000)(hit:∀r∈l,r.items.length<1000000){xi xp xd:Int}:CB 11 [.agg [.vec u.globals.length (l5 u.globals),.vec u.c5.length (j6 u.c5),.vec u.procs.length (n8 u.procs),.int .i64 u.main],.agg [.vec c.insts.length (p6 c.insts),.vec c.calls.length (s6 c.calls),.vec c.roots.length (l5 c.roots)],.agg [.int .i64 lock,.int .i64 xi,.int .i64 xp,.int .i64 xd,.vec l.length (g8 l)]] h (.tup [.vec (J0 u c lock l).1.length (y0 (J0 u c lock l).1),.int .i64 (J0 u c lock l).2.1,.int .i64 (J0 u c lock l).2.2]):=by
  refine .bz Tryz.f11 97 ?_;have hml:=hu.ml;have hwl:=wc.len;have hwc:=wc.cl;refine c20z ?_;refine c28z ?_;refine .spl 17 rfl rfl (fun e1=>?_) (fun e1=>?_)
  ·try simp only[e1]
   have qe1:=fact e1;refine .m [(3,17)] ?_;refine c46z ?_;exact .ret (.ex (hf:=t102) (hq:=t210))
  try simp only[e1]
  have qe1:=fact e1;refine .m [(3,17)] ?_;refine u2z ?_ ?_
  ·intro e2 qe2;refine c4z ?_;exact .ret (.ex (hf:=t102) (hq:=t210))
  intro e2 qe2;refine .sk ?_;refine .c7 [3,4,5] ?_;refine c26z ?_;refine g7.yU 9 rfl ?_;refine .aW (fun m st=>∃(k:Nat),(m=l.length-k∧((∀d,d<k→aU u c l d)∧k≤l.length))∧st=⟨mkS 97 [(3,AV.ptr h.length 0 0),(4,AV.ptr (h.length+1) 0 0),(5,AV.ptr (h.length+2) 0 0),(9,AV.own (h.length+3) k 0 k),(10,AV.int .i64 ((k:Nat):Int))],h++[⟨0,false,30,4,[.vec u.globals.length (l5 u.globals),.vec u.c5.length (j6 u.c5),.vec u.procs.length (n8 u.procs),.int .i64 u.main],0⟩,⟨0,false,34,3,[.vec c.insts.length (p6 c.insts),.vec c.calls.length (s6 c.calls),.vec c.roots.length (l5 c.roots)],0⟩,⟨0,false,39,5,[.int .i64 lock,.int .i64 xi,.int .i64 xp,.int .i64 xd,.vec l.length (g8 l)],0⟩,p8 63 3 k (y0 (jL u c lock l k))]⟩) (.v ⟨0,⟨rfl,⟨t106,by omega⟩⟩,rfl⟩ (hs:=t61)) ?_;rintro m sl h' ⟨k,⟨hm,⟨hA,hk0⟩⟩,hst⟩;obtain ⟨rfl,rfl⟩:=St.mk.inj hst;clear hst;have hel:=dJ (u:=u) (c:=c) (m:=lock) (l:=l) (k:=k);refine c1z ?_;refine u2z ?_ ?_
  ·intro e3 qe3;refine c9z ?_;refine .seq ?_;refine c34z ?_;refine .ca rfl rfl (QK hu wc (by omega) hl hit) ?_;refine .n ?_;refine u2z ?_ ?_
   ·intro e4 qe4;refine .c7 [10] ?_;refine .z ?_;exact .ret (.ex (hf:=t102) (hq:=t191))
   intro e4 qe4;refine .sk ?_;refine .c7 [3,4,5,9,10] ?_;have hR:aU u c l k:=jV.1 (by simp_all);have hk:k<l.length:=by omega
   have hri:(l.getD k g6).items.length<1000000:=hit _ (j7 hk);have hi0:=hR.i0;have hi1:=hR.i1;have w:WIt u (c.insts.getD (l.getD k g6).inst.toNat c9):=wc.wi _ (j7 (by omega));have w1:=w.lo;have w2:=w.hi;have hsz:(g5 u (c.insts.getD (l.getD k g6).inst.toNat c9)).length≤1664:=aI hu w;have hwr:=wc.cll (l.getD k g6).inst.toNat (by omega);refine .sg u9 (mkH 10 [0,0,2,0,14,30,0,0,193,511] [6,7,8,9] [(6,0),(7,1)] [0,64,128,192,448,960] [0,1,2,3,4,5,6]) 2 ?_;refine .p 2 ?_;refine .rm [true] ?_;refine .p 2 ?_;refine .rm [true] ?_;refine .em [true] [64,0] [_] ?_;refine .en [true,true] [192,128,64,0] [_,_] ?_;refine .en [true,false,false,false] [448,192,128,64,0] [_] ?_;refine .en [true,false,false,false,false] [960,448,192,128,64,0] [_] ?_;refine .po [false,false,false,true,false,true] ?_;refine .po [false,true,true,true,true,true] ?_;refine .po [false,true,true,true,true,true] ?_;refine z4.nil rfl ?_;refine c7z ?_;refine .aW (fun m st=>∃(j:Nat),(m=(l.getD k g6).items.length-j∧(j≤(l.getD k g6).items.length))∧st=⟨mkS 97 [(3,AV.ptr h.length 0 0),(4,AV.ptr (h.length+1) 0 0),(5,AV.ptr (h.length+2) 0 0),(9,AV.own (h.length+3) k 0 k),(10,AV.int .i64 ((k:Nat):Int)),(11,AV.ptr (h.length+4) 1 0),(12,AV.ptr (h.length+5) 1 0),(13,AV.int .i64 ((j:Nat):Int))],h++[⟨0,false,30,4,[.vec u.globals.length (l5 u.globals),.vec u.c5.length (j6 u.c5),.vec u.procs.length (n8 u.procs),.int .i64 u.main],0⟩,⟨0,false,34,3,[.vec c.insts.length (p6 c.insts),.vec c.calls.length (s6 c.calls),.vec c.roots.length (l5 c.roots)],0⟩,⟨0,false,39,5,[.int .i64 lock,.int .i64 xi,.int .i64 xp,.int .i64 xd,.vec l.length (g8 l)],0⟩,p8 63 3 k (y0 (jL u c lock l k)),⟨1,false,63,3,[.int .i64 (dY u c lock (jL u c lock l k) (l.getD k g6) j).lo,.int .i64 (dY u c lock (jL u c lock l k) (l.getD k g6) j).hi,.int .i64 (dY u c lock (jL u c lock l k) (l.getD k g6) j).net],0⟩,⟨1,false,53,3,[.int .i64 (l.getD k g6).inst,.bool (l.getD k g6).op',.vec (l.getD k g6).items.length (j0 (l.getD k g6).items)],0⟩]⟩) (.v ⟨0,⟨rfl,by omega⟩,rfl⟩) ?_ (he:=by rfl);rintro m sl h' ⟨j,⟨hm,hj⟩,hst⟩;obtain ⟨rfl,rfl⟩:=St.mk.inj hst;clear hst;refine c1z ?_;refine u2z ?_ ?_
   ·intro e5 qe5;refine c9z ?_;have ic:=TV hR (i:=j) (by omega);have ic0:=ic.1;have ic1:=ic.2.1;have ic2:=ic.2.2;have own:=IL (u:=u) (c:=c) (m:=lock) (r:=(l.getD k g6)) (x:=((l.getD k g6).items.getD j (0,0))) (bf:=(jL u c lock l k)) (fun e he=>O3 e he) (by omega);refine .z ?_;refine u2z ?_ ?_
    ·intro e6 qe6;refine .c7 [3,4,5,9,10,11,12,13] ?_;refine .og u9 (mkH 12 [0,0,0,4,0,28,60,124,254,510,1023,2047] [11] [] [0,2048] []) 0 ?_;refine c62z ?_;refine c63z ?_;refine c27z ?_;refine .rn [true] ?_;refine .cl rfl rfl (fun _=>IF (dY u c lock (jL u c lock l k) (l.getD k g6) j) ((jL u c lock l k).getD ((l.getD k g6).items.getD j (0,0)).2.toNat mG) (nX (by omega)) (by rw[←Ae (u:=u) (c:=c) (m:=lock) (r:=(l.getD k g6)) (by omega)];exact own)) ?_;refine .en [true] [2048,0] [_] ?_;refine c31z ?_;refine .c7 [3,4,5,9,10,11,12,13] ?_;refine .rz ?_;exact ⟨_,by omega,.v ⟨(j+1),⟨rfl,by omega⟩,rfl⟩ (he:=t173) (hk:=by exact IM _ _)⟩
    intro e6 qe6;refine .c7 [3,4,5,9,10,11,12,13] ?_;refine .og u9 (mkH 20 [0,0,0,4,0,16,60,124,0,256,0,1792,3840,7936,0,16384,65534,131070,262143,524287] [19] [] [0,524288] []) 0 ?_;refine .rn [true] ?_;refine c203z ?_;refine c203z ?_;refine c63z ?_;refine c27z ?_;refine .rn [true] ?_;refine .cl rfl rfl (fun _=>xK hu w ic.1 ic.2.1 lock) ?_;refine .cl rfl rfl (fun _=>c_rof _ t127 t127) ?_;refine .cl rfl rfl (fun _=>IF (dY u c lock (jL u c lock l k) (l.getD k g6) j) (ofE (chI (c.insts.getD (l.getD k g6).inst.toNat c9) ((g5 u (c.insts.getD (l.getD k g6).inst.toNat c9)).getD ((l.getD k g6).items.getD j (0,0)).1.toNat j4) lock)) (nX (by omega)) (by rw[←Ad (bf:=(jL u c lock l k)) (by omega)];exact own)) ?_;refine .en [true] [524288,0] [_] ?_;refine c31z ?_;refine .c7 [3,4,5,9,10,11,12,13] ?_;refine .rz ?_;exact ⟨_,by omega,.v ⟨(j+1),⟨rfl,by omega⟩,rfl⟩ (he:=t174) (hk:=by exact IM _ _)⟩
   intro e5 qe5;refine .exit ?_;obtain rfl:j=(l.getD k g6).items.length:=by omega
   change g7 ..;refine c2z ?_;refine .c7 [3,4,5,9,10] ?_;refine .rz ?_;exact ⟨_,by omega,.v ⟨(k+1),⟨rfl,⟨fun d hd=>if e:d=k then e▸hR else hA d (by omega),by omega⟩⟩,rfl⟩ (he:=t126) (hk:=by exact keep_g3 _ _ _ _) (hs:=t61)⟩
  intro e3 qe3;refine c10z ?_;refine .c7 [9] ?_;refine .z ?_;exact .ret (.ex (hf:=t102) (hq:=t192))
end Go.Proofs.YtapdldekgbbomaaGreatDoor
end
section
namespace Go.Un
open Go.Ab
theorem kU {α:Type}{a b:List α}{i:Nat}{d:α}(h:i<a.length):(a++b).getD i d=a.getD i d:=by rw[List.getD_eq_getElem?_getD,List.getD_eq_getElem?_getD,List.getElem?_append_left h]
theorem bG {α:Type}{a:List α}{x d:α}:(a++[x]).getD a.length d=x:=by rw[List.getD_eq_getElem?_getD,List.getElem?_append_right (Nat.le_refl _),Nat.sub_self];rfl
def sS (u:Un)(c:Clo)(l:List Ru)(i:Int)(x:Int×Int):Prop:=
 if (ptX u c (i,x.1)).op=2 then 0≤x.2∧x.2<l.length∧(l.getD x.2.toNat g6).inst=ptC c (i,x.1)∧(l.getD x.2.toNat g6).op'=false else x.2 = -1
theorem citeF_y {u:Un}{c:Clo}{l:List Ru}{i p q:Int}(h:(ptX u c (i,p)).op=2)(h0:0≤q)(h1:q<l.length)(h2:(l.getD q.toNat g6).inst=ptC c (i,p))(h3:(l.getD q.toNat g6).op'=false):sS u c l i (p,q):=by unfold sS;rw[if_pos h];exact ⟨h0,h1,h2,h3⟩
theorem citeF_n {u:Un}{c:Clo}{l:List Ru}{i p:Int}(h:¬(ptX u c (i,p)).op=2):sS u c l i (p,-1):=by unfold sS;rw[if_neg h]
theorem O7 {u:Un}{c:Clo}{l:List Ru}{r r':Ru}{x:Int×Int}{last:Prop}(h:sS u c l r.inst x):oT u c (l++[r']) l.length r x last:=by
 unfold sS at h;unfold oT;split at h
 ·rename_i h2;obtain ⟨a,b,d,e⟩:=h;rw[if_pos h2,kU (by omega)];exact ⟨a,b,d,fun f=>by rw[e]at f;cases f⟩
 ·rename_i h2;rw[if_neg h2];exact h
theorem tW {u:Un}{c:Clo}{i:Int}{o o':Bool}{its:List (Int×Int)}{x:Int×Int}{d:Nat}(h:d≤its.length):xH u c ⟨i,o,its++[x]⟩ d=xH u c ⟨i,o',its⟩ d:=by
 cases d with
 | zero=>rfl
 | succ d=>
  unfold xH;simp only;rw[kU (by omega)]
structure Fol (u:Un)(c:Clo)(l:List Ru)(i:Int)(its:List (Int×Int))(p:Int):Prop where
 it:∀d,d<its.length→0≤(its.getD d (0,0)).1∧(its.getD d (0,0)).1<(g5 u (c.insts.getD i.toNat c9)).length∧(its.getD d (0,0)).1∈xH u c ⟨i,true,its⟩ d∧¬(ptX u c (i,(its.getD d (0,0)).1)).op=8∧sS u c l i (its.getD d (0,0))
 lo:0≤p
 hi:p<(g5 u (c.insts.getD i.toNat c9)).length
 way:p∈xH u c ⟨i,true,its⟩ its.length
theorem Fol.zero {u:Un}{c:Clo}{l:List Ru}{i:Int}(h:0<(g5 u (c.insts.getD i.toNat c9)).length):Fol u c l i [] 0:=
 ⟨fun d hd=>absurd hd (Nat.not_lt_zero _),Int.le_refl _,by omega,by simp[xH]⟩
theorem Fol.next {u:Un}{c:Clo}{l:List Ru}{i:Int}{its:List (Int×Int)}{p q p':Int}(h:Fol u c l i its p)(h8:¬(ptX u c (i,p)).op=8)(hc:sS u c l i (p,q))(hp:p'∈z5 (ptX u c (i,p)) p.toNat)(h0:0≤p')(h1:p'<(g5 u (c.insts.getD i.toNat c9)).length):Fol u c l i (its++[(p,q)]) p':=by
 refine ⟨fun d hd=>?_,h0,h1,?_⟩
 ·rw[List.length_append,List.length_singleton]at hd;by_cases e:d=its.length
  ·subst e;rw[bG,tW (o':=true) (Nat.le_refl _)];exact ⟨h.lo,h.hi,h.way,h8,hc⟩
  ·rw[kU (by omega),tW (o':=true) (by omega)];exact h.it d (by omega)
 ·rw[List.length_append,List.length_singleton];unfold xH;simp only;rw[bG];exact hp
theorem Fol.opened {u:Un}{c:Clo}{l:List Ru}{i:Int}{its:List (Int×Int)}{p:Int}(h:Fol u c l i its p)(i0:0≤i)(i1:i<c.insts.length):aU u c (l++[⟨i,true,its⟩]) l.length:=by refine ⟨by rw[bG];exact i0,by rw[bG];exact i1,?_,by rw[bG];exact .inl rfl⟩;rw[bG];intro d hd;obtain ⟨a,b,e,f,g⟩:=h.it d hd;exact ⟨a,b,e,⟨fun x=>absurd x f,fun x=>by cases x.2⟩,O7 (r:=⟨i,true,its⟩) g⟩
theorem Fol.ended {u:Un}{c:Clo}{l:List Ru}{i:Int}{its:List (Int×Int)}{p q:Int}(h:Fol u c l i its p)(i0:0≤i)(i1:i<c.insts.length)(h8:(ptX u c (i,p)).op=8)(hc:sS u c l i (p,q)):aU u c (l++[⟨i,false,its++[(p,q)]⟩]) l.length:=by
 refine ⟨by rw[bG];exact i0,by rw[bG];exact i1,?_,by rw[bG];exact .inr (by simp)⟩;rw[bG];intro d hd;have hd':d<its.length+1:=by simpa using hd
 by_cases e:d=its.length
 ·subst e;unfold oB;simp only;rw[bG,tW (o':=true) (Nat.le_refl _)];exact ⟨h.lo,h.hi,h.way,⟨fun _=>by simp,fun _=>h8⟩,O7 (r:=⟨i,false,its++[(p,q)]⟩) hc⟩
 ·obtain ⟨a,b,e',f,g⟩:=h.it d (by omega);unfold oB;simp only;rw[kU (by omega),tW (o':=true) (by omega)];exact ⟨a,b,e',⟨fun x=>absurd x f,fun x=>by have:=x.1;rw[List.length_append,List.length_singleton]at this;omega⟩,O7 (r:=⟨i,false,its++[(p,q)]⟩) g⟩
theorem IN {u:Un}{c:Clo}{l:List Ru}{r:Ru}{k:Nat}(hk:k<l.length)(h:aU u c l k):aU u c (l++[r]) k:=by
 obtain ⟨a,b,d,e⟩:=h;refine ⟨?_,?_,?_,?_⟩<;>rw[kU hk]
 ·exact a
 ·exact b
 ·intro i hi;obtain ⟨q0,q1,q2,q3,q4⟩:=d i hi;refine ⟨q0,q1,q2,q3,?_⟩;unfold oT at q4 ⊢;split at q4
  ·rename_i h2;rw[if_pos h2,kU (by omega)];exact q4
  ·rename_i h2;rw[if_neg h2];exact q4
 ·exact e
structure CeL (u:Un)(c:Clo)(l:List Ru):Prop where
 it:∀r∈l,r.items.length≤21
 ok:∀k,k<l.length→aU u c l k
theorem CeL.nil {u:Un}{c:Clo}:CeL u c []:=⟨fun r h=>(by cases h),fun k h=>absurd h (Nat.not_lt_zero _)⟩
theorem CeL.app {u:Un}{c:Clo}{l:List Ru}{r:Ru}(h:CeL u c l)(hr:r.items.length≤21)(hk:aU u c (l++[r]) l.length):CeL u c (l++[r]):=by
 refine ⟨fun x hx=>?_,fun k hkk=>?_⟩
 ·rw[List.mem_append,List.mem_singleton]at hx;rcases hx with hx | rfl
  ·exact h.it x hx
  ·exact hr
 ·rw[List.length_append,List.length_singleton]at hkk;by_cases e:k=l.length
  ·rw[e];exact hk
  ·exact IN (by omega) (h.ok k (by omega))
theorem CeL.hit {u:Un}{c:Clo}{l:List Ru}(h:CeL u c l):∀r∈l,r.items.length<1000000:=fun r hr=>by have:=h.it r hr;omega
theorem IP {u:Un}{c:Clo}{l:List Ru}{k:Nat}(h:aU u c l k)(ho:(l.getD k g6).op'=true){j:Nat}(hj:j<(l.getD k g6).items.length):0≤((l.getD k g6).items.getD j (0,0)).1∧((l.getD k g6).items.getD j (0,0)).1<(g5 u (c.insts.getD (l.getD k g6).inst.toNat c9)).length∧
  0<(z5 ((g5 u (c.insts.getD (l.getD k g6).inst.toNat c9)).getD ((l.getD k g6).items.getD j (0,0)).1.toNat j4) ((l.getD k g6).items.getD j (0,0)).1.toNat).length:=by
 obtain ⟨a,b,_,d,_⟩:=h.it j hj;refine ⟨a,b,kP fun e=>?_⟩;have:=(d.1 e).2;rw[ho]at this;cases this
theorem path_in {u:Un}{c:Clo}{l:List Ru}{n:Nat}(hr:∀k,k<n→aU u c l k):∀k,k<n→∀x∈bC l k,0≤x.2∧x.2<c.insts.length∧0≤x.1∧x.1<(g5 u (c.insts.getD x.2.toNat c9)).length:=fun k=>by
 induction k using Nat.strongRecOn with
 | ind k ih=>
  intro hk x hx;have R:=hr k hk;have key:∀j,j≤(l.getD k g6).items.length→∀x∈v8 k (u5 l k) (l.getD k g6) j,0≤x.2∧x.2<c.insts.length∧0≤x.1∧x.1<(g5 u (c.insts.getD x.2.toNat c9)).length:=by
   intro j;induction j with
   | zero=>intro _ x hx;simp[v8]at hx
   | succ j jh=>
    intro hj x hx;rw[dR (by omega),lY,List.mem_append,List.mem_cons]at hx;rcases hx with hx | rfl | hx
    ·exact jh (by omega) x hx
    ·obtain ⟨a,b,_⟩:=R.it j (by omega);exact ⟨R.i0,R.i1,a,b⟩
    ·split at hx
     ·exact ih _ (by omega) (by omega) x hx
     ·cases hx
  exact key _ (Nat.le_refl _) x hx
theorem IQ {u:Un}{c:Clo}{m:Int}:∀{l:List (Int×Int)} {e:Ef},smE e→smE (CG u c m e l)
 | [],e,h=>h
 | x::l,e,h=>IQ (l:=l) TH
theorem IS {u:Un}{c:Clo}{m:Int}{e:Ef}{l:List (Int×Int)}{i:Nat}(h:i<l.length):CG u c m e (l.take (i+1))=thE (CG u c m e (l.take i)) (ofE (chP u c m (l.getD i (0,0)))):=by unfold CG;rw[List.take_add_one,List.getElem?_eq_getElem h,List.foldl_append];simp[List.getD,h]
theorem sm_ok {e:Ef}(h:smE e)(hn:¬e=brE):okE e:=h.resolve_right hn
theorem QL {u:Un}{c:Clo}{m:Int}{l:List Ru}(h:CeL u c l)(h0:0<l.length)(hn:∀i,i<l.length→¬(jL u c m l l.length).getD i mG=brE):CG u c m mG (bC l (l.length-1))=(jL u c m l l.length).getD (l.length-1) mG:=by rw[tU (by omega)];refine QE (n:=l.length) h.ok (fun k hk=>?_) (by omega);have h1:=hn k hk;rw[tU hk]at h1;exact sm_ok (nX (Nat.le_refl _)) h1
def QM (l:List Ru)(f:Int)(i:Nat):Nat:=((f+i).tmod l.length).toNat
def BX (l:List Ru)(f inst:Int)(i:Nat):Prop:=(l.getD (QM l f i) g6).inst=inst∧(l.getD (QM l f i) g6).op'=false
instance (l:List Ru)(f inst:Int)(i:Nat):Decidable (BX l f inst i):=by unfold BX;infer_instance
def IT (l:List Ru)(f inst:Int):Int:=match (List.range l.length).find? fun i=>decide (BX l f inst i) with
 | some i=>(QM l f i:Int)
 | none => -1
variable {f inst:Int}
theorem citF_y {l:List Ru}{i:Nat}(hi:i<l.length)(hn:∀d,d<i→¬BX l f inst d)(h:BX l f inst i):IT l f inst=(QM l f i:Int):=by unfold IT;rw[show (List.range l.length).find? (fun i=>decide (BX l f inst i))=some i from List.find?_range_eq_some.2 ⟨decide_eq_true h,List.mem_range.2 hi,fun j hj=>by simp[hn j hj]⟩]
theorem citF_n {l:List Ru}(hn:∀d,d<l.length→¬BX l f inst d):IT l f inst = -1:=by unfold IT;rw[show (List.range l.length).find? (fun i=>decide (BX l f inst i))=none from List.find?_range_eq_none.2 fun j hj=>by simp[hn j hj]]
theorem citF_ok {l:List Ru}(hf:0≤f)(h:¬IT l f inst<0):0≤IT l f inst∧IT l f inst<l.length∧(l.getD (IT l f inst).toNat g6).inst=inst∧(l.getD (IT l f inst).toNat g6).op'=false:=by
 unfold IT at h ⊢;split
 ·rename_i i he;have h1:=List.find?_some he;have h2:i<l.length:=List.mem_range.1 (List.mem_of_find?_eq_some he);obtain ⟨a,b⟩:BX l f inst i:=by simpa using h1
  have h3:(f+i).tmod (l.length:Int)<l.length:=Int.tmod_lt_of_pos _ (by omega);have h4:0≤(f+i).tmod (l.length:Int):=Int.tmod_nonneg _ (by omega);refine ⟨by omega,by unfold QM;omega,?_,?_⟩
  ·rw[Int.toNat_natCast];exact a
  ·rw[Int.toNat_natCast];exact b
 ·rename_i he;rw[he]at h;exact absurd (show (-1:Int)<0 by decide) h
theorem QN {l:List Ru}(hf:0≤f){i:Nat}(hi:i<l.length):0≤(f+i).tmod l.length∧(f+i).tmod l.length<l.length:=⟨Int.tmod_nonneg _ (by omega),Int.tmod_lt_of_pos _ (by omega)⟩
def s8 (L:List Int)(l:List Ru)(inst I:Int):Int×Int:=(IT l (c6 L I ((l.length:Int)+1)).1 inst,(c6 L I ((l.length:Int)+1)).2)
def qP (L:List Int)(l:List Ru)(op tgt I:Int):Int×Int:=if op=2 then s8 L l tgt I else (-1,I)
def kV (L:List Int)(o:Bool)(I:Int):Int×Int:=if o then c6 L I 8 else (0,I)
def cZ (L:List Int)(u:Un)(c:Clo)(l:List Ru)(i:Int)(o:Bool):Nat→List (Int×Int)→Int→Int→Ru×Bool×Int
 | 0,its,_,I=>(⟨i,o,its⟩,o,I)
 | n+1,its,p,I=>
  if (ptX u c (i,p)).op=2∧(qP L l (ptX u c (i,p)).op (ptC c (i,p)) I).1<0 then (⟨i,o,its⟩,o,(qP L l (ptX u c (i,p)).op (ptC c (i,p)) I).2)
  else if o=true∧((kV L o (qP L l (ptX u c (i,p)).op (ptC c (i,p)) I).2).1=1∨(ptX u c (i,p)).op=8) then
   if (ptX u c (i,p)).op=8 then
    if (c6 L (kV L o (qP L l (ptX u c (i,p)).op (ptC c (i,p)) I).2).2 2).1=1 then (⟨i,false,its++[(p,(qP L l (ptX u c (i,p)).op (ptC c (i,p)) I).1)]⟩,true,(c6 L (kV L o (qP L l (ptX u c (i,p)).op (ptC c (i,p)) I).2).2 2).2)
    else (⟨i,o,its⟩,true,(c6 L (kV L o (qP L l (ptX u c (i,p)).op (ptC c (i,p)) I).2).2 2).2)
   else (⟨i,o,its⟩,true,(kV L o (qP L l (ptX u c (i,p)).op (ptC c (i,p)) I).2).2)
  else if (ptX u c (i,p)).op=8 then (⟨i,o,its++[(p,(qP L l (ptX u c (i,p)).op (ptC c (i,p)) I).1)]⟩,true,(kV L o (qP L l (ptX u c (i,p)).op (ptC c (i,p)) I).2).2)
  else cZ L u c l i o n (its++[(p,(qP L l (ptX u c (i,p)).op (ptC c (i,p)) I).1)])
   ((z5 (ptX u c (i,p)) p.toNat).getD (c6 L (kV L o (qP L l (ptX u c (i,p)).op (ptC c (i,p)) I).2).2 (z5 (ptX u c (i,p)) p.toNat).length).1.toNat 0)
   (c6 L (kV L o (qP L l (ptX u c (i,p)).op (ptC c (i,p)) I).2).2 (z5 (ptX u c (i,p)) p.toNat).length).2
theorem O8 {L:List Int}{l:List Ru}{op tgt I:Int}(hI:OkI L I):OkI L (qP L l op tgt I).2:=by
 unfold qP;split
 ·exact (l8 hI (by omega)).2.2
 ·exact hI
theorem iX {L:List Int}{o:Bool}{I:Int}(hI:OkI L I):OkI L (kV L o I).2:=by
 unfold kV;split
 ·exact (l8 hI (by omega)).2.2
 ·exact hI
theorem H4 {L:List Int}{u:Un}{c:Clo}{l:List Ru}{i p I:Int}(hI:OkI L I)(h:¬((ptX u c (i,p)).op=2∧(qP L l (ptX u c (i,p)).op (ptC c (i,p)) I).1<0)):sS u c l i (p,(qP L l (ptX u c (i,p)).op (ptC c (i,p)) I).1):=by
 unfold qP at h ⊢;by_cases h2:(ptX u c (i,p)).op=2
 ·rw[if_pos h2]at h ⊢;obtain ⟨a,b,d,e⟩:=citF_ok (l8 hI (n:=(l.length:Int)+1) (by omega)).1 (fun q=>h ⟨h2,q⟩);exact citeF_y h2 a b d e
 ·rw[if_neg h2];exact citeF_n h2
structure RuOk (L:List Int)(u:Un)(c:Clo)(l:List Ru)(o:Bool)(m:Nat)(x:Ru×Bool×Int):Prop where
 few:x.1.items.length≤m
 ok:x.2.1=true→aU u c (l++[x.1]) l.length
 op:o=true→x.2.1=true
 oi:OkI L x.2.2
theorem qQ {L:List Int}{u:Un}(hu:WU u){c:Clo}(wc:WC u c){l:List Ru}{i:Int}(i0:0≤i)(i1:i<c.insts.length){o:Bool}:∀{n:Nat} {its:List (Int×Int)} {p I:Int},Fol u c l i its p→OkI L I→RuOk L u c l o (its.length+n) (cZ L u c l i o n its p I)
 | 0,its,p,I,h,hI=>⟨Nat.le_refl _,fun e=>by have e':o=true:=e;show aU u c (l++[⟨i,o,its⟩]) l.length;rw[e'];exact h.opened i0 i1,fun e=>e,hI⟩
 | n+1,its,p,I,h,hI=>by
  have w:WIt u (c.insts.getD i.toNat c9):=wc.wi _ (j7 (by omega));unfold cZ;have k1:=O8 (l:=l) (op:=(ptX u c (i,p)).op) (tgt:=ptC c (i,p)) hI;have k2:=iX (o:=o) k1;split
  ·exact ⟨t103,fun e=>by have e':o=true:=e;show aU u c (l++[⟨i,o,its⟩]) l.length;rw[e'];exact h.opened i0 i1,fun e=>e,k1⟩
  ·rename_i hc;have hcite:=H4 hI hc;split
   ·rename_i ho;split
    ·rename_i h8;have k3:=l8 k2 (n:=2) (by omega);split
     ·exact ⟨t142,fun _=>h.ended i0 i1 h8 hcite,fun _=>rfl,k3.2.2⟩
     ·exact ⟨t103,fun _=>by show aU u c (l++[⟨i,o,its⟩]) l.length;rw[ho.1];exact h.opened i0 i1,fun _=>rfl,k3.2.2⟩
    ·exact ⟨t103,fun _=>by show aU u c (l++[⟨i,o,its⟩]) l.length;rw[ho.1];exact h.opened i0 i1,fun _=>rfl,k2⟩
   ·rename_i ho;split
    ·rename_i h8;have hof:o=false:=by
      cases o with
      | false=>rfl
      | true=>exact absurd ⟨rfl,.inr h8⟩ ho
     exact ⟨t142,fun _=>by show aU u c (l++[⟨i,o,its++[_]⟩]) l.length;rw[hof];exact h.ended i0 i1 h8 hcite,fun _=>rfl,k2⟩
    ·rename_i h8;obtain ⟨pc,rfl⟩:=Int.eq_ofNat_of_zero_le h.lo;have hp:=kP (pc:=pc) h8;have k3:=l8 k2 (n:=((z5 (ptX u c (i,(pc:Int))) pc).length:Int)) (by omega);have hpc:pc<(g5 u (c.insts.getD i.toNat c9)).length:=by have:=h.hi;omega
     have hj:(c6 L (kV L o (qP L l (ptX u c (i,(pc:Int))).op (ptC c (i,(pc:Int))) I).2).2 (z5 (ptX u c (i,(pc:Int))) pc).length).1.toNat<(z5 (ptX u c (i,(pc:Int))) pc).length:=by have:=k3.1;have:=k3.2.1;omega
     have q':=HS hu w hpc _ hj;have r:=qQ hu wc i0 i1 (o:=o) (n:=n) (h.next h8 hcite (j7 hj) q'.1 q'.2) k3.2.2;rw[List.length_append,List.length_singleton,Nat.add_assoc,Nat.add_comm 1 n]at r;exact r
section
variable {L:List Int}{u:Un}{c:Clo}{l:List Ru}{i p I q I1 s I2:Int}{o:Bool}{n:Nat}{its:List (Int×Int)}{X:Ins}{T:Int}{RR:Ru×Bool×Int}
theorem TX (h:X.op=2):qP L l X.op T I=((s8 L l T I).1,(s8 L l T I).2):=by unfold qP;rw[if_pos h]
theorem citX_n (h:¬X.op=2):qP L l X.op T I=(-1,I):=by unfold qP;rw[if_neg h]
theorem ruleF_0 (hR:cZ L u c l i o n its p I=RR)(hn:n=0):RR=(⟨i,o,its⟩,o,I):=by subst hn;exact hR.symm
theorem ruleF_a (hR:cZ L u c l i o n its p I=RR)(hn:0<n)(hX:ptX u c (i,p)=X)(hT:ptC c (i,p)=T)(hc:qP L l X.op T I=(q,I1))(h2:X.op=2)(hq:q<0):RR=(⟨i,o,its⟩,o,I1):=by obtain ⟨n,rfl⟩:∃m,n=m+1:=⟨n-1,by omega⟩;subst hX hT;rw[←hR,cZ,hc,if_pos ⟨h2,hq⟩]
theorem nI (hR:cZ L u c l i o n its p I=RR)(hn:0<n)(hX:ptX u c (i,p)=X)(hT:ptC c (i,p)=T)(hc:qP L l X.op T I=(q,I1))(hq:¬(X.op=2∧q<0))(hd:kV L o I1=(s,I2)) :
  RR=if o=true∧(s=1∨X.op=8) then (if X.op=8 then (if (c6 L I2 2).1=1 then (⟨i,false,its++[(p,q)]⟩,true,(c6 L I2 2).2) else (⟨i,o,its⟩,true,(c6 L I2 2).2)) else (⟨i,o,its⟩,true,I2))
   else if X.op=8 then (⟨i,o,its++[(p,q)]⟩,true,I2)
   else cZ L u c l i o (n-1) (its++[(p,q)]) ((z5 X p.toNat).getD (c6 L I2 (z5 X p.toNat).length).1.toNat 0) (c6 L I2 (z5 X p.toNat).length).2:=by
 obtain ⟨n,rfl⟩:∃m,n=m+1:=⟨n-1,by omega⟩;subst hX hT;rw[←hR,cZ,hc];simp only;rw[if_neg hq,hd];rfl
theorem IU (hF:Fol u c l i its p)(hI:OkI L I)(hX:ptX u c (i,p)=X)(hT:ptC c (i,p)=T)(hc:qP L l X.op T I=(q,I1))(hq:¬(X.op=2∧q<0)):sS u c l i (p,q):=by subst hX hT;have h:=H4 (L:=L) (u:=u) (c:=c) (l:=l) (i:=i) (p:=p) hI (by rw[hc];exact hq);rw[hc]at h;exact h
theorem X5 (hu:WU u)(wc:WC u c)(i0:0≤i)(i1:i<c.insts.length)(hF:Fol u c l i its p)(hX:ptX u c (i,p)=X)(h8:¬X.op=8)(hc:sS u c l i (p,q)){j:Nat}(hj:j<(z5 X p.toNat).length):Fol u c l i (its++[(p,q)]) ((z5 X p.toNat).getD j 0):=by
 have w:WIt u (c.insts.getD i.toNat c9):=wc.wi _ (j7 (by omega));obtain ⟨pc,rfl⟩:=Int.eq_ofNat_of_zero_le hF.lo;have hpc:pc<(g5 u (c.insts.getD i.toNat c9)).length:=by have:=hF.hi;omega
 subst hX;have k:=HS hu w hpc j hj;exact hF.next h8 hc (j7 hj) k.1 k.2
end
def oU (L:List Int)(u:Un)(c:Clo):Nat→List Ru→Int→List Ru×Int
 | 0,l,I=>(l,I)
 | n+1,l,I=>oU L u c n (if (cZ L u c l (c6 L I c.insts.length).1 false 20 [] 0 (c6 L I c.insts.length).2).2.1 then l++[(cZ L u c l (c6 L I c.insts.length).1 false 20 [] 0 (c6 L I c.insts.length).2).1] else l) (cZ L u c l (c6 L I c.insts.length).1 false 20 [] 0 (c6 L I c.insts.length).2).2.2
def BY (L:List Int):Nat:=(1+(c6 L 0 5).1).toNat
def vW (L:List Int)(u:Un)(c:Clo):List Ru×Int:=oU L u c (BY L) [] (c6 L 0 5).2
def rU (L:List Int)(u:Un)(c:Clo):Ru×Bool×Int:=cZ L u c (vW L u c).1 (c.roots.getD (c6 L (vW L u c).2 c.roots.length).1.toNat 0) true 20 [] 0 (c6 L (vW L u c).2 c.roots.length).2
def vX (L:List Int)(u:Un)(c:Clo):List Ru:=(vW L u c).1++[(rU L u c).1]
def A6 (u:Un)(c:Clo)(r:Ru):Int:=if 0<r.items.length∧r.op'=true then (z5 ((g5 u (c.insts.getD r.inst.toNat c9)).getD (r.items.getD ((r.items.length:Int)-1).toNat (0,0)).1.toNat j4) (r.items.getD ((r.items.length:Int)-1).toNat (0,0)).1.toNat).getD 0 0 else if r.op'=true then 0 else -1
section
variable {L:List Int}{u:Un}{c:Clo}{l:List Ru}{I J:Int}{r:Ru}{ok:Bool}{n:Nat}{CC:List Ru×Int}
theorem certP_a (h:0<r.items.length)(h2:r.op'=true):A6 u c r=(z5 ((g5 u (c.insts.getD r.inst.toNat c9)).getD (r.items.getD ((r.items.length:Int)-1).toNat (0,0)).1.toNat j4) (r.items.getD ((r.items.length:Int)-1).toNat (0,0)).1.toNat).getD 0 0:=if_pos ⟨h,h2⟩
theorem certP_b (h2:r.op'=false):A6 u c r = -1:=by unfold A6;rw[if_neg (fun h=>by rw[h2]at h;cases h.2),if_neg (fun h=>by rw[h2]at h;cases h)]
theorem certP_c (h:¬0<r.items.length)(h2:r.op'=true):A6 u c r=0:=by unfold A6;rw[if_neg (fun q=>h q.1),if_pos h2]
theorem certL_0 (h:oU L u c n l I=CC)(hn:n=0):CC=(l,I):=by subst hn;exact h.symm
theorem certL_t (h:oU L u c n l I=CC)(hn:0<n)(hR:cZ L u c l (c6 L I c.insts.length).1 false 20 [] 0 (c6 L I c.insts.length).2=(r,ok,J))(ho:ok=true):oU L u c (n-1) (l++[r]) J=CC:=by obtain ⟨n,rfl⟩:∃m,n=m+1:=⟨n-1,by omega⟩;rw[oU,hR,ho]at h;exact h
theorem certL_f (h:oU L u c n l I=CC)(hn:0<n)(hR:cZ L u c l (c6 L I c.insts.length).1 false 20 [] 0 (c6 L I c.insts.length).2=(r,ok,J))(ho:ok=false):oU L u c (n-1) l J=CC:=by obtain ⟨n,rfl⟩:∃m,n=m+1:=⟨n-1,by omega⟩;rw[oU,hR,ho]at h;exact h
end
theorem A7 {L:List Int}{u:Un}(hu:WU u){c:Clo}(wc:WC u c)(hc0:∀i:Int,0≤i→i<c.insts.length→0<(g5 u (c.insts.getD i.toNat c9)).length):∀{n:Nat} {l:List Ru} {I:Int},CeL u c l→OkI L I→CeL u c (oU L u c n l I).1∧(oU L u c n l I).1.length≤l.length+n∧OkI L (oU L u c n l I).2
 | 0,l,I,h,hI=>⟨h,Nat.le_refl _,hI⟩
 | n+1,l,I,h,hI=>by
  have hnx:=l8 hI (n:=(c.insts.length:Int)) (by have:=wc.len;omega);have hrk:=qQ hu wc hnx.1 hnx.2.1 (o:=false) (n:=20) (its:=[]) (p:=0) (Fol.zero (l:=l) (hc0 _ hnx.1 hnx.2.1)) hnx.2.2;unfold oU;generalize hRF:cZ L u c l (c6 L I (c.insts.length:Int)).1 false 20 [] 0 (c6 L I (c.insts.length:Int)).2=RF at hrk;obtain ⟨r,ok,J⟩:=RF;cases ok with
  | false=>
   obtain ⟨a,b,d⟩:=A7 hu wc hc0 (n:=n) h hrk.oi;exact ⟨a,Nat.le_trans b (by omega),d⟩
  | true=>
   have hf:r.items.length≤20:=hrk.few;obtain ⟨a,b,d⟩:=A7 hu wc hc0 (n:=n) (h.app (r:=r) (by omega) (hrk.ok rfl)) hrk.oi;rw[List.length_append,List.length_singleton]at b;exact ⟨a,Nat.le_trans b (by omega),d⟩
theorem O9 {L:List Int}{u:Un}(hu:WU u){c:Clo}(wc:WC u c):CeL u c (vX L u c)∧0<(vX L u c).length∧(vX L u c).length≤6:=by
 have hc0:∀i:Int,0≤i→i<c.insts.length→0<(g5 u (c.insts.getD i.toNat c9)).length:=fun i h1 h2=>by have:=(lK hu (wc.wi _ (j7 (d:=c9) (i:=i.toNat) (by omega)))).1;omega
 have h5:=l8 (L:=L) (I:=0) (n:=5) ⟨Int.le_refl _,by omega⟩ (by omega);obtain ⟨a,b,d⟩:=A7 hu wc hc0 (n:=BY L) (CeL.nil (u:=u) (c:=c)) h5.2.2;have hn:BY L≤5:=by unfold BY;omega
 have hrx:=l8 d (n:=(c.roots.length:Int)) (by have:=wc.rl;omega);have hrr:=wc.rr (c.roots.getD (c6 L (vW L u c).2 c.roots.length).1.toNat 0) (j7 (by have h1:=hrx.1;have h2:=hrx.2.1;unfold vW;omega));have hrk:=qQ hu wc hrr.1 hrr.2 (o:=true) (n:=20) (its:=[]) (p:=0) (Fol.zero (l:=(vW L u c).1) (hc0 _ hrr.1 hrr.2)) hrx.2.2;have hf:(rU L u c).1.items.length≤20:=hrk.few;refine ⟨CeL.app (r:=(rU L u c).1) a (by omega) (hrk.ok (hrk.op rfl)),by simp[vX],?_⟩;unfold vX;rw[List.length_append,List.length_singleton];have:(vW L u c).1.length≤5:=by unfold vW;simp only[List.length_nil]at b;omega
 omega
end Go.Un
end
section
namespace Go.Proofs.YtapdldekgbbomaaGreatDoor
open Go.Ab Go.Un
def rH (L:List Int)(h:c8)(I:Int)(r:c8):c8:=h++(⟨0,false,78,2,[.vec L.length (l5 L),.int .i64 I],0⟩::r)
def rN (h r:c8):Nat:=h.length+(r.length+1)
section
variable {L:List Int}{h r l:c8}{I J:Int}
theorem hY:(rH L h I r).length=rN h r:=by simp[rH,rN]
theorem xM {j:Nat}:(rH L h I r++l)[rN h r+j]?=l[j]?:=by rw[List.getElem?_append_right (by rw[hY];omega),hY,Nat.add_sub_cancel_left]
theorem rH_new0:(rH L h I r++l)[rN h r]?=l[0]?:=by rw[List.getElem?_append_right (by rw[hY];omega),hY,Nat.sub_self]
theorem IV {j:Nat}{b:Blk}:(rH L h I r++l).set (rN h r+j) b=rH L h I r++l.set j b:=by rw[List.set_append_right _ _ (by rw[hY];omega),hY,Nat.add_sub_cancel_left]
theorem wL (L:List Int)(h r:c8):aY h.length L (rN h r) fun I=>rH L h I r:=⟨fun _=>by unfold rH;rw[fK];rfl,fun _ _=>by unfold rH;rw[lC];rfl,fun _=>hY⟩
theorem tX {L:List Int}(l:c8)(I n:Int)(hI:OkI L I)(hL:L.length<4611686018427387904)(hn:0<n)(hm:n≤4611686018427387904):CH 29 [.ptr h.length 0 0,.int .i64 n] (rH L h I r++l) (.int .i64 (c6 L I n).1) (rH L h (c6 L I n).2 r++l):=sF ((wL L h r).app l) I n hI hL hn hm
end
variable {n:Nat}
theorem IW {L:List Int}{I:Int}:∀x∈[AV.vec L.length (l5 L),.int .i64 I],Refs n x:=dK.get ⟨.vec _ _,.int _ _,trivial⟩
theorem oV {l:List (Int×Int)}{x y:Int}:j0 (l++[(x,y)])=j0 l++[.int .i64 x,.int .i64 y]:=by simp[j0,O2]
theorem P0 {l:List Ru}{r:Ru}:g8 (l++[r])=g8 l++[.int .i64 r.inst,.bool r.op',.vec r.items.length (j0 r.items)]:=by simp[g8,kR]
variable {β g len:Nat}
theorem IX {H:c8}{b:Nat}{i:Int}{o ok:Bool}{a:List (Int×Int)}(hb:H[β]?=some (p8 55 2 g (j0 a)))(hn:n≤β)(hl:a.length=len):gT n H 6 (.tup [.agg [.int .i64 i,.bool o,.own β g 0 len],.bool ok])=some (.tup [.agg [.int .i64 i,.bool o,.vec len (j0 a)],.bool ok]):=by
  have e:gT n H 4 (.own β g 0 len)=some (.vec len (j0 a)):=by rw[cW,if_neg (by omega)];exact eN hb hn (by rw[u3,hl];omega) (by omega) ((vV a).frz _ _ _)
  rw[lF];simp only[s5,lE,pO,iN,e,Option.map_some]
theorem QO {H:c8}{b:Nat}{i x y:Int}{o ok:Bool}{a:List (Int×Int)}(hb:H[β]?=some (p8 55 2 g (j0 a++[.int .i64 x,.int .i64 y])))(hn:n≤β)(hl:(a++[(x,y)]).length=len):gT n H 6 (.tup [.agg [.int .i64 i,.bool o,.own β g 0 len],.bool ok])=some (.tup [.agg [.int .i64 i,.bool o,.vec len (j0 (a++[(x,y)]))],.bool ok]):=IX (b:=b) (by rw[oV];exact hb) hn hl
theorem app_im {L:List Int}{h r:c8}{I:Int}{a0 a1 a2 a3 a5:Blk}{l:c8}{q:Nat}{zs:List AV}{x y:AV}(hz:zs.length=n*2)(hn:n<1000):j5 cfg 55 (rH L h I r++(a0::a1::a2::a3::p8 55 2 g zs::a5::⟨q,false,55,2,[x,y],0⟩::l)) (.own (rN h r+4) g 0 n) (.own (rN h r+6) q 0 1)=some (.own (rN h r+4) (g+1) 0 (n+1),rH L h I r++(a0::a1::a2::a3::p8 55 2 (g+1) (zs++[x,y])::a5::⟨q,false,55,2,[x,y],0⟩::l)):=by rw[aC (C:=cfg) (K:=2) (m:=1) (new:=[x,y]) (zs:=zs) (by rw[xM];rfl) rfl (by omega) hz rfl (by omega) (by simp[rd,xM]) rfl (by decide) (by omega),IV];rfl
attribute [local go_sem] rd Int.natCast_nonneg Int.natCast_inj Int.toNat_natCast_add_one mnI mxI wrap64 qS max2 u4 u3 bB kH iR iS iT lU iU iV lV eA w8 aJ w6 q9 cQ n6 dW dX cP gR fV lZ hU List.length_take oF n6 hU app_im hY xM rH_new0 IV
theorem c_cited {N:Nat}{S:Int→c8}{L:List Int}(F:aY β L N S)(I tgt:Int)(hI:OkI L I)(hL:L.length<4611686018427387904){l:List Ru}(hl:l.length<1000)(hit:∀r∈l,r.items.length<1000000):CH 53 [.ptr β 0 0,.vec l.length (g8 l),.int .i64 tgt] (S I) (.int .i64 (s8 L l tgt I).1) (S (s8 L l tgt I).2):=by
  refine l6.AL u9 fn53 rfl ?_;simp only[ntm53,List.length_cons,List.length_nil,Nat.reduceAdd,Nat.reduceSub,List.replicate,List.cons_append,List.nil_append];have hn1:=l8 hI (n:=(l.length:Int)+1) (by omega);refine c6z ?_;refine n9.pre 1 t10 ?_;refine c253z ?_;refine n9.pre 4 t10 ?_;refine n9.s9 rfl rfl rfl sO (sF F I _ hI hL (by omega) (by omega)) ?_;refine n9.pre 1 t10 ?_;refine c261z ?_;refine n9.pre 1 t10 ?_;refine c5z ?_;refine g7.block ?_;refine g7.aF (S (c6 L I ((l.length:Int)+1)).2) t208 ?_;refine g7.VC (fun m st=>∃(i:Nat),(m=l.length-i∧((∀d,d<i→¬BX l (c6 L I ((l.length:Int)+1)).1 tgt d)∧i≤l.length))∧st=⟨[.any,.vec l.length (g8 l),.int .i64 tgt,.any,.any,.any,.any,.int .i64 (c6 L I ((l.length:Int)+1)).1,.int .i64 ((i:Nat):Int),.any,.any,.any,.any,.any,.any,.any,.any,.any,.any,.any,.any,.any,.any,.any,.any,.any,.any,.any,.any,.any,.any,.any,.any,.any,.any,.any,.any,.any,.any,.any,.any,.any,.any],S (c6 L I ((l.length:Int)+1)).2⟩) (l.length-0) ⟨[.any,.vec l.length (g8 l),.int .i64 tgt,.any,.any,.any,.any,.int .i64 (c6 L I ((l.length:Int)+1)).1,.int .i64 ((0:Nat):Int),.any,.any,.any,.any,.any,.any,.any,.any,.any,.any,.any,.any,.any,.any,.any,.any,.any,.any,.any,.any,.any,.any,.any,.any,.any,.any,.any,.any,.any,.any,.any,.any,.any,.any],S (c6 L I ((l.length:Int)+1)).2,[],(List.append_nil _).symm,Nat.le_refl _,z8.refl _,⟨(.inr rfl),(.inl t89),(.inl t89),(.inr rfl),(.inr rfl),(.inr rfl),(.inr rfl),(.inl t89),(.inl t89),(.inr rfl),(.inr rfl),(.inr rfl),(.inr rfl),(.inr rfl),(.inr rfl),(.inr rfl),(.inr rfl),(.inr rfl),(.inr rfl),(.inr rfl),(.inr rfl),(.inr rfl),(.inr rfl),(.inr rfl),(.inr rfl),(.inr rfl),(.inr rfl),(.inr rfl),(.inr rfl),(.inr rfl),(.inr rfl),(.inr rfl),(.inr rfl),(.inr rfl),(.inr rfl),(.inr rfl),(.inr rfl),(.inr rfl),(.inr rfl),(.inr rfl),(.inr rfl),(.inr rfl),(.inr rfl),trivial⟩,dK.get ⟨t0,t0,t0,t0,t0,t0,t0,t0,t0,t0,t0,t0,t0,t0,t0,t0,t0,t0,t0,t0,t0,t0,t0,t0,t0,t0,t0,t0,t0,t0,t0,t0,t0,t0,t0,t0,t0,t0,t0,t0,t0,t0,t0,trivial⟩,0,⟨rfl,⟨t106,by omega⟩⟩,rfl⟩ ?_;rintro m sl h' ⟨i,⟨hm,⟨hI2,hi⟩⟩,hst⟩;obtain ⟨rfl,rfl⟩:=St.mk.inj hst;clear hst;have hcr:=QN (l:=l) hn1.1 (i:=i);refine c124z ?_;refine n9.pre 4 t10 ?_;refine c5z ?_;refine g7.split 18 rfl (fun e1=>?_) (fun e1=>?_)
  · try simp only[e1]
    have qe1:=e1;try replace qe1:=s8z qe1
    refine g7.wG rfl ?_;refine c59z ?_;refine c227z ?_;refine c6z ?_;refine n9.pre 7 t10 ?_;refine c253z ?_;refine n9.pre 8 t10 ?_;refine n9.split 34 rfl (fun e2=>?_) (fun e2=>?_)
    · try simp only[e2]
      have qe2:=e2;try replace qe2:=s8z qe2
      refine n9.pre 7 t10 ?_;refine c5z ?_;refine g7.split 41 rfl (fun e3=>?_) (fun e3=>?_)
      · try simp only[e3]
        have qe3:=e3;try replace qe3:=s8z qe3
        refine c230z ?_;refine n9.pre 2 t10 ?_;refine c64z ?_;refine Ends.mk t92 ?_;exact ⟨_,[],_,(List.append_nil _).symm,t48,F.fJ _ _,t206,t121⟩
      · try simp only[e3]
        have qe3:=e3;try replace qe3:=s8z qe3
        refine c84z ?_;refine g7.region u9 ?_;refine n9.pre 3 t10 ?_;refine n9.nil ?_;exact ⟨l.length-(i+1),by omega,[.any,.vec l.length (g8 l),.int .i64 tgt,.any,.any,.any,.any,.int .i64 (c6 L I ((l.length:Int)+1)).1,.int .i64 (((i+1):Nat):Int),.any,.any,.any,.any,.any,.any,.any,.any,.any,.any,.any,.any,.any,.any,.any,.any,.any,.any,.any,.any,.any,.any,.any,.any,.any,.any,.any,.any,.any,.any,.any,.any,.any,.any],S (c6 L I ((l.length:Int)+1)).2,_,by exact (List.append_nil _).symm,by simp,by exact z8.refl _,⟨(.inr rfl),(.inl t89),(.inl t89),(.inr rfl),(.inr rfl),(.inr rfl),(.inr rfl),(.inl t89),(.inl t89),(.inr rfl),(.inr rfl),(.inr rfl),(.inr rfl),(.inr rfl),(.inr rfl),(.inr rfl),(.inr rfl),(.inr rfl),(.inr rfl),(.inr rfl),(.inr rfl),(.inr rfl),(.inr rfl),(.inr rfl),(.inr rfl),(.inr rfl),(.inr rfl),(.inr rfl),(.inr rfl),(.inr rfl),(.inr rfl),(.inr rfl),(.inr rfl),(.inr rfl),(.inr rfl),(.inr rfl),(.inr rfl),(.inr rfl),(.inr rfl),(.inr rfl),(.inr rfl),(.inr rfl),(.inr rfl),trivial⟩,dK.get ⟨t0,t0,t0,t0,t0,t0,t0,t0,t0,t0,t0,t0,t0,t0,t0,t0,t0,t0,t0,t0,t0,t0,t0,t0,t0,t0,t0,t0,t0,t0,t0,t0,t0,t0,t0,t0,t0,t0,t0,t0,t0,t0,t0,trivial⟩,(i+1),⟨rfl,⟨fun d hd=>if e:d=i then (by rw[e];unfold BX QM;simp_all) else hI2 d (by omega),by omega⟩⟩,rfl⟩
    · try simp only[e2]
      have qe2:=e2;try replace qe2:=s8z qe2
      refine n9.pre 7 t10 ?_;refine c5z ?_;refine c84z ?_;refine g7.region u9 ?_;refine n9.pre 3 t10 ?_;refine n9.nil ?_;exact ⟨l.length-(i+1),by omega,[.any,.vec l.length (g8 l),.int .i64 tgt,.any,.any,.any,.any,.int .i64 (c6 L I ((l.length:Int)+1)).1,.int .i64 (((i+1):Nat):Int),.any,.any,.any,.any,.any,.any,.any,.any,.any,.any,.any,.any,.any,.any,.any,.any,.any,.any,.any,.any,.any,.any,.any,.any,.any,.any,.any,.any,.any,.any,.any,.any,.any,.any],S (c6 L I ((l.length:Int)+1)).2,_,by exact (List.append_nil _).symm,by simp,by exact z8.refl _,⟨(.inr rfl),(.inl t89),(.inl t89),(.inr rfl),(.inr rfl),(.inr rfl),(.inr rfl),(.inl t89),(.inl t89),(.inr rfl),(.inr rfl),(.inr rfl),(.inr rfl),(.inr rfl),(.inr rfl),(.inr rfl),(.inr rfl),(.inr rfl),(.inr rfl),(.inr rfl),(.inr rfl),(.inr rfl),(.inr rfl),(.inr rfl),(.inr rfl),(.inr rfl),(.inr rfl),(.inr rfl),(.inr rfl),(.inr rfl),(.inr rfl),(.inr rfl),(.inr rfl),(.inr rfl),(.inr rfl),(.inr rfl),(.inr rfl),(.inr rfl),(.inr rfl),(.inr rfl),(.inr rfl),(.inr rfl),(.inr rfl),trivial⟩,dK.get ⟨t0,t0,t0,t0,t0,t0,t0,t0,t0,t0,t0,t0,t0,t0,t0,t0,t0,t0,t0,t0,t0,t0,t0,t0,t0,t0,t0,t0,t0,t0,t0,t0,t0,t0,t0,t0,t0,t0,t0,t0,t0,t0,t0,trivial⟩,(i+1),⟨rfl,⟨fun d hd=>if e:d=i then (by rw[e];unfold BX QM;simp_all) else hI2 d (by omega),by omega⟩⟩,rfl⟩
  · try simp only[e1]
    have qe1:=e1;try replace qe1:=s8z qe1
    refine g7.J4 rfl ?_;refine g7.exit ?_;change g7 _ _ _ _ _;refine c6z ?_;refine n9.pre 1 t10 ?_;refine c64z ?_;refine Ends.mk t92 ?_;exact ⟨_,[],_,(List.append_nil _).symm,t48,F.fJ _ _,t206,t121⟩
theorem TY {h r:c8}{L:List Int}(I0:Int)(hI0:OkI L I0)(hL:L.length<4611686018427387904){u:Un}{c:Clo}(hu:WU u)(wc:WC u c){l:List Ru}(hl:l.length<1000)(hit:∀r∈l,r.items.length<1000000)(inst:Int)(i0:0≤inst)(i1:inst<c.insts.length)(o:Bool):CH 30 [.ptr h.length 0 0,.agg [.vec u.globals.length (l5 u.globals),.vec u.c5.length (j6 u.c5),.vec u.procs.length (n8 u.procs),.int .i64 u.main],.agg [.vec c.insts.length (p6 c.insts),.vec c.calls.length (s6 c.calls),.vec c.roots.length (l5 c.roots)],.vec l.length (g8 l),.int .i64 inst,.bool o] (rH L h I0 r) (.tup [.agg (kR (cZ L u c l inst o 20 [] 0 I0).1),.bool (cZ L u c l inst o 20 [] 0 I0).2.1]) (rH L h (cZ L u c l inst o 20 [] 0 I0).2.2 r):=by
  refine .wz Tryz.f30 126 ?_;have hml:=hu.ml;have hwl:=wc.len;have hwc:=wc.cl;refine c184z ?_;have w:WIt u (c.insts.getD inst.toNat c9):=wc.wi _ (j7 (by omega));have w1:=w.lo;have w2:=w.hi;have hsz:(g5 u (c.insts.getD inst.toNat c9)).length≤1664:=aI hu w;have hwr:=wc.cll inst.toNat (by omega);have hc0:0<(g5 u (c.insts.getD inst.toNat c9)).length:=by have:=(lK hu w).1;omega
  generalize hRR:(cZ L u c l inst o 20 [] 0 I0)=RR;refine .ss u9 (mkP 13 [0,1,0,4,0,28,60,124,255,511,1023,2047,4095] []) ?_;refine c159z ?_;refine .seq ?_;refine .c7 [0,3,4,5,7,8,12,14,15,16] ?_;refine c29z ?_;refine g7.mL (β:=rN h r+3) (k:=2) (by rw[xM];rfl) rfl ?_;simp only[List.append_assoc,hY,IV,List.length_append,List.cons_append,List.nil_append,List.set_cons_succ,List.set_cons_zero,List.length_cons,List.length_nil,Nat.reduceAdd,Nat.zero_add,cM];refine .aW (fun m st=>∃(t:Nat) (its:List (Int×Int)) (p:Int) (I:Int) (g:Nat),(m=20-t∧(t≤20∧its.length=t∧Fol u c l inst its p∧OkI L I∧cZ L u c l inst o (20-t) its p I=RR))∧st=⟨mkS 126 [(0,AV.ptr h.length 0 0),(3,AV.vec l.length (g8 l)),(4,AV.int .i64 inst),(5,AV.bool o),(7,AV.ptr (rN h r) 0 0),(8,AV.ptr (rN h r+1) 0 0),(12,AV.ptr (rN h r+2) 0 0),(14,AV.ptr (rN h r+3) 0 0),(15,AV.vec (g5 u (c.insts.getD inst.toNat c9)).length (r8 (g5 u (c.insts.getD inst.toNat c9)))),(16,AV.int .i64 p),(17,AV.int .i64 ((t:Nat):Int))],(rH L h I r++[⟨0,false,30,4,[.vec u.globals.length (l5 u.globals),.vec u.c5.length (j6 u.c5),.vec u.procs.length (n8 u.procs),.int .i64 u.main],0⟩,⟨0,false,34,3,[.vec c.insts.length (p6 c.insts),.vec c.calls.length (s6 c.calls),.vec c.roots.length (l5 c.roots)],0⟩,⟨0,false,53,3,[.int .i64 0,.bool false,.l7],0⟩,⟨0,false,53,3,[.int .i64 inst,.bool o,.own (rN h r+4) g 0 t],0⟩,p8 55 2 g (j0 its)])⟩) (.v ⟨0,[],0,I0,0,⟨rfl,⟨by omega,rfl,Fol.zero (by omega),hI0,hRR⟩⟩,rfl⟩ (hr:=t37)) ?_ (he:=by rfl);rintro m sl h' ⟨t,its,p,I,g,⟨hm,⟨ht,hml2,hF,hI,hR⟩⟩,hst⟩;obtain ⟨rfl,rfl⟩:=St.mk.inj hst;clear hst;have hp0:=hF.lo;have hp1:=hF.hi;have hop:=W9 hu w (pc:=p.toNat) (by omega);have hzi:(j0 its).length=t*2:=by rw[u3,hml2];omega
  have hX:ptX u c (inst,p)=((g5 u (c.insts.getD inst.toNat c9)).getD p.toNat j4):=rfl;have hT:ptC c (inst,p)=((c.calls.getD inst.toNat []).getD p.toNat 0):=rfl;have hcl:=wc.call inst.toNat (by omega) p.toNat (by omega);refine c1z ?_;refine u2z ?_ ?_
  ·intro e1 qe1;refine c9z ?_;refine c54z ?_;refine u2z ?_ ?_
   ·intro e2 qe2;refine .c7 [0,3,4,5,7,8,12,14,15,16,17,18] ?_;refine c174z ?_;refine .e 2 ?_;refine .ch rfl rfl (c_cited ((wL L h r).app _) I _ hI hL hl hit) ?_;refine .n ?_;refine .c7 [0,3,4,5,7,8,12,14,15,16,17,18,53] ?_;refine .z ?_;refine u2z ?_ ?_
    ·intro e3 qe3;refine .c7 [5,12,14,53] ?_;have hcx:qP L l ((g5 u (c.insts.getD inst.toNat c9)).getD p.toNat j4).op ((c.calls.getD inst.toNat []).getD p.toNat 0) I=((s8 L l ((c.calls.getD inst.toNat []).getD p.toNat 0) I).1,(s8 L l ((c.calls.getD inst.toNat []).getD p.toNat 0) I).2):=TX (by omega);have hfin:RR=(⟨inst,o,its⟩,o,(s8 L l ((c.calls.getD inst.toNat []).getD p.toNat 0) I).2):=by exact ruleF_a hR (by omega) hX hT hcx (by omega) (by omega)
     refine c15z ?_;exact ⟨rH L h _ r,_,_,rfl,t66,(wL L h r).fJ _ _,t7,t24⟩
    intro e3 qe3;refine c100z ?_;have hcx:qP L l ((g5 u (c.insts.getD inst.toNat c9)).getD p.toNat j4).op ((c.calls.getD inst.toNat []).getD p.toNat 0) I=((s8 L l ((c.calls.getD inst.toNat []).getD p.toNat 0) I).1,(s8 L l ((c.calls.getD inst.toNat []).getD p.toNat 0) I).2):=TX (by omega);have hI1:OkI L (s8 L l ((c.calls.getD inst.toNat []).getD p.toNat 0) I).2:=by have:=O8 (l:=l) (op:=((g5 u (c.insts.getD inst.toNat c9)).getD p.toNat j4).op) (tgt:=((c.calls.getD inst.toNat []).getD p.toNat 0)) hI;rw[hcx]at this;exact this
    have hqn:¬(((g5 u (c.insts.getD inst.toNat c9)).getD p.toNat j4).op=2∧(s8 L l ((c.calls.getD inst.toNat []).getD p.toNat 0) I).1<0):=by omega
    have hcit:=IU hF hI hX hT hcx hqn;refine c39z ?_;refine .spl 64 rfl rfl (fun e4=>?_) (fun e4=>?_)
    ·try simp only[e4]
     have qe4:=fact e4;refine .k 1 [(1,64)] ?_;refine .ch rfl rfl (tX _ _ 8 hI1 hL (by omega) (by omega)) ?_;refine .k 2 [(1,64)] ?_;refine .spl 68 rfl rfl (fun e5=>?_) (fun e5=>?_)
     ·try simp only[e5]
      have qe5:=fact e5;refine .m [(1,64),(5,68)] ?_;refine .T ?_;refine .seq ?_;refine .c7 [0,12,14,15,16,18,53] ?_;obtain rfl:o=true:=(by assumption);have hdr:kV L true (s8 L l ((c.calls.getD inst.toNat []).getD p.toNat 0) I).2=((c6 L (s8 L l ((c.calls.getD inst.toNat []).getD p.toNat 0) I).2 8).1,(c6 L (s8 L l ((c.calls.getD inst.toNat []).getD p.toNat 0) I).2 8).2):=rfl;have hk2:OkI L (c6 L (s8 L l ((c.calls.getD inst.toNat []).getD p.toNat 0) I).2 8).2:=by have:=iX (o:=true) hI1;rw[hdr]at this;exact this
      have hRs:=nI hR (by omega) hX hT hcx hqn hdr;refine .s ?_;refine .e 7 ?_;refine .spl 83 rfl rfl (fun e6=>?_) (fun e6=>?_)
      ·try simp only[e6]
       have qe6:=fact e6;refine c102z ?_;refine .m [(6,83)] ?_;refine u2z ?_ ?_
       ·intro e7 qe7;refine .c7 [12,14,18,53] ?_;refine .z ?_;refine c2z ?_;refine .c7 [12,14,53] ?_;have hfin:RR=(⟨inst,false,its++[(p,(s8 L l ((c.calls.getD inst.toNat []).getD p.toNat 0) I).1)]⟩,true,(c6 L (c6 L (s8 L l ((c.calls.getD inst.toNat []).getD p.toNat 0) I).2 8).2 2).2):=by rw[hRs,if_pos ⟨by simp_all,by omega⟩,if_pos (by omega),if_pos (by omega)]
        refine c15z ?_;exact ⟨rH L h _ r,_,_,rfl,t66,(wL L h r).fJ _ _,t7,t24⟩
       intro e7 qe7;refine .sk ?_;refine .c7 [12,14,53] ?_;have hfin:RR=(⟨inst,true,its⟩,true,(c6 L (c6 L (s8 L l ((c.calls.getD inst.toNat []).getD p.toNat 0) I).2 8).2 2).2):=by rw[hRs,if_pos ⟨by simp_all,by omega⟩,if_pos (by omega),if_neg (by omega)]
       refine c15z ?_;exact ⟨rH L h _ r,_,_,rfl,t66,(wL L h r).fJ _ _,t7,t24⟩
      try simp only[e6]
      have qe6:=fact e6;refine .m [(6,83)] ?_;refine c14z ?_;refine .c7 [12,14,53] ?_;have hfin:RR=(⟨inst,true,its⟩,true,(c6 L (s8 L l ((c.calls.getD inst.toNat []).getD p.toNat 0) I).2 8).2):=by rw[hRs,if_pos ⟨by simp_all,by omega⟩,if_neg (by omega)]
      refine c15z ?_;exact ⟨rH L h _ r,_,_,rfl,t66,(wL L h r).fJ _ _,t7,t24⟩
     try simp only[e5]
     have qe5:=fact e5;refine .m [(1,64),(5,68)] ?_;refine u2z ?_ ?_
     ·intro e8 qe8;refine .seq ?_;refine .c7 [0,12,14,15,16,18,53] ?_;obtain rfl:o=true:=(by assumption);have hdr:kV L true (s8 L l ((c.calls.getD inst.toNat []).getD p.toNat 0) I).2=((c6 L (s8 L l ((c.calls.getD inst.toNat []).getD p.toNat 0) I).2 8).1,(c6 L (s8 L l ((c.calls.getD inst.toNat []).getD p.toNat 0) I).2 8).2):=rfl;have hk2:OkI L (c6 L (s8 L l ((c.calls.getD inst.toNat []).getD p.toNat 0) I).2 8).2:=by have:=iX (o:=true) hI1;rw[hdr]at this;exact this
      have hRs:=nI hR (by omega) hX hT hcx hqn hdr;refine .s ?_;refine .e 7 ?_;refine .spl 83 rfl rfl (fun e9=>?_) (fun e9=>?_)
      ·try simp only[e9]
       have qe9:=fact e9;refine c102z ?_;refine .m [(6,83)] ?_;refine u2z ?_ ?_
       ·intro e10 qe10;refine .c7 [12,14,18,53] ?_;refine .z ?_;refine c2z ?_;refine .c7 [12,14,53] ?_;have hfin:RR=(⟨inst,false,its++[(p,(s8 L l ((c.calls.getD inst.toNat []).getD p.toNat 0) I).1)]⟩,true,(c6 L (c6 L (s8 L l ((c.calls.getD inst.toNat []).getD p.toNat 0) I).2 8).2 2).2):=by rw[hRs,if_pos ⟨by simp_all,by omega⟩,if_pos (by omega),if_pos (by omega)]
        refine c15z ?_;exact ⟨rH L h _ r,_,_,rfl,t66,(wL L h r).fJ _ _,t7,t24⟩
       intro e10 qe10;refine .sk ?_;refine .c7 [12,14,53] ?_;have hfin:RR=(⟨inst,true,its⟩,true,(c6 L (c6 L (s8 L l ((c.calls.getD inst.toNat []).getD p.toNat 0) I).2 8).2 2).2):=by rw[hRs,if_pos ⟨by simp_all,by omega⟩,if_pos (by omega),if_neg (by omega)]
       refine c15z ?_;exact ⟨rH L h _ r,_,_,rfl,t66,(wL L h r).fJ _ _,t7,t24⟩
      try simp only[e9]
      have qe9:=fact e9;refine .m [(6,83)] ?_;refine c14z ?_;refine .c7 [12,14,53] ?_;have hfin:RR=(⟨inst,true,its⟩,true,(c6 L (s8 L l ((c.calls.getD inst.toNat []).getD p.toNat 0) I).2 8).2):=by rw[hRs,if_pos ⟨by simp_all,by omega⟩,if_neg (by omega)]
      refine c15z ?_;exact ⟨rH L h _ r,_,_,rfl,t66,(wL L h r).fJ _ _,t7,t24⟩
     intro e8 qe8;refine .sk ?_;refine .c7 [0,3,4,5,7,8,12,14,15,16,17,18,53] ?_;obtain rfl:o=true:=(by assumption);have hdr:kV L true (s8 L l ((c.calls.getD inst.toNat []).getD p.toNat 0) I).2=((c6 L (s8 L l ((c.calls.getD inst.toNat []).getD p.toNat 0) I).2 8).1,(c6 L (s8 L l ((c.calls.getD inst.toNat []).getD p.toNat 0) I).2 8).2):=rfl;have hk2:OkI L (c6 L (s8 L l ((c.calls.getD inst.toNat []).getD p.toNat 0) I).2 8).2:=by have:=iX (o:=true) hI1;rw[hdr]at this;exact this
     have hRs:=nI hR (by omega) hX hT hcx hqn hdr;refine c54z ?_;refine u2z ?_ ?_
     ·intro e11 qe11;refine .c7 [12,14,53] ?_;have hfin:RR=(⟨inst,false,its++[(p,(s8 L l ((c.calls.getD inst.toNat []).getD p.toNat 0) I).1)]⟩,true,(c6 L (s8 L l ((c.calls.getD inst.toNat []).getD p.toNat 0) I).2 8).2):=by exfalso;omega
      refine c15z ?_;exact ⟨rH L h _ r,_,_,rfl,t66,(wL L h r).fJ _ _,t7,t24⟩
     intro e11 qe11;refine .sk ?_;refine .c7 [0,3,4,5,7,8,12,14,15,16,17,53] ?_;have hnp:=kP (x:=((g5 u (c.insts.getD inst.toNat c9)).getD p.toNat j4)) (pc:=p.toNat) (by omega);have hnl:=nF (x:=((g5 u (c.insts.getD inst.toNat c9)).getD p.toNat j4)) (pc:=p.toNat);have hk3:=l8 hk2 (n:=((z5 ((g5 u (c.insts.getD inst.toNat c9)).getD p.toNat j4) p.toNat).length:Int)) (by omega);rw[if_neg t162,if_neg (by omega)]at hRs;have hRn:cZ L u c l inst true (20-(t+1)) (its++[(p,(s8 L l ((c.calls.getD inst.toNat []).getD p.toNat 0) I).1)]) ((z5 ((g5 u (c.insts.getD inst.toNat c9)).getD p.toNat j4) p.toNat).getD (c6 L (c6 L (s8 L l ((c.calls.getD inst.toNat []).getD p.toNat 0) I).2 8).2 (z5 ((g5 u (c.insts.getD inst.toNat c9)).getD p.toNat j4) p.toNat).length).1.toNat 0) (c6 L (c6 L (s8 L l ((c.calls.getD inst.toNat []).getD p.toNat 0) I).2 8).2 (z5 ((g5 u (c.insts.getD inst.toNat c9)).getD p.toNat j4) p.toNat).length).2=RR:=by rw[hRs];rfl
     refine c167z ?_;refine .n [] ?_;refine .c7 [0,3,4,5,7,8,12,14,15,17,19,53] ?_;refine c122z ?_;refine c30z ?_;refine .c7 [0,3,4,5,7,8,12,14,15,16,17,53] ?_;refine .rz ?_;exact ⟨_,by omega,.v ⟨(t+1),(its++[(p,(s8 L l ((c.calls.getD inst.toNat []).getD p.toNat 0) I).1)]),((z5 ((g5 u (c.insts.getD inst.toNat c9)).getD p.toNat j4) p.toNat).getD (c6 L (c6 L (s8 L l ((c.calls.getD inst.toNat []).getD p.toNat 0) I).2 8).2 (z5 ((g5 u (c.insts.getD inst.toNat c9)).getD p.toNat j4) p.toNat).length).1.toNat 0),(c6 L (c6 L (s8 L l ((c.calls.getD inst.toNat []).getD p.toNat 0) I).2 8).2 (z5 ((g5 u (c.insts.getD inst.toNat c9)).getD p.toNat j4) p.toNat).length).2,(g+1),⟨rfl,⟨by omega,by simp[hml2],X5 hu wc i0 i1 hF hX (by omega) hcit (by omega),hk3.2.2,hRn⟩⟩,rfl⟩ (he:=t115) (hl:=t120) (hk:=t64) (hr:=t37)⟩
    try simp only[e4]
    have qe4:=fact e4;refine .k 8 [(1,64),(5,68)] ?_;refine .m [(1,64),(5,68)] ?_;refine c14z ?_;refine .c7 [0,3,4,5,7,8,12,14,15,16,17,18,53] ?_;obtain rfl:o=false:=(by assumption);have hdr:kV L false (s8 L l ((c.calls.getD inst.toNat []).getD p.toNat 0) I).2=(0,(s8 L l ((c.calls.getD inst.toNat []).getD p.toNat 0) I).2):=rfl;have hk2:OkI L (s8 L l ((c.calls.getD inst.toNat []).getD p.toNat 0) I).2:=by have:=iX (o:=false) hI1;rw[hdr]at this;exact this
    have hRs:=nI hR (by omega) hX hT hcx hqn hdr;refine c54z ?_;refine u2z ?_ ?_
    ·intro e12 qe12;refine .c7 [12,14,53] ?_;have hfin:RR=(⟨inst,false,its++[(p,(s8 L l ((c.calls.getD inst.toNat []).getD p.toNat 0) I).1)]⟩,true,(s8 L l ((c.calls.getD inst.toNat []).getD p.toNat 0) I).2):=by rw[hRs,if_neg (by rintro ⟨e1,e2⟩;cases e1),if_pos (by omega)]
     refine c15z ?_;exact ⟨rH L h _ r,_,_,rfl,t66,(wL L h r).fJ _ _,t7,t24⟩
    intro e12 qe12;refine .sk ?_;refine .c7 [0,3,4,5,7,8,12,14,15,16,17,53] ?_;have hnp:=kP (x:=((g5 u (c.insts.getD inst.toNat c9)).getD p.toNat j4)) (pc:=p.toNat) (by omega);have hnl:=nF (x:=((g5 u (c.insts.getD inst.toNat c9)).getD p.toNat j4)) (pc:=p.toNat);have hk3:=l8 hk2 (n:=((z5 ((g5 u (c.insts.getD inst.toNat c9)).getD p.toNat j4) p.toNat).length:Int)) (by omega);rw[if_neg t162,if_neg (by omega)]at hRs;have hRn:cZ L u c l inst false (20-(t+1)) (its++[(p,(s8 L l ((c.calls.getD inst.toNat []).getD p.toNat 0) I).1)]) ((z5 ((g5 u (c.insts.getD inst.toNat c9)).getD p.toNat j4) p.toNat).getD (c6 L (s8 L l ((c.calls.getD inst.toNat []).getD p.toNat 0) I).2 (z5 ((g5 u (c.insts.getD inst.toNat c9)).getD p.toNat j4) p.toNat).length).1.toNat 0) (c6 L (s8 L l ((c.calls.getD inst.toNat []).getD p.toNat 0) I).2 (z5 ((g5 u (c.insts.getD inst.toNat c9)).getD p.toNat j4) p.toNat).length).2=RR:=by rw[hRs];rfl
    refine c167z ?_;refine .n [] ?_;refine .c7 [0,3,4,5,7,8,12,14,15,17,19,53] ?_;refine c122z ?_;refine c30z ?_;refine .c7 [0,3,4,5,7,8,12,14,15,16,17,53] ?_;refine .rz ?_;exact ⟨_,by omega,.v ⟨(t+1),(its++[(p,(s8 L l ((c.calls.getD inst.toNat []).getD p.toNat 0) I).1)]),((z5 ((g5 u (c.insts.getD inst.toNat c9)).getD p.toNat j4) p.toNat).getD (c6 L (s8 L l ((c.calls.getD inst.toNat []).getD p.toNat 0) I).2 (z5 ((g5 u (c.insts.getD inst.toNat c9)).getD p.toNat j4) p.toNat).length).1.toNat 0),(c6 L (s8 L l ((c.calls.getD inst.toNat []).getD p.toNat 0) I).2 (z5 ((g5 u (c.insts.getD inst.toNat c9)).getD p.toNat j4) p.toNat).length).2,(g+1),⟨rfl,⟨by omega,by simp[hml2],X5 hu wc i0 i1 hF hX (by omega) hcit (by omega),hk3.2.2,hRn⟩⟩,rfl⟩ (he:=t115) (hl:=t120) (hk:=t64) (hr:=t37)⟩
   intro e2 qe2;refine c100z ?_;refine .c7 [0,3,4,5,7,8,12,14,15,16,17,18] ?_;have hcx:qP L l ((g5 u (c.insts.getD inst.toNat c9)).getD p.toNat j4).op ((c.calls.getD inst.toNat []).getD p.toNat 0) I=((-1),I):=citX_n (by omega);have hI1:OkI L I:=by have:=O8 (l:=l) (op:=((g5 u (c.insts.getD inst.toNat c9)).getD p.toNat j4).op) (tgt:=((c.calls.getD inst.toNat []).getD p.toNat 0)) hI;rw[hcx]at this;exact this
   have hqn:¬(((g5 u (c.insts.getD inst.toNat c9)).getD p.toNat j4).op=2∧(-1)<0):=by omega
   have hcit:=IU hF hI hX hT hcx hqn;refine c39z ?_;refine .spl 64 rfl rfl (fun e13=>?_) (fun e13=>?_)
   ·try simp only[e13]
    have qe13:=fact e13;refine .k 1 [(1,64)] ?_;refine .ch rfl rfl (tX _ _ 8 hI1 hL (by omega) (by omega)) ?_;refine .k 2 [(1,64)] ?_;refine .spl 68 rfl rfl (fun e14=>?_) (fun e14=>?_)
    ·try simp only[e14]
     have qe14:=fact e14;refine .m [(1,64),(5,68)] ?_;refine .T ?_;refine .seq ?_;refine .c7 [0,12,14,15,16,18] ?_;obtain rfl:o=true:=(by assumption);have hdr:kV L true I=((c6 L I 8).1,(c6 L I 8).2):=rfl;have hk2:OkI L (c6 L I 8).2:=by have:=iX (o:=true) hI1;rw[hdr]at this;exact this
     have hRs:=nI hR (by omega) hX hT hcx hqn hdr;refine .s ?_;refine .e 7 ?_;refine .spl 83 rfl rfl (fun e15=>?_) (fun e15=>?_)
     ·try simp only[e15]
      have qe15:=fact e15;refine c102z ?_;refine .m [(6,83)] ?_;refine u2z ?_ ?_
      ·intro e16 qe16;refine .c7 [12,14,18] ?_;refine .z ?_;refine c2z ?_;refine .c7 [12,14] ?_;have hfin:RR=(⟨inst,false,its++[(p,(-1))]⟩,true,(c6 L (c6 L I 8).2 2).2):=by rw[hRs,if_pos ⟨by simp_all,by omega⟩,if_pos (by omega),if_pos (by omega)]
       refine c15z ?_;exact ⟨rH L h _ r,_,_,rfl,t66,(wL L h r).fJ _ _,t7,t24⟩
      intro e16 qe16;refine .sk ?_;refine .c7 [12,14] ?_;have hfin:RR=(⟨inst,true,its⟩,true,(c6 L (c6 L I 8).2 2).2):=by rw[hRs,if_pos ⟨by simp_all,by omega⟩,if_pos (by omega),if_neg (by omega)]
      refine c15z ?_;exact ⟨rH L h _ r,_,_,rfl,t66,(wL L h r).fJ _ _,t7,t24⟩
     try simp only[e15]
     have qe15:=fact e15;refine .m [(6,83)] ?_;refine c14z ?_;refine .c7 [12,14] ?_;have hfin:RR=(⟨inst,true,its⟩,true,(c6 L I 8).2):=by rw[hRs,if_pos ⟨by simp_all,by omega⟩,if_neg (by omega)]
     refine c15z ?_;exact ⟨rH L h _ r,_,_,rfl,t66,(wL L h r).fJ _ _,t7,t24⟩
    try simp only[e14]
    have qe14:=fact e14;refine .m [(1,64),(5,68)] ?_;refine u2z ?_ ?_
    ·intro e17 qe17;refine .seq ?_;refine .c7 [0,12,14,15,16,18] ?_;obtain rfl:o=true:=(by assumption);have hdr:kV L true I=((c6 L I 8).1,(c6 L I 8).2):=rfl;have hk2:OkI L (c6 L I 8).2:=by have:=iX (o:=true) hI1;rw[hdr]at this;exact this
     have hRs:=nI hR (by omega) hX hT hcx hqn hdr;refine .s ?_;refine .e 7 ?_;refine .spl 83 rfl rfl (fun e18=>?_) (fun e18=>?_)
     ·try simp only[e18]
      have qe18:=fact e18;refine c102z ?_;refine .m [(6,83)] ?_;refine u2z ?_ ?_
      ·intro e19 qe19;refine .c7 [12,14,18] ?_;refine .z ?_;refine c2z ?_;refine .c7 [12,14] ?_;have hfin:RR=(⟨inst,false,its++[(p,(-1))]⟩,true,(c6 L (c6 L I 8).2 2).2):=by rw[hRs,if_pos ⟨by simp_all,by omega⟩,if_pos (by omega),if_pos (by omega)]
       refine c15z ?_;exact ⟨rH L h _ r,_,_,rfl,t66,(wL L h r).fJ _ _,t7,t24⟩
      intro e19 qe19;refine .sk ?_;refine .c7 [12,14] ?_;have hfin:RR=(⟨inst,true,its⟩,true,(c6 L (c6 L I 8).2 2).2):=by rw[hRs,if_pos ⟨by simp_all,by omega⟩,if_pos (by omega),if_neg (by omega)]
      refine c15z ?_;exact ⟨rH L h _ r,_,_,rfl,t66,(wL L h r).fJ _ _,t7,t24⟩
     try simp only[e18]
     have qe18:=fact e18;refine .m [(6,83)] ?_;refine c14z ?_;refine .c7 [12,14] ?_;have hfin:RR=(⟨inst,true,its⟩,true,(c6 L I 8).2):=by rw[hRs,if_pos ⟨by simp_all,by omega⟩,if_neg (by omega)]
     refine c15z ?_;exact ⟨rH L h _ r,_,_,rfl,t66,(wL L h r).fJ _ _,t7,t24⟩
    intro e17 qe17;refine .sk ?_;refine .c7 [0,3,4,5,7,8,12,14,15,16,17,18] ?_;obtain rfl:o=true:=(by assumption);have hdr:kV L true I=((c6 L I 8).1,(c6 L I 8).2):=rfl;have hk2:OkI L (c6 L I 8).2:=by have:=iX (o:=true) hI1;rw[hdr]at this;exact this
    have hRs:=nI hR (by omega) hX hT hcx hqn hdr;refine c54z ?_;refine u2z ?_ ?_
    ·intro e20 qe20;refine .c7 [12,14] ?_;have hfin:RR=(⟨inst,false,its++[(p,(-1))]⟩,true,(c6 L I 8).2):=by exfalso;omega
     refine c15z ?_;exact ⟨rH L h _ r,_,_,rfl,t66,(wL L h r).fJ _ _,t7,t24⟩
    intro e20 qe20;refine .sk ?_;refine .c7 [0,3,4,5,7,8,12,14,15,16,17] ?_;have hnp:=kP (x:=((g5 u (c.insts.getD inst.toNat c9)).getD p.toNat j4)) (pc:=p.toNat) (by omega);have hnl:=nF (x:=((g5 u (c.insts.getD inst.toNat c9)).getD p.toNat j4)) (pc:=p.toNat);have hk3:=l8 hk2 (n:=((z5 ((g5 u (c.insts.getD inst.toNat c9)).getD p.toNat j4) p.toNat).length:Int)) (by omega);rw[if_neg t162,if_neg (by omega)]at hRs;have hRn:cZ L u c l inst true (20-(t+1)) (its++[(p,(-1))]) ((z5 ((g5 u (c.insts.getD inst.toNat c9)).getD p.toNat j4) p.toNat).getD (c6 L (c6 L I 8).2 (z5 ((g5 u (c.insts.getD inst.toNat c9)).getD p.toNat j4) p.toNat).length).1.toNat 0) (c6 L (c6 L I 8).2 (z5 ((g5 u (c.insts.getD inst.toNat c9)).getD p.toNat j4) p.toNat).length).2=RR:=by rw[hRs];rfl
    refine c167z ?_;refine .n [] ?_;refine .c7 [0,3,4,5,7,8,12,14,15,17,19] ?_;refine c122z ?_;refine c30z ?_;refine .c7 [0,3,4,5,7,8,12,14,15,16,17] ?_;refine .rz ?_;exact ⟨_,by omega,.v ⟨(t+1),(its++[(p,(-1))]),((z5 ((g5 u (c.insts.getD inst.toNat c9)).getD p.toNat j4) p.toNat).getD (c6 L (c6 L I 8).2 (z5 ((g5 u (c.insts.getD inst.toNat c9)).getD p.toNat j4) p.toNat).length).1.toNat 0),(c6 L (c6 L I 8).2 (z5 ((g5 u (c.insts.getD inst.toNat c9)).getD p.toNat j4) p.toNat).length).2,(g+1),⟨rfl,⟨by omega,by simp[hml2],X5 hu wc i0 i1 hF hX (by omega) hcit (by omega),hk3.2.2,hRn⟩⟩,rfl⟩ (he:=t115) (hl:=t120) (hk:=t64) (hr:=t37)⟩
   try simp only[e13]
   have qe13:=fact e13;refine .k 8 [(1,64),(5,68)] ?_;refine .m [(1,64),(5,68)] ?_;refine c14z ?_;refine .c7 [0,3,4,5,7,8,12,14,15,16,17,18] ?_;obtain rfl:o=false:=(by assumption);have hdr:kV L false I=(0,I):=rfl;have hk2:OkI L I:=by have:=iX (o:=false) hI1;rw[hdr]at this;exact this
   have hRs:=nI hR (by omega) hX hT hcx hqn hdr;refine c54z ?_;refine u2z ?_ ?_
   ·intro e21 qe21;refine .c7 [12,14] ?_;have hfin:RR=(⟨inst,false,its++[(p,(-1))]⟩,true,I):=by rw[hRs,if_neg (by rintro ⟨e1,e2⟩;cases e1),if_pos (by omega)]
    refine c15z ?_;exact ⟨rH L h _ r,_,_,rfl,t66,(wL L h r).fJ _ _,t7,t24⟩
   intro e21 qe21;refine .sk ?_;refine .c7 [0,3,4,5,7,8,12,14,15,16,17] ?_;have hnp:=kP (x:=((g5 u (c.insts.getD inst.toNat c9)).getD p.toNat j4)) (pc:=p.toNat) (by omega);have hnl:=nF (x:=((g5 u (c.insts.getD inst.toNat c9)).getD p.toNat j4)) (pc:=p.toNat);have hk3:=l8 hk2 (n:=((z5 ((g5 u (c.insts.getD inst.toNat c9)).getD p.toNat j4) p.toNat).length:Int)) (by omega);rw[if_neg t162,if_neg (by omega)]at hRs;have hRn:cZ L u c l inst false (20-(t+1)) (its++[(p,(-1))]) ((z5 ((g5 u (c.insts.getD inst.toNat c9)).getD p.toNat j4) p.toNat).getD (c6 L I (z5 ((g5 u (c.insts.getD inst.toNat c9)).getD p.toNat j4) p.toNat).length).1.toNat 0) (c6 L I (z5 ((g5 u (c.insts.getD inst.toNat c9)).getD p.toNat j4) p.toNat).length).2=RR:=by rw[hRs];rfl
   refine c167z ?_;refine .n [] ?_;refine .c7 [0,3,4,5,7,8,12,14,15,17,19] ?_;refine c122z ?_;refine c30z ?_;refine .c7 [0,3,4,5,7,8,12,14,15,16,17] ?_;refine .rz ?_;exact ⟨_,by omega,.v ⟨(t+1),(its++[(p,(-1))]),((z5 ((g5 u (c.insts.getD inst.toNat c9)).getD p.toNat j4) p.toNat).getD (c6 L I (z5 ((g5 u (c.insts.getD inst.toNat c9)).getD p.toNat j4) p.toNat).length).1.toNat 0),(c6 L I (z5 ((g5 u (c.insts.getD inst.toNat c9)).getD p.toNat j4) p.toNat).length).2,(g+1),⟨rfl,⟨by omega,by simp[hml2],X5 hu wc i0 i1 hF hX (by omega) hcit (by omega),hk3.2.2,hRn⟩⟩,rfl⟩ (he:=t115) (hl:=t120) (hk:=t64) (hr:=t37)⟩
  intro e1 qe1;refine c10z ?_;refine .c7 [5,12,14] ?_;have hfin:RR=(⟨inst,o,its⟩,o,I):=by exact ruleF_0 hR (by omega)
  refine c15z ?_;exact ⟨rH L h _ r,_,_,rfl,t66,(wL L h r).fJ _ _,t7,t24⟩
end Go.Proofs.YtapdldekgbbomaaGreatDoor
end
section
namespace Go.Proofs.YtapdldekgbbomaaGreatDoor
open Go.Ab Go.Un
variable {u:Un}{c:Clo}
theorem IY (wc:WC u c):c.roots.length≤64:=by
  have h:=zE (fun _=>1) (l:=c.roots) (u:=(List.range c.insts.length).map fun i:Nat=>(i:Int)) (wc.rs.imp fun h e=>by omega) fun r hr=>by have:=wc.rr r hr;exact List.mem_map.2 ⟨r.toNat,List.mem_range.2 (by omega),by omega⟩
  have one:∀l:List Int,(l.map fun _=>1).sum=l.length:=fun l=>by induction l with
    | nil=>rfl
    | cons x l ih=>simp only[List.map_cons,List.sum_cons,List.length_cons,ih];omega
  rw[one,one,List.length_map,List.length_range]at h;have:=wc.len;omega
def xN (e K g f:Nat):List AV→Blk
  | []=>⟨g,true,0,0,[],0⟩
  | z::zs=>⟨g,false,e,K,z::zs,f⟩
variable {g f:Nat}
theorem oW {e K:Nat}{zs:List AV}(h:zs≠[]):xN e K g f zs=⟨g,false,e,K,zs,f⟩:=by
  cases zs with
  | nil=>exact absurd rfl h
  | cons z zs=>rfl
theorem QP {l:List Int}(h:0<l.length):List.take 1 (l5 l)=[AV.int .i64 (l.getD 0 0)]:=by
  cases l with
  | nil=>simp at h
  | cons x l=>rfl
variable {l:List Ru}
theorem jK (h:l≠[]):g8 l≠[]:=fun e=>by have:=congrArg List.length e;rw[u4]at this;have:l.length≠0:=fun h0=>h (List.length_eq_zero_iff.1 h0);simp only[List.length_nil] at*;omega
theorem rV (l:List Ru):aO (g8 l):=aO.flat fun _=>aO.cons .int (aO.cons .bool (aO.cons .vec aO.nil))
variable {n:Nat}
theorem IZ {e K:Nat}:∀x∈(xN e K g f (g8 l)).cells,Refs n x:=by
  cases h:g8 l with
  | nil=>intro x hx;simp[xN]at hx
  | cons z zs=>show ∀x∈z::zs,Refs n x;rw[←h];exact (rV l).refs _
variable {h:c8}
theorem JA {f:FuncId}{args args':List AV}{Q:AV→c8→Prop}{β:Nat}(ha:J6 β g 0 0 [] args' args)(r:l6 Tryz.prog cfg f args' h Q):l6 Tryz.prog cfg f args h Q:=by
  intro B φ w cargs i hs hr;obtain ⟨k1,k2⟩:=ha.get;refine r B φ w cargs i t214 fun j v y h1 h2=>?_;have hj:j<args.length:=by rw[←k1];exact (List.getElem?_eq_some_iff.1 h2).1
  have hx:args[j]?=some args[j]:=List.getElem?_eq_getElem hj;rcases k2 j y _ h2 hx with rfl | ⟨e1,rfl⟩
  · exact hr j v _ h1 hx
  · have q:=hr j v _ h1 hx
    rw[e1]at q;cases q with
    | pure hp=>cases hp
    | own _ _ _ _ cap ad b2 hb2 hg2 hlc hcm had hn hvv=>exact .pure (.wN _ _)
variable {L:List Int}
theorem JB {h:c8}{a0 a1 a2 a7 a8:Blk}(I0:Int)(hI0:OkI L I0)(hL:L.length<4611686018427387904)(hu:WU u)(wc:WC u c)(hl:l.length<1000)(hit:∀r∈l,r.items.length<1000000)(inst:Int)(i0:0≤inst)(i1:inst<c.insts.length)(o:Bool) :
    l6 Tryz.prog cfg 30 [.ptr (h.length+3) 0 0,.agg [.vec u.globals.length (l5 u.globals),.vec u.c5.length (j6 u.c5),.vec u.procs.length (n8 u.procs),.int .i64 u.main],.agg [.vec c.insts.length (p6 c.insts),.vec c.calls.length (s6 c.calls),.vec c.roots.length (l5 c.roots)],.vec l.length (g8 l),.int .i64 inst,.bool o] (h++[a0,a1,a2,⟨0,false,78,2,[.vec L.length (l5 L),.int .i64 I0],0⟩,a7,a8]) (fun y' h'=>y'=.tup [.agg (kR (cZ L u c l inst o 20 [] 0 I0).1),.bool (cZ L u c l inst o 20 [] 0 I0).2.1]∧h'=h++[a0,a1,a2,⟨0,false,78,2,[.vec L.length (l5 L),.int .i64 (cZ L u c l inst o 20 [] 0 I0).2.2],0⟩,a7,a8]):=by
  have q:=TY (h:=h++[a0,a1,a2]) (r:=[a7,a8]) I0 hI0 hL hu wc hl hit inst i0 i1 o;unfold rH at q;replace q:=s10z q;exact q
theorem X6 {h:c8}{a0 a1 a2 a7 a8 a9:Blk}(I0:Int)(hI0:OkI L I0)(hL:L.length<4611686018427387904)(hu:WU u)(wc:WC u c)(hl:l.length<1000)(hit:∀r∈l,r.items.length<1000000)(inst:Int)(i0:0≤inst)(i1:inst<c.insts.length)(o:Bool) :
    l6 Tryz.prog cfg 30 [.ptr (h.length+3) 0 0,.agg [.vec u.globals.length (l5 u.globals),.vec u.c5.length (j6 u.c5),.vec u.procs.length (n8 u.procs),.int .i64 u.main],.agg [.vec c.insts.length (p6 c.insts),.vec c.calls.length (s6 c.calls),.vec c.roots.length (l5 c.roots)],.vec l.length (g8 l),.int .i64 inst,.bool o] (h++[a0,a1,a2,⟨0,false,78,2,[.vec L.length (l5 L),.int .i64 I0],0⟩,a7,a8,a9]) (fun y' h'=>y'=.tup [.agg (kR (cZ L u c l inst o 20 [] 0 I0).1),.bool (cZ L u c l inst o 20 [] 0 I0).2.1]∧h'=h++[a0,a1,a2,⟨0,false,78,2,[.vec L.length (l5 L),.int .i64 (cZ L u c l inst o 20 [] 0 I0).2.2],0⟩,a7,a8,a9]):=by
  have q:=TY (h:=h++[a0,a1,a2]) (r:=[a7,a8,a9]) I0 hI0 hL hu wc hl hit inst i0 i1 o;unfold rH at q;replace q:=s10z q;exact q
variable {a0 a1 a2:Blk}
theorem fam3 (h rest:c8):aY (h.length+3) L (h.length+(rest.length+4)) fun I=>h++(a0::a1::a2::⟨0,false,78,2,[.vec L.length (l5 L),.int .i64 I],0⟩::rest):=⟨fun _=>by rw[o7];rfl,fun _ _=>by rw[n7];rfl,fun _=>by simp⟩
theorem A8 {rest:c8}(I n:Int)(hI:OkI L I)(hL:L.length<4611686018427387904)(hn:0<n)(hm:n≤4611686018427387904):CH 29 [.ptr (h.length+3) 0 0,.int .i64 n] (h++(a0::a1::a2::⟨0,false,78,2,[.vec L.length (l5 L),.int .i64 I],0⟩::rest)) (.int .i64 (c6 L I n).1) (h++(a0::a1::a2::⟨0,false,78,2,[.vec L.length (l5 L),.int .i64 (c6 L I n).2],0⟩::rest)):=sF (fam3 h rest) I n hI hL hn hm
theorem JC {h:c8}{a0 a1 a2 a7:Blk}(I0:Int)(hI0:OkI L I0)(hL:L.length<4611686018427387904)(hu:WU u)(wc:WC u c)(hl:l.length<1000)(hit:∀r∈l,r.items.length<1000000)(inst:Int)(i0:0≤inst)(i1:inst<c.insts.length)(o:Bool){g:Nat}(hn:l.length=n)(hf:f≤l.length*3) :
    l6 Tryz.prog cfg 30 [.ptr (h.length+3) 0 0,.agg [.vec u.globals.length (l5 u.globals),.vec u.c5.length (j6 u.c5),.vec u.procs.length (n8 u.procs),.int .i64 u.main],.agg [.vec c.insts.length (p6 c.insts),.vec c.calls.length (s6 c.calls),.vec c.roots.length (l5 c.roots)],.own (h.length+5) g 0 n,.int .i64 inst,.bool o] (h++[a0,a1,a2,⟨0,false,78,2,[.vec L.length (l5 L),.int .i64 I0],0⟩,a7,(xN 53 3 g f (g8 l))]) (fun y' h'=>y'=.tup [.agg (kR (cZ L u c l inst o 20 [] 0 I0).1),.bool (cZ L u c l inst o 20 [] 0 I0).2.1]∧h'=(h++[a0,a1,a2,⟨0,false,78,2,[.vec L.length (l5 L),.int .i64 (cZ L u c l inst o 20 [] 0 I0).2.2],0⟩,a7,(xN 53 3 g (l.length*3) (g8 l))])):=by
  subst hn;cases l with
  | nil=>exact JA (β:=h.length+5) (g:=g) (args':=[.ptr (h.length+3) 0 0,.agg [.vec u.globals.length (l5 u.globals),.vec u.c5.length (j6 u.c5),.vec u.procs.length (n8 u.procs),.int .i64 u.main],.agg [.vec c.insts.length (p6 c.insts),.vec c.calls.length (s6 c.calls),.vec c.roots.length (l5 c.roots)],.vec 0 [],.int .i64 inst,.bool o]) ⟨.inl rfl,.inl rfl,.inl rfl,.inr ⟨rfl,rfl⟩,.inl rfl,.inl rfl,trivial⟩ (JB (l:=[]) I0 hI0 hL hu wc hl hit inst i0 i1 o)
  | cons r l=>
    have e1:xN 53 3 g f (g8 (r::l))=⟨g,false,53,3,g8 (r::l),f⟩:=oW (jK (by simp));have e2:xN 53 3 g ((r::l).length*3) (g8 (r::l))=⟨g,false,53,3,g8 (r::l),(r::l).length*3⟩:=oW (jK (by simp));rw[e1,e2];refine l6.yP (β:=h.length+5) (off:=0) (len:=(r::l).length) (cs:=g8 (r::l)) (b:=⟨g,false,53,3,g8 (r::l),f⟩) (args':=[.ptr (h.length+3) 0 0,.agg [.vec u.globals.length (l5 u.globals),.vec u.c5.length (j6 u.c5),.vec u.procs.length (n8 u.procs),.int .i64 u.main],.agg [.vec c.insts.length (p6 c.insts),.vec c.calls.length (s6 c.calls),.vec c.roots.length (l5 c.roots)],.vec (r::l).length (g8 (r::l)),.int .i64 inst,.bool o]) t30 rfl t211 ?_ ⟨.inl rfl,.inl rfl,.inl rfl,.inr ⟨rfl,rfl⟩,.inl rfl,.inl rfl,trivial⟩ ?_
    · simp only[List.drop_zero]
      rw[List.take_of_length_le t212];exact (rV _).KC
    · have e3:dN ⟨g,false,53,3,g8 (r::l),f⟩ (0+(r::l).length*3)=⟨g,false,53,3,g8 (r::l),(r::l).length*3⟩:=by simp only[dN,Nat.zero_add,Nat.max_eq_right hf]
      simp only[e3,n7,List.set_cons_succ,List.set_cons_zero];exact JB I0 hI0 hL hu wc hl hit inst i0 i1 o
theorem X7 {h:c8}{a0 a1 a2 a7 a9:Blk}(I0:Int)(hI0:OkI L I0)(hL:L.length<4611686018427387904)(hu:WU u)(wc:WC u c)(hl:l.length<1000)(hit:∀r∈l,r.items.length<1000000)(inst:Int)(i0:0≤inst)(i1:inst<c.insts.length)(o:Bool){g:Nat}(hn:l.length=n)(hf:f≤l.length*3) :
    l6 Tryz.prog cfg 30 [.ptr (h.length+3) 0 0,.agg [.vec u.globals.length (l5 u.globals),.vec u.c5.length (j6 u.c5),.vec u.procs.length (n8 u.procs),.int .i64 u.main],.agg [.vec c.insts.length (p6 c.insts),.vec c.calls.length (s6 c.calls),.vec c.roots.length (l5 c.roots)],.own (h.length+5) g 0 n,.int .i64 inst,.bool o] (h++[a0,a1,a2,⟨0,false,78,2,[.vec L.length (l5 L),.int .i64 I0],0⟩,a7,(xN 53 3 g f (g8 l)),a9]) (fun y' h'=>y'=.tup [.agg (kR (cZ L u c l inst o 20 [] 0 I0).1),.bool (cZ L u c l inst o 20 [] 0 I0).2.1]∧h'=(h++[a0,a1,a2,⟨0,false,78,2,[.vec L.length (l5 L),.int .i64 (cZ L u c l inst o 20 [] 0 I0).2.2],0⟩,a7,(xN 53 3 g (l.length*3) (g8 l)),a9])):=by
  subst hn;cases l with
  | nil=>exact JA (β:=h.length+5) (g:=g) (args':=[.ptr (h.length+3) 0 0,.agg [.vec u.globals.length (l5 u.globals),.vec u.c5.length (j6 u.c5),.vec u.procs.length (n8 u.procs),.int .i64 u.main],.agg [.vec c.insts.length (p6 c.insts),.vec c.calls.length (s6 c.calls),.vec c.roots.length (l5 c.roots)],.vec 0 [],.int .i64 inst,.bool o]) ⟨.inl rfl,.inl rfl,.inl rfl,.inr ⟨rfl,rfl⟩,.inl rfl,.inl rfl,trivial⟩ (X6 (l:=[]) I0 hI0 hL hu wc hl hit inst i0 i1 o)
  | cons r l=>
    have e1:xN 53 3 g f (g8 (r::l))=⟨g,false,53,3,g8 (r::l),f⟩:=oW (jK (by simp));have e2:xN 53 3 g ((r::l).length*3) (g8 (r::l))=⟨g,false,53,3,g8 (r::l),(r::l).length*3⟩:=oW (jK (by simp));rw[e1,e2];refine l6.yP (β:=h.length+5) (off:=0) (len:=(r::l).length) (cs:=g8 (r::l)) (b:=⟨g,false,53,3,g8 (r::l),f⟩) (args':=[.ptr (h.length+3) 0 0,.agg [.vec u.globals.length (l5 u.globals),.vec u.c5.length (j6 u.c5),.vec u.procs.length (n8 u.procs),.int .i64 u.main],.agg [.vec c.insts.length (p6 c.insts),.vec c.calls.length (s6 c.calls),.vec c.roots.length (l5 c.roots)],.vec (r::l).length (g8 (r::l)),.int .i64 inst,.bool o]) t30 rfl t211 ?_ ⟨.inl rfl,.inl rfl,.inl rfl,.inr ⟨rfl,rfl⟩,.inl rfl,.inl rfl,trivial⟩ ?_
    · simp only[List.drop_zero]
      rw[List.take_of_length_le t212];exact (rV _).KC
    · have e3:dN ⟨g,false,53,3,g8 (r::l),f⟩ (0+(r::l).length*3)=⟨g,false,53,3,g8 (r::l),(r::l).length*3⟩:=by simp only[dN,Nat.zero_add,Nat.max_eq_right hf]
      simp only[e3,n7,List.set_cons_succ,List.set_cons_zero];exact X6 I0 hI0 hL hu wc hl hit inst i0 i1 o
variable {a9:Blk}
theorem QQ {a3 a4:Blk}{l':c8}{q:Nat}{r:Ru}(hz:l.length=n)(hf:f≤n*3)(hn:n<1000):j5 cfg 53 (h++(a0::a1::a2::a3::a4::(xN 53 3 g f (g8 l))::a9::⟨q,false,53,3,kR r,0⟩::l')) (.own (h.length+5) g 0 n) (.own (h.length+7) q 0 1)=some (.own (h.length+5) (g+1) 0 (n+1),h++(a0::a1::a2::a3::a4::(xN 53 3 (g+1) f (g8 (l++[r])))::a9::⟨q,false,53,3,kR r,0⟩::l')):=by
  subst hz;have e1:cfg.sz 53=3:=rfl;have e2:(cfg.ti 53).bytes=40:=rfl;have hm:l.length+1≤maxLen:=by
    have:(1001:Nat)≤maxLen:=by decide
    omega
  have hb:(l.length+1)*40≤140737488355328:=by omega
  have hx:(kR r).length=3:=rfl;cases l with
  | nil=>
    have hf0:f=0:=by simp only[List.length_nil]at hf;omega
    subst hf0;simp only[List.length_nil,Nat.zero_add]at hm hb;simp[j5,rd,lenOf,e1,e2,hm,hb,hx,xN,g8,kR,o7,n7]
  | cons x l=>
    have h1:xN 53 3 g f (g8 (x::l))=⟨g,false,53,3,g8 (x::l),f⟩:=oW (jK (by simp));have h2:xN 53 3 (g+1) f (g8 (x::l++[r]))=⟨g+1,false,53,3,g8 (x::l++[r]),f⟩:=oW (jK (by simp));have h3:g8 (x::l++[r])=g8 (x::l)++kR r:=by simp[g8]
    have ht:List.take ((x::l).length*3) (g8 (x::l))=g8 (x::l):=List.take_of_length_le t212;have hle:(x::l).length*3≤(g8 (x::l)).length:=by rw[u4];omega
    have hnl:¬((x::l).length+1)*3≤(g8 (x::l)).length:=by rw[u4];omega
    rw[h1,h2,h3];simp only[j5,rd,lenOf,e1,e2,o7,n7,List.getElem?_cons_succ,List.getElem?_cons_zero,List.set_cons_succ,List.set_cons_zero];generalize g8 (x::l)=zs at*;generalize (x::l).length=n at*;have hx3:List.take 3 (kR r)=kR r:=rfl;simp[e1,e2,hm,hb,hx,ht,hle,hnl,hf,hx3]
theorem app_ru8 {a3 a4:Blk}{l':c8}{q:Nat}{r:Ru}(hz:l.length=n)(hf:f≤n*3)(hn:n<1000):j5 cfg 53 (h++(a0::a1::a2::a3::a4::(xN 53 3 g f (g8 l))::a9::⟨q,false,53,3,[.int .i64 r.inst,.bool r.op',.vec r.items.length (j0 r.items)],0⟩::l')) (.own (h.length+5) g 0 n) (.own (h.length+7) q 0 1)=some (.own (h.length+5) (g+1) 0 (n+1),h++(a0::a1::a2::a3::a4::(xN 53 3 (g+1) f (g8 (l++[r])))::a9::⟨q,false,53,3,[.int .i64 r.inst,.bool r.op',.vec r.items.length (j0 r.items)],0⟩::l')):=QQ hz hf hn
theorem H5 {N β len:Nat}{H:c8}{a b c d:Int}(hb:H[β]?=some (xN 53 3 g f (g8 l)))(hN:N≤β)(hl:l.length=len)(h0:l≠[]):gT N H 6 (.agg [.int .i64 a,.int .i64 b,.int .i64 c,.int .i64 d,.own β g 0 len])=some (.agg [.int .i64 a,.int .i64 b,.int .i64 c,.int .i64 d,.vec len (g8 l)]):=by
  subst hl;rw[oW (jK h0)]at hb;have e:gT N H 5 (.own β g 0 l.length)=some (.vec l.length (g8 l)):=by
    have h1:l.length*3≤(g8 l).length:=by rw[u4];omega
    have h2:List.take (l.length*3) (g8 l)=g8 l:=List.take_of_length_le t212;rw[cW,if_neg (by omega),gQ,hb];simp only[List.drop_zero,Nat.zero_add,h1,h2,(rV l).frz _ _ _];simp[hN]
  rw[lE];simp only[s5,iN,e,Option.map_some]
attribute [local go_sem] rd Int.natCast_nonneg Int.natCast_inj Int.toNat_natCast_add_one mnI mxI wrap64 qS max2 u4 u3 bB kH iR iS iT lU iU iV lV eA w8 aJ w6 q9 cQ n6 dW dX cP gR fV lZ hU oF n6 app_ru8 hU kR QP
theorem c_cert (hu:WU u)(wc:WC u c)(L0:List Int)(hL0:L0.length<4611686018427387904)(mt:Int):l6 Tryz.prog cfg 8 [.agg [.vec u.globals.length (l5 u.globals),.vec u.c5.length (j6 u.c5),.vec u.procs.length (n8 u.procs),.int .i64 u.main],.agg [.vec c.insts.length (p6 c.insts),.vec c.calls.length (s6 c.calls),.vec c.roots.length (l5 c.roots)],.vec L0.length (l5 L0),.int .i64 mt] h (fun y' h'=>(y'=.agg [.int .i64 mt,.int .i64 (rU (L0.take 200) u c).1.inst,.int .i64 (A6 u c (rU (L0.take 200) u c).1),.int .i64 0,.vec (vX (L0.take 200) u c).length (g8 (vX (L0.take 200) u c))])∧h'=h):=by
  refine .bz Tryz.f8 113 ?_;have hml:=hu.ml;have hwl:=wc.len;have hwc:=wc.cl;have hrl:=wc.rl;have hrc:=IY wc;refine c199z ?_;refine .ca rfl rfl (c_cut L0 200 (by omega)) ?_;refine .n ?_;have hLl:(L0.take 200).length≤200:=by rw[List.length_take];exact Nat.min_le_left _ _
  generalize L0.take 200=L at*;have hL:L.length<4611686018427387904:=by omega
  have hI0:OkI L 0:=⟨Int.le_refl _,by omega⟩;have h5:=l8 hI0 (n:=5) (by omega);obtain ⟨Nn,hNn,hNn2⟩:∃n:Nat,1+(c6 L 0 5).1=(n:Int)∧n≤5:=⟨(1+(c6 L 0 5).1).toNat,by omega,by omega⟩;have hCN:BY L=Nn:=by unfold BY;omega
  generalize hCC:vW L u c=CC;have hCC2:oU L u c Nn [] (c6 L 0 5).2=CC:=by rw[←hCC,vW,hCN]
  have hc0:∀i:Int,0≤i→i<c.insts.length→0<(g5 u (c.insts.getD i.toNat c9)).length:=fun i h1 h2=>by have:=(lK hu (wc.wi _ (j7 (d:=c9) (i:=i.toNat) (by omega)))).1;omega
  refine c20z ?_;refine .c7 [4,5,8,9,10] ?_;refine c115z ?_;refine .ch rfl rfl (A8 _ 5 hI0 hL (by omega) (by omega)) ?_;refine c231z ?_;refine g7.mL (β:=h.length+4) (k:=4) t30 rfl ?_;simp only[List.append_assoc,n7,List.length_append,List.cons_append,List.nil_append,List.set_cons_succ,List.set_cons_zero,List.length_cons,List.length_nil,Nat.reduceAdd,Nat.zero_add,cM];refine .aW (fun m st=>∃(j:Nat) (I:Int) (l:List Ru) (g:Nat) (f:Nat),(m=j∧(j≤5∧OkI L I∧l.length+j≤5∧CeL u c l∧f≤l.length*3∧oU L u c j l I=CC))∧st=⟨mkS 113 [(4,AV.ptr h.length 0 0),(5,AV.ptr (h.length+1) 0 0),(8,AV.ptr (h.length+2) 0 0),(9,AV.ptr (h.length+3) 0 0),(10,AV.ptr (h.length+4) 0 0),(11,AV.int .i64 ((j:Nat):Int))],(h++[⟨0,false,30,4,[.vec u.globals.length (l5 u.globals),.vec u.c5.length (j6 u.c5),.vec u.procs.length (n8 u.procs),.int .i64 u.main],0⟩,⟨0,false,34,3,[.vec c.insts.length (p6 c.insts),.vec c.calls.length (s6 c.calls),.vec c.roots.length (l5 c.roots)],0⟩,⟨0,false,39,5,[.int .i64 0,.int .i64 0,.int .i64 0,.int .i64 0,.l7],0⟩,⟨0,false,78,2,[.vec L.length (l5 L),.int .i64 I],0⟩,⟨0,false,39,5,[.int .i64 mt,.int .i64 0,.int .i64 0,.int .i64 0,.own (h.length+5) g 0 l.length],0⟩,(xN 53 3 g f (g8 l))])⟩) (.v ⟨Nn,(c6 L 0 5).2,([]:List Ru),0,0,⟨rfl,⟨by omega,h5.2.2,t81,CeL.nil,by simp,hCC2⟩⟩,rfl⟩ (hs:=t80)) ?_ (he:=by rfl);rintro m sl h' ⟨j,I,l,g,f,⟨hm,⟨hj,hI,hlj,hC,hf,hCL⟩⟩,hst⟩;obtain ⟨rfl,rfl⟩:=St.mk.inj hst;clear hst;have hit:=hC.hit;have hnx:=l8 hI (n:=(c.insts.length:Int)) (by omega);refine c1z ?_;refine u2z ?_ ?_
  ·intro e1 qe1;refine c9z ?_;refine .sg u9 (mkH 17 [0,0,0,0,8,0,0,64,192,480,1023,2047,4095,4095,0,24575,65535] [9,10,14,15] [(14,0)] [0,512,1536,16384,16896,17920,50688] [0,1,2,3,4,5,6,7,8,9,10,11,12,13]) 1 ?_;refine z4.aF t36 ?_;refine c24z ?_;refine c81z ?_;refine .p 2 ?_;refine c96z ?_;refine .cm [true] [512,0] [_] rfl rfl t184 ?_;refine .cm [true,false] [1536,512,0] [_] rfl rfl (by simp only[kA,and_true,List.cons_append,List.nil_append];exact t104) ?_;refine .p 3 ?_;refine .en [true,true,true] [17920,16896,16384,1536,512,0] [_,_,_] ?_;refine .en [true,false,false,false,false,false] [50688,17920,16896,16384,1536,512,0] [_] ?_;refine .p 1 ?_;refine z4.pop [false,false,true,false,false,true,false] (by kernel_rfl) (by simp only[pK,and_true,List.cons_append,List.nil_append];exact ⟨cD.s9 rfl rfl rfl rfl hb30 (t104) rfl,cD.s9 rfl rfl rfl rfl hb30 (t104) rfl⟩) ?_;refine z4.pop [false,false,false,true,false,false,true] (by kernel_rfl) t122 ?_;refine .po [false,false,false,true,false,false,true] ?_;refine c121z ?_;refine .po [false,false,true,true,false,true,true] ?_;refine z4.nil rfl ?_;refine .c7 [4,5,8,9,10,11,12,13,39] ?_;have hrk:=qQ hu wc hnx.1 hnx.2.1 (o:=false) (n:=20) (its:=[]) (p:=0) (I:=(c6 L I (c.insts.length:Int)).2) (Fol.zero (l:=l) (hc0 _ (by omega) (by omega))) hnx.2.2;generalize hRF:cZ L u c l (c6 L I (c.insts.length:Int)).1 false 20 [] 0 (c6 L I (c.insts.length:Int)).2=RF at hrk ⊢;obtain ⟨r,ok,J⟩:=RF;simp only at hrk ⊢;refine .z ?_;refine u2z ?_ ?_
   ·intro e2 qe2;refine c2z ?_;refine .c7 [4,5,8,9,10,11,39] ?_;refine .rz ?_;exact ⟨_,by omega,.v ⟨(j-1),J,(l++[r]),(g+1),(l.length*3),⟨rfl,⟨by omega,hrk.oi,t142,hC.app (r:=r) (by have hrf:r.items.length≤20:=hrk.few;omega) (hrk.ok (by simp_all)),t142,certL_t hCL (by omega) hRF (by assumption)⟩⟩,rfl⟩ (he:=t168) (hk:=t134) (hs:=t80)⟩
   intro e2 qe2;refine c8z ?_;refine .rz ?_;exact ⟨_,by omega,.v ⟨(j-1),J,l,g,(l.length*3),⟨rfl,⟨by omega,hrk.oi,by omega,hC,Nat.le_refl _,certL_f hCL (by omega) hRF (by assumption)⟩⟩,rfl⟩ (he:=t168) (hk:=t134) (hs:=t80)⟩
  intro e1 qe1;refine c10z ?_;have hrx:=l8 hI (n:=(c.roots.length:Int)) (by omega);have hrr:=wc.rr (c.roots.getD (c6 L I (c.roots.length:Int)).1.toNat 0) (j7 (by omega));refine .sg u9 (mkH 21 [0,0,0,0,8,0,32,0,0,256,768,1920,4064,8160,16383,32767,65535,65535,0,393215,1048575] [11,14,18,19] [(18,0)] [0,2048,18432,262144,264192,280576,804864] [0,1,2,3,4,5,6,7,8,9,10,11,12,13,14,15,16,17]) 1 ?_;refine z4.aF t36 ?_;refine c24z ?_;refine c81z ?_;refine c139z ?_;refine c96z ?_;refine .cm [true] [2048,0] [_] rfl rfl t184 ?_;refine .p 1 ?_;refine .rm [true,false] ?_;refine .cm [true,false] [18432,2048,0] [_] rfl rfl (by simp only[kA,and_true,List.cons_append,List.nil_append];exact t74) ?_;refine .p 3 ?_;refine .en [true,true,true] [280576,264192,262144,18432,2048,0] [_,_,_] ?_;refine .en [true,false,false,false,false,false] [804864,280576,264192,262144,18432,2048,0] [_] ?_;refine .p 1 ?_;refine z4.pop [false,false,true,false,false,true,false] (by kernel_rfl) (by simp only[pK,and_true,List.cons_append,List.nil_append];exact ⟨cD.s9 rfl rfl rfl rfl hb30 (t74) rfl,cD.s9 rfl rfl rfl rfl hb30 (t74) rfl⟩) ?_;refine .po [false,false,true,false,false,true,false] ?_;refine z4.pop [false,false,false,true,false,false,true] (by kernel_rfl) t122 ?_;refine .po [false,false,false,true,false,false,true] ?_;refine c121z ?_;refine c121z ?_;refine z4.nil rfl ?_;refine .seq ?_;refine .c7 [4,5,8,10,14,15] ?_;have hrk:=qQ hu wc hrr.1 hrr.2 (o:=true) (n:=20) (its:=[]) (p:=0) (I:=(c6 L I (c.roots.length:Int)).2) (Fol.zero (l:=l) (hc0 _ (by omega) (by omega))) hrx.2.2;generalize hRF:cZ L u c l (c.roots.getD (c6 L I (c.roots.length:Int)).1.toNat 0) true 20 [] 0 (c6 L I (c.roots.length:Int)).2=RF at hrk ⊢;obtain ⟨r,ok,J⟩:=RF;simp only at hrk ⊢;obtain rfl:ok=true:=hrk.op rfl;have hCz:CC=(l,I):=certL_0 hCL (by omega);have hT:rU L u c=(r,true,J):=by unfold rU;rw[hCC,hCz];exact hRF
  have hRr:aU u c (l++[r]) l.length:=hrk.ok rfl;have hrf:r.items.length≤20:=hrk.few;have hCf:=hC.app (r:=r) (by omega) hRr;have hr0:=hRr.i0;have hr1:=hRr.i1;rw[bG]at hr0 hr1;refine .z ?_;refine .spl 70 rfl rfl (fun e3=>by exfalso;(first | cases e3 | (simp at e3))) (fun e3=>?_);try simp only[e3]
  have qe3:=fact e3;refine c142z ?_;refine .c7 [4,5,8,10,14] ?_;refine c54z ?_;refine c17z ?_;refine .spl 86 rfl rfl (fun e4=>?_) (fun e4=>?_)
  ·try simp only[e4]
   have qe4:=fact e4;refine .m [(2,86)] ?_;refine u2z ?_ ?_
   ·intro e5 qe5;refine .c7 [4,5,8,10,14,16] ?_;have w:WIt u (c.insts.getD r.inst.toNat c9):=wc.wi _ (j7 (by omega));have hon:=IP hRr (by rw[bG];assumption) (j:=r.items.length-1) (by rw[bG];omega);rw[bG]at hon;have htn:((r.items.length:Int)-1).toNat=r.items.length-1:=by omega
    rw[←htn]at hon;have hn1:=hon.1;have hn2:=hon.2.1;have hn3:=hon.2.2;refine .so u9 (mkP 19 [0,0,2,0,8,30,62,0,128,0,512,1920,3968,8064,16383,32767,65535,131071,262143] [18]) ?_;refine .k 8 [] ?_;refine .k 6 [] ?_;refine .ca rfl rfl (A3 hu w hn1 hn2) ?_;refine c74z ?_;refine .c7 [8,10] ?_;refine c15z ?_;exact ⟨_,_,rfl,H5 t30 (by omega) (by simp) (by simp),t46⟩
   intro e5 qe5;refine .c7 [8,10,14] ?_;refine .z ?_;refine u2z ?_ ?_
   ·intro e6 qe6;refine c2z ?_;refine c15z ?_;exact ⟨_,_,rfl,H5 t30 (by omega) (by simp) (by simp),t46⟩
   intro e6 qe6;refine .sk ?_;refine c15z ?_;exact ⟨_,_,rfl,H5 t30 (by omega) (by simp) (by simp),t46⟩
  try simp only[e4]
  have qe4:=fact e4;refine .m [(2,86)] ?_;refine .F ?_;refine .c7 [8,10,14] ?_;refine .z ?_;refine u2z ?_ ?_
  ·intro e7 qe7;refine c2z ?_;refine c15z ?_;exact ⟨_,_,rfl,H5 t30 (by omega) (by simp) (by simp),t46⟩
  intro e7 qe7;refine .sk ?_;refine c15z ?_;exact ⟨_,_,rfl,H5 t30 (by omega) (by simp) (by simp),t46⟩
end Go.Proofs.YtapdldekgbbomaaGreatDoor
end
section
namespace Go.Proofs.YtapdldekgbbomaaGreatDoor
open Go.Ab Go.Un
attribute [local go_sem] n6 aS q9 aZ p7 Int.natCast_nonneg Int.natCast_inj List.length_map cU hB_1 hB_2 hB_5 XE XF XG XH fR zP gB M9
variable {c:Core}{e:Frame}{left I:Int}
theorem TZ {l:c8}(hc:OkC c)(hI:OkI c.L I)(hL:c.L.length<4611686018427387904)(vars:List BA)(hN:vars.length<1000)(f:Fu)(hp:f.params.length≤2):CH 64 [.ptr 5 0 0,.agg (eO f),.vec vars.length (aQ vars)] (hB c e I left++l) (.agg (S6 (w7 c f.params vars I).1)) (hB c e (w7 c f.params vars I).2 left++l):=c_ref (e:=⟨e.b0,e.b1,e.b2,e.z,e.m,e.g,e.rest++l⟩) hc hI hL vars hN f hp
variable {n:Nat}
theorem X8 {c:Core}{e:Frame}{I left:Int}{fb rb:Blk}{g:Nat}{zs:List AV}{x1 x2 x3 x4 x5 x6 x7:AV}(hz:zs.length=n*7)(hn:n<1000) :
    j5 cfg 185 (hB c e I left++[fb,rb,p8 185 7 g zs,⟨0,false,185,7,[x1,x2,x3,x4,x5,x6,x7],0⟩]) (.own (e.n+2) g 0 n) (.own (e.n+3) 0 0 1)=some (.own (e.n+2) (g+1) 0 (n+1),hB c e I left++[fb,rb,p8 185 7 (g+1) (zs++[x1,x2,x3,x4,x5,x6,x7]),⟨0,false,185,7,[x1,x2,x3,x4,x5,x6,x7],0⟩]):=by
  have hb:(hB c e I left++[fb,rb,p8 185 7 g zs,⟨0,false,185,7,[x1,x2,x3,x4,x5,x6,x7],0⟩])[e.n+2]?=some (p8 185 7 g zs):=fR;rw[aC (C:=cfg) (K:=7) (m:=1) (new:=[x1,x2,x3,x4,x5,x6,x7]) hb rfl (by omega) hz rfl (by omega) t167 rfl (by decide) (by omega),gB];rfl
theorem JD {c:Core}{e:Frame}{I left:Int}{fb rb:Blk}{g:Nat}{zs:List AV}{x1 x2 x3:AV}{x:Ex}(hz:zs.length=n*7)(hn:n<1000) :
    j5 cfg 185 (hB c e I left++[fb,rb,p8 185 7 g zs,⟨0,false,185,7,x1::x2::x3::v9 x,0⟩]) (.own (e.n+2) g 0 n) (.own (e.n+3) 0 0 1)=some (.own (e.n+2) (g+1) 0 (n+1),hB c e I left++[fb,rb,p8 185 7 (g+1) (zs++x1::x2::x3::v9 x),⟨0,false,185,7,x1::x2::x3::v9 x,0⟩]):=by
  rw[bZ];exact X8 hz hn
variable {ps l:List Pm}{vars:List BA}{j:Nat}{J:Int}
theorem args_t (h:j<l.length)(hm:(l.getD j iO).mu=true):aK c ps vars (l.drop j) J=(⟨true,(w7 c ps vars J).1,n4⟩::(aK c ps vars (l.drop (j+1)) (w7 c ps vars J).2).1,(aK c ps vars (l.drop (j+1)) (w7 c ps vars J).2).2):=by rw[List.drop_eq_getElem_cons h,aK,if_pos (by simpa [List.getD,h] using hm)]
theorem args_f (h:j<l.length)(hm:(l.getD j iO).mu=false):aK c ps vars (l.drop j) J=(⟨false,o5,(j8 c vars J).1⟩::(aK c ps vars (l.drop (j+1)) (j8 c vars J).2).1,(aK c ps vars (l.drop (j+1)) (j8 c vars J).2).2):=by rw[List.drop_eq_getElem_cons h,aK,if_neg (by rw[show l[j].mu=(l.getD j iO).mu from by simp[List.getD,h],hm];decide)]
theorem xO {l:List Ar}{a:Ar}:bU (l++[a])=bU l++CF a:=by simp[bU]
theorem refs_A {l:List Ar}:∀x∈bU l,Refs n x:=by
  intro x hx;obtain ⟨a,_,hx⟩:=List.mem_flatMap.1 hx;simp only[CF,bZ,List.mem_cons,List.not_mem_nil,or_false]at hx;rcases hx with rfl | rfl | rfl | rfl | rfl | rfl | rfl
  · exact .bool _
  · exact .str _
  · exact .vec _ _
  · exact .int _ _
  · exact .int _ _
  · exact .str _
  · exact .vec _ _
theorem H6 {J':Int}{xs:List Ar}{a:Ar}(h:aK c ps vars l I=(xs++(aK c ps vars (l.drop j) J).1,(aK c ps vars (l.drop j) J).2))(hs:aK c ps vars (l.drop j) J=(a::(aK c ps vars (l.drop (j+1)) J').1,(aK c ps vars (l.drop (j+1)) J').2)):aK c ps vars l I=((xs++[a])++(aK c ps vars (l.drop (j+1)) J').1,(aK c ps vars (l.drop (j+1)) J').2):=by rw[h,hs];simp only[List.append_assoc,List.cons_append,List.nil_append]
section
attribute [local go_sem] gJ wrap64 eO S6 X8 JD lR F3 qS
theorem c_args (hc:OkC c)(hI:OkI c.L I)(hL:c.L.length<4611686018427387904)(vars:List BA)(hN:vars.length<1000)(f g:Fu)(hp:f.params.length≤2)(hq:g.params.length≤2):CH 66 [.ptr 5 0 0,.agg (eO f),.agg (eO g),.vec vars.length (aQ vars)] (hB c e I left) (.vec (aK c f.params vars g.params I).1.length (bU (aK c f.params vars g.params I).1)) (hB c e (aK c f.params vars g.params I).2 left):=by
  refine .wz Tryz.f66 40 ?_;refine c98z ?_;refine g7.yU 9 rfl ?_;refine .aW (fun m st=>∃(j:Nat) (J:Int) (xs:List Ar),(m=g.params.length-j∧(j≤g.params.length∧OkI c.L J∧xs.length=j∧aK c f.params vars g.params I=(xs++(aK c f.params vars (g.params.drop j) J).1,(aK c f.params vars (g.params.drop j) J).2)))∧st=⟨mkS 40 [(0,AV.ptr 5 0 0),(3,AV.vec vars.length (aQ vars)),(5,AV.ptr e.n 0 0),(6,AV.ptr (e.n+1) 0 0),(9,AV.own (e.n+2) j 0 j),(10,AV.int .i64 ((j:Nat):Int))],hB c e J left++[⟨0,false,122,3,[.str f.name,.vec f.params.length (z9 f.params),.vec f.body.len (s3 f.body)],0⟩,⟨0,false,122,3,[.str g.name,.vec g.params.length (z9 g.params),.vec g.body.len (s3 g.body)],0⟩,p8 185 7 j (bU xs)]⟩) (.v ⟨0,I,[],⟨rfl,⟨by omega,hI,rfl,rfl⟩⟩,rfl⟩ (hs:=t51) (hr:=t2)) ?_;rintro m sl h' ⟨j,J,xs,⟨hm,⟨hj,hJ,hal,hA⟩⟩,hst⟩;obtain ⟨rfl,rfl⟩:=St.mk.inj hst;clear hst;have hz7:(bU xs).length=j*7:=by rw[dB,hal];omega
  refine c1z ?_;refine u2z ?_ ?_
  ·intro e1 qe1;refine c207z ?_;refine u2z ?_ ?_
   ·intro e2 qe2;refine .c7 [0,3,5,6,9,10] ?_;refine c99z ?_;refine .ch rfl rfl (TZ hc hJ hL vars hN f hp) ?_;refine c30z ?_;refine .c7 [0,3,5,6,9,10] ?_;refine g7.nilsO (β:=e.n+2) (bU (xs++[(⟨true,(w7 c f.params vars J).1,n4⟩:Ar)])) t86 (by rw[xO];exact (oY.refl _).app OC) ?_;simp only[gB,List.set_cons_succ,List.set_cons_zero];refine .rz ?_;exact ⟨_,by omega,.v ⟨(j+1),(w7 c f.params vars J).2,(xs++[(⟨true,(w7 c f.params vars J).1,n4⟩:Ar)]),⟨rfl,⟨by omega,(pV hc hJ).2,by simp[hal],H6 hA (args_t (by omega) (by assumption))⟩⟩,rfl⟩ (he:=t123) (hl:=t39) (hk:=t202) (hs:=t51) (hr:=t2)⟩
   intro e2 qe2;refine .c7 [0,3,5,6,9,10] ?_;refine .r ?_;refine .e 3 ?_;refine .ch rfl rfl (U9 hc hJ hL vars hN) ?_;refine c30z ?_;refine g7.nilsO (β:=e.n+2) (bU (xs++[(⟨false,o5,(j8 c vars J).1⟩:Ar)])) t86 (by rw[xO];exact (oY.refl _).app GC) ?_;simp only[gB,List.set_cons_succ,List.set_cons_zero];refine .rz ?_;exact ⟨_,by omega,.v ⟨(j+1),(j8 c vars J).2,(xs++[(⟨false,o5,(j8 c vars J).1⟩:Ar)]),⟨rfl,⟨by omega,(jR hJ).2,by simp[hal],H6 hA (args_f (by omega) (by assumption))⟩⟩,rfl⟩ (he:=t123) (hl:=t39) (hk:=t202) (hs:=t51) (hr:=t2)⟩
  intro e1 qe1;refine c10z ?_;refine .c7 [9] ?_;refine c15z ?_;exact ⟨hB _ _ _ _,_,.vec xs.length (bU xs),rfl,t91,iF,by (show gT _ (hB c e J left++_) 6 (.own (e.n+2) j 0 j)=_;rw[cU,cW,if_neg (by omega),hal];exact eN fR (by omega) (by rw[dB,hal];omega) (by omega) frz_A),by refine ⟨?_,?_⟩<;>(rw[hA,List.drop_of_length_le (by omega)];simp only[aK,List.append_nil])⟩
end
end Go.Proofs.YtapdldekgbbomaaGreatDoor
end
section
namespace Go.Proofs.YtapdldekgbbomaaGreatDoor
open Go.Ab Go.Un
theorem c_argsA {c:Core}{e:Frame}{left I:Int}{l:c8}(hc:OkC c)(hI:OkI c.L I)(hL:c.L.length<4611686018427387904)(vars:List BA)(hN:vars.length<1000)(f g:Fu)(hp:f.params.length≤2)(hq:g.params.length≤2):CH 66 [.ptr 5 0 0,.agg (eO f),.agg (eO g),.vec vars.length (aQ vars)] (hB c e I left++l) (.vec (aK c f.params vars g.params I).1.length (bU (aK c f.params vars g.params I).1)) (hB c e (aK c f.params vars g.params I).2 left++l):=c_args (e:=⟨e.b0,e.b1,e.b2,e.z,e.m,e.g,e.rest++l⟩) hc hI hL vars hN f g hp hq
theorem sealC_n {l:List BA}:s5 sN (aQ l)=some (aQ l):=by
 induction l with
 | nil=>rfl
 | cons x l ih=>
  have e:sN (.str x)=some (.str x):=rfl;simp only[aQ,List.map_cons,s5,e]at ih ⊢;rw[ih]
variable {β:Nat}
theorem QR {H:c8}{b:Blk}(h:H[β]?=some b):H.set β b=H:=by obtain ⟨h1,h2⟩:=List.getElem?_eq_some_iff.1 h;rw[←h2];exact List.set_getElem_self h1
variable {g:Nat}
theorem K7 {f:FuncId}{args args':List AV}{H:c8}{Q:AV→c8→Prop}{vs:List BA}(hb:H[β]?=some ⟨g,false,9,1,aQ vs,vs.length⟩)(ha:J6 β g 0 vs.length (aQ vs) args' args)(r:l6 Tryz.prog cfg f args' H Q):l6 Tryz.prog cfg f args H Q:=by
 have e:H.set β (dN ⟨g,false,9,1,aQ vs,vs.length⟩ (0+vs.length*1))=H:=by rw[show dN ⟨g,false,9,1,aQ vs,vs.length⟩ (0+vs.length*1)=⟨g,false,9,1,aQ vs,vs.length⟩ from by simp[dN]];exact QR hb
 refine l6.yP (β:=β) (off:=0) (len:=vs.length) (cs:=aQ vs) hb rfl (by simp[aS]) ?_ ha (by rw[e];exact r);simp only[List.drop_zero,Nat.mul_one];rw[List.take_of_length_le t195];exact sealC_n
theorem raise {c:Code}{sl:List AV}{h:c8}{Q:Exit→St→Prop}{k:Nat}{b:Blk}(hb:h[β]?=some b)(hk:b.frz≤k)(r:g7 Tryz.prog cfg c ⟨sl,h.set β ⟨b.gen,b.cL,b.elem,b.esz,b.cells,k⟩⟩ Q):g7 Tryz.prog cfg c ⟨sl,h⟩ Q:=by
 refine g7.step _ (fun B φ w i=>?_) r;have:=pJ k i hb;have e:dN b k=⟨b.gen,b.cL,b.elem,b.esz,b.cells,k⟩:=by simp only[dN,Nat.max_eq_right hk]
 rw[e]at this;exact this
section
variable {c:Core}{e:Frame}{I left:Int}{l:c8}{fb:Blk}{gv:Nat}{vs:List BA}
theorem hB_v:(hB c e I left++(fb::⟨gv,false,9,1,aQ vs,vs.length⟩::l))[e.n+1]?=some ⟨gv,false,9,1,aQ vs,vs.length⟩:=fR
theorem nY (hc:OkC c)(hI:OkI c.L I)(hL:c.L.length<4611686018427387904)(hN:vs.length<1000):CH 65 [.ptr 5 0 0,.own (e.n+1) gv 0 vs.length] (hB c e I left++(fb::⟨gv,false,9,1,aQ vs,vs.length⟩::l)) (.agg (v9 (j8 c vs I).1)) (hB c e (j8 c vs I).2 left++(fb::⟨gv,false,9,1,aQ vs,vs.length⟩::l)):=
 K7 (args':=[.ptr 5 0 0,.vec vs.length (aQ vs)]) hB_v ⟨.inl rfl,.inr ⟨rfl,rfl⟩,trivial⟩ (U9 hc hI hL vs hN)
theorem X9 (hc:OkC c)(hI:OkI c.L I)(hL:c.L.length<4611686018427387904)(hN:vs.length<1000)(f:Fu)(hp:f.params.length≤2):CH 64 [.ptr 5 0 0,.agg (eO f),.own (e.n+1) gv 0 vs.length] (hB c e I left++(fb::⟨gv,false,9,1,aQ vs,vs.length⟩::l)) (.agg (S6 (w7 c f.params vs I).1)) (hB c e (w7 c f.params vs I).2 left++(fb::⟨gv,false,9,1,aQ vs,vs.length⟩::l)):=
 K7 (args':=[.ptr 5 0 0,.agg (eO f),.vec vs.length (aQ vs)]) hB_v ⟨.inl rfl,.inl rfl,.inr ⟨rfl,rfl⟩,trivial⟩ (TZ hc hI hL vs hN f hp)
theorem JE (hc:OkC c)(hI:OkI c.L I)(hL:c.L.length<4611686018427387904)(hN:vs.length<1000)(f g:Fu)(hp:f.params.length≤2)(hq:g.params.length≤2):CH 66 [.ptr 5 0 0,.agg (eO f),.agg (eO g),.own (e.n+1) gv 0 vs.length] (hB c e I left++(fb::⟨gv,false,9,1,aQ vs,vs.length⟩::l)) (.vec (aK c f.params vs g.params I).1.length (bU (aK c f.params vs g.params I).1)) (hB c e (aK c f.params vs g.params I).2 left++(fb::⟨gv,false,9,1,aQ vs,vs.length⟩::l)):=
 K7 (args':=[.ptr 5 0 0,.agg (eO f),.agg (eO g),.vec vs.length (aQ vs)]) hB_v ⟨.inl rfl,.inl rfl,.inl rfl,.inr ⟨rfl,rfl⟩,trivial⟩ (c_argsA hc hI hL vs hN f g hp hq)
def H7 (c:Core)(f:Fu)(fu:Nat)(left:Int):Prop:=∀{e:Frame} (I l':Int) (vs all:List BA) (d m:Int),OkI c.L I→0≤l'→l'<left→0≤d→d≤100→0≤m→m≤100→(∀x∈vs,x∈all)→Fr l'.toNat all→vs.length+l'.toNat≤500→
 l6 Tryz.prog cfg 45 [.ptr 5 0 0,.agg (eO f),.vec vs.length (aQ vs),.int .i64 d,.int .i64 m] (hB c e I l') (fun y' h'=>y'=.vec (g9 c f.params fu vs d m I l').1.len (s3 (g9 c f.params fu vs d m I l').1)∧h'=hB c e (g9 c f.params fu vs d m I l').2.1 (g9 c f.params fu vs d m I l').2.2)
theorem H7.V {f:Fu}{fu:Nat}{left0:Int}(h:H7 c f fu left0)(l':Int)(all:List BA)(d m:Int)(hI:OkI c.L I)(h1:0≤l')(h2:l'<left0)(h3:0≤d)(h4:d≤100)(h5:0≤m)(h6:m≤100)(h7:∀x∈vs,x∈all)(h8:Fr l'.toNat all)(h9:vs.length+l'.toNat≤500) :
  l6 Tryz.prog cfg 45 [.ptr 5 0 0,.agg (eO f),.own (e.n+1) gv 0 vs.length,.int .i64 d,.int .i64 m] (hB c e I l'++(fb::⟨gv,false,9,1,aQ vs,vs.length⟩::l)) (fun y' h'=>y'=.vec (g9 c f.params fu vs d m I l').1.len (s3 (g9 c f.params fu vs d m I l').1)∧h'=hB c e (g9 c f.params fu vs d m I l').2.1 (g9 c f.params fu vs d m I l').2.2++(fb::⟨gv,false,9,1,aQ vs,vs.length⟩::l)):=
 K7 (args':=[.ptr 5 0 0,.agg (eO f),.vec vs.length (aQ vs),.int .i64 d,.int .i64 m]) hB_v ⟨.inl rfl,.inl rfl,.inr ⟨rfl,rfl⟩,.inl rfl,.inl rfl,trivial⟩ (h (e:=⟨e.b0,e.b1,e.b2,e.z,e.m,e.g,e.rest++(fb::⟨gv,false,9,1,aQ vs,vs.length⟩::l)⟩) I l' vs all d m hI h1 h2 h3 h4 h5 h6 h7 h8 h9)
def gO (g n:Nat):Nat:=if n=0 then g else g+1
theorem QS (hn:vs.length<1000):j5 cfg 9 (hB c e I left++[fb,⟨0,false,9,1,[],0⟩]) (.own (e.n+1) 0 0 0) (.vec vs.length (aQ vs))=some (.own (e.n+1) (gO 0 vs.length) 0 vs.length,hB c e I left++[fb,⟨gO 0 vs.length,false,9,1,aQ vs,0⟩]):=by
 have e1:cfg.sz 9=1:=rfl;have e2:(cfg.ti 9).bytes=16:=rfl;have hm:vs.length≤maxLen:=by
  have:(1000:Nat)≤maxLen:=by decide
  omega
 have hb:vs.length*16≤140737488355328:=by omega
 cases vs with
 | nil=>simp[j5,rd,lenOf,e1,e2,fR,gO,aQ]
 | cons x vs=>
  have h0:(aQ (x::vs)).length=vs.length+1:=by simp[aQ]
  simp only[List.length_cons]at hm hb;simp[j5,rd,lenOf,e1,e2,fR,gO,h0,hm,hb,gB]
variable {t:Blk}
theorem app_vs {O p:Blk}{x:BA}(hn:vs.length<1000):j5 cfg 9 (hB c e I left++[fb,⟨gv,false,9,1,aQ vs,vs.length⟩,O,t,p,⟨0,false,9,1,[.str x],0⟩]) (.own (e.n+1) gv 0 vs.length) (.own (e.n+5) 0 0 1)=some (.own (e.n+1) (gv+1) 0 (vs.length+1),hB c e I left++[fb,⟨gv+1,false,9,1,aQ (vs++[x]),vs.length⟩,O,t,p,⟨0,false,9,1,[.str x],0⟩]):=by
 have e1:cfg.sz 9=1:=rfl;have e2:(cfg.ti 9).bytes=16:=rfl;have hm:vs.length+1≤maxLen:=by
  have:(1001:Nat)≤maxLen:=by decide
  omega
 have hb:(vs.length+1)*16≤140737488355328:=by omega
 have ht:List.take vs.length (aQ vs)=aQ vs:=List.take_of_length_le t195;have hnl:¬vs.length+1≤vs.length:=by omega
 simp[j5,rd,lenOf,e1,e2,fR,aS,hm,hb,gB,ht,hnl,kL]
variable {n:Nat}{zs:List AV}
theorem QT {vb t:Blk}{g:Nat}{x1 x2 x3 x4 x5 x6 x7 x8 x9 x10 x11:AV}(hz:zs.length=n*11)(hn:n<1000) :
  j5 cfg 149 (hB c e I left++[fb,vb,p8 149 11 g zs,t,⟨0,false,149,11,[x1,x2,x3,x4,x5,x6,x7,x8,x9,x10,x11],0⟩]) (.own (e.n+2) g 0 n) (.own (e.n+4) 0 0 1)=some (.own (e.n+2) (g+1) 0 (n+1),hB c e I left++[fb,vb,p8 149 11 (g+1) (zs++[x1,x2,x3,x4,x5,x6,x7,x8,x9,x10,x11]),t,⟨0,false,149,11,[x1,x2,x3,x4,x5,x6,x7,x8,x9,x10,x11],0⟩]):=by
 have hb:(hB c e I left++[fb,vb,p8 149 11 g zs,t,⟨0,false,149,11,[x1,x2,x3,x4,x5,x6,x7,x8,x9,x10,x11],0⟩])[e.n+2]?=some (p8 149 11 g zs):=fR;rw[aC (C:=cfg) (K:=11) (m:=1) (new:=[x1,x2,x3,x4,x5,x6,x7,x8,x9,x10,x11]) hb rfl (by omega) hz rfl (by omega) t167 rfl (by decide) (by omega),gB];rfl
theorem QU {vb t u:Blk}{g:Nat}{x1 x2 x3 x4 x5 x6 x7 x8 x9 x10 x11:AV}(hz:zs.length=n*11)(hn:n<1000) :
  j5 cfg 149 (hB c e I left++[fb,vb,p8 149 11 g zs,t,u,⟨0,false,149,11,[x1,x2,x3,x4,x5,x6,x7,x8,x9,x10,x11],0⟩]) (.own (e.n+2) g 0 n) (.own (e.n+5) 0 0 1)=some (.own (e.n+2) (g+1) 0 (n+1),hB c e I left++[fb,vb,p8 149 11 (g+1) (zs++[x1,x2,x3,x4,x5,x6,x7,x8,x9,x10,x11]),t,u,⟨0,false,149,11,[x1,x2,x3,x4,x5,x6,x7,x8,x9,x10,x11],0⟩]):=by
 have hb:(hB c e I left++[fb,vb,p8 149 11 g zs,t,u,⟨0,false,149,11,[x1,x2,x3,x4,x5,x6,x7,x8,x9,x10,x11],0⟩])[e.n+2]?=some (p8 149 11 g zs):=fR;rw[aC (C:=cfg) (K:=11) (m:=1) (new:=[x1,x2,x3,x4,x5,x6,x7,x8,x9,x10,x11]) hb rfl (by omega) hz rfl (by omega) t167 rfl (by decide) (by omega),gB];rfl
theorem Y0 {vb t u v:Blk}{g:Nat}{x1 x2 x3 x4 x5 x6 x7 x8 x9 x10 x11:AV}(hz:zs.length=n*11)(hn:n<1000) :
  j5 cfg 149 (hB c e I left++[fb,vb,p8 149 11 g zs,t,u,v,⟨0,false,149,11,[x1,x2,x3,x4,x5,x6,x7,x8,x9,x10,x11],0⟩]) (.own (e.n+2) g 0 n) (.own (e.n+6) 0 0 1)=some (.own (e.n+2) (g+1) 0 (n+1),hB c e I left++[fb,vb,p8 149 11 (g+1) (zs++[x1,x2,x3,x4,x5,x6,x7,x8,x9,x10,x11]),t,u,v,⟨0,false,149,11,[x1,x2,x3,x4,x5,x6,x7,x8,x9,x10,x11],0⟩]):=by
 have hb:(hB c e I left++[fb,vb,p8 149 11 g zs,t,u,v,⟨0,false,149,11,[x1,x2,x3,x4,x5,x6,x7,x8,x9,x10,x11],0⟩])[e.n+2]?=some (p8 149 11 g zs):=fR;rw[aC (C:=cfg) (K:=11) (m:=1) (new:=[x1,x2,x3,x4,x5,x6,x7,x8,x9,x10,x11]) hb rfl (by omega) hz rfl (by omega) t167 rfl (by decide) (by omega),gB];rfl
variable {m:Nat}{cs:List AV}
theorem JF {vb t u s:Blk}{g:Nat}(hz:zs.length=n*11)(hcs:cs.length=m*11)(hn:n<1000)(hm:m<1000) :
  j5 cfg 149 (hB c e I left++[fb,vb,p8 149 11 g zs,t,u,s]) (.own (e.n+2) g 0 n) (.vec m cs)=some (.own (e.n+2) (gO g m) 0 (n+m),hB c e I left++[fb,vb,p8 149 11 (gO g m) (zs++cs),t,u,s]):=by
 have hb:(hB c e I left++[fb,vb,p8 149 11 g zs,t,u,s])[e.n+2]?=some (p8 149 11 g zs):=fR;by_cases h0:m=0
 ·subst h0;obtain rfl:cs=[]:=List.length_eq_zero_iff.1 (by simpa using hcs);have e1:cfg.sz 149=11:=rfl;have e2:(cfg.ti 149).bytes=192:=rfl;have hmx:n≤maxLen:=by
   have:(1000:Nat)≤maxLen:=by decide
   omega
  have hbd:n*192≤140737488355328:=by omega
  simp[j5,rd,lenOf,e1,e2,hb,tB,gO,hmx,hbd]
 ·rw[aC (C:=cfg) (K:=11) (m:=m) (new:=cs) hb rfl (by omega) hz hcs (by omega) rfl rfl (by decide) (by omega),gB];simp only[gO,h0,if_false];rfl
theorem QV {vb t u s:Blk}{g:Nat}{y1 y2 y3 y4 y5 y6 y7 y8 y9 y10 y11:AV}(hz:zs.length=n*11)(hcs:cs.length=m*11)(hn:n<900)(hm:m<1000) :
  j5 cfg 149 (hB c e I left++[fb,vb,p8 149 11 g (zs++[y1,y2,y3,y4,y5,y6,y7,y8,y9,y10,y11]),t,u,s]) (.own (e.n+2) g 0 (n+1)) (.vec m cs)=some (.own (e.n+2) (gO g m) 0 (n+1+m),hB c e I left++[fb,vb,p8 149 11 (gO g m) ((zs++[y1,y2,y3,y4,y5,y6,y7,y8,y9,y10,y11])++cs),t,u,s]):=
 JF (by rw[List.length_append,hz];simp;omega) hcs (by omega) hm
theorem QW {vb t u v:Blk}{g:Nat}{y1 y2 y3 y4 y5 y6 y7 y8 y9 y10 y11 x1 x2 x3 x4 x5 x6 x7 x8 x9 x10 x11:AV}(hz:zs.length=n*11)(hcs:cs.length=m*11)(hn:n<400)(hm:m<400) :
  j5 cfg 149 (hB c e I left++[fb,vb,p8 149 11 g (zs++y1::y2::y3::y4::y5::y6::y7::y8::y9::y10::y11::cs),t,u,v,⟨0,false,149,11,[x1,x2,x3,x4,x5,x6,x7,x8,x9,x10,x11],0⟩]) (.own (e.n+2) g 0 (n+1+m)) (.own (e.n+6) 0 0 1)=some (.own (e.n+2) (g+1) 0 (n+1+m+1),hB c e I left++[fb,vb,p8 149 11 (g+1) ((zs++y1::y2::y3::y4::y5::y6::y7::y8::y9::y10::y11::cs)++[x1,x2,x3,x4,x5,x6,x7,x8,x9,x10,x11]),t,u,v,⟨0,false,149,11,[x1,x2,x3,x4,x5,x6,x7,x8,x9,x10,x11],0⟩]):=
 Y0 (by rw[List.length_append,hz];simp only[List.length_cons,hcs];omega) (by omega)
end
theorem UA {n:Nat}:∀(s:Sl),∀x∈s3 s,Refs n x
 | .nil,x,hx=>by simp[s3]at hx
 | .cons k nm e r as' th el rest,x,hx=>by
  simp only[s3,bZ,List.cons_append,List.nil_append,List.mem_cons]at hx;rcases hx with rfl | rfl | rfl | rfl | rfl | rfl | rfl | rfl | rfl | rfl | rfl | hx
  ·exact .int _ _
  ·exact .str _
  ·exact .int _ _
  ·exact .int _ _
  ·exact .str _
  ·exact .vec _ _
  ·exact .str _
  ·exact .vec _ _
  ·exact .vec _ _
  ·exact .vec _ _
  ·exact .vec _ _
  ·exact UA rest x hx
theorem frz_S {n d:Nat}{H:c8}:∀(s:Sl),s5 (mC n H (d+1)) (s3 s)=some (s3 s)
 | .nil=>rfl
 | .cons k nm e r as' th el rest=>by have ih:=frz_S (n:=n) (d:=d) (H:=H) rest;simp only[s3,bZ,List.cons_append,List.nil_append,s5,tA,pQ,nP,ih]
theorem bK {k:Int}{nm:BA}{x:Ex}{r:Rf}{xs:List Ar}{th el:Sl}{a b c d f:AV}(ha:a=.vec x.args.length (o8 x.args)∨(a=.l7∧x.args=[]))(hb:b=.vec r.idx.length (o8 r.idx)∨(b=.l7∧r.idx=[]))(hc:c=.vec xs.length (bU xs)∨(c=.l7∧xs=[]))
  (hd:d=.vec th.len (s3 th)∨(d=.l7∧th=.nil)) (hf:f=.vec el.len (s3 el)∨(f=.l7∧el=.nil)) :
  oY (s3 (row k nm x r xs th el)) [.int .i64 k,.str nm,.int .i64 x.op,.int .i64 x.num,.str x.name,a,.str r.name,b,c,d,f]:=by
 simp only[row,s3,bZ,List.cons_append,List.nil_append];refine ⟨.inl rfl,.inl rfl,.inl rfl,.inl rfl,.inl rfl,?_,.inl rfl,?_,?_,?_,?_,trivial⟩
 ·rcases ha with rfl | ⟨rfl,h⟩
  ·exact .inl rfl
  ·rw[h];exact .inr ⟨rfl,rfl⟩
 ·rcases hb with rfl | ⟨rfl,h⟩
  ·exact .inl rfl
  ·rw[h];exact .inr ⟨rfl,rfl⟩
 ·rcases hc with rfl | ⟨rfl,h⟩
  ·exact .inl rfl
  ·rw[h];exact .inr ⟨rfl,rfl⟩
 ·rcases hd with rfl | ⟨rfl,h⟩
  ·exact .inl rfl
  ·rw[h];exact .inr ⟨rfl,rfl⟩
 ·rcases hf with rfl | ⟨rfl,h⟩
  ·exact .inl rfl
  ·rw[h];exact .inr ⟨rfl,rfl⟩
theorem kX {k:Int}{nm:BA}{x:Ex}{r:Rf}{xs:List Ar}{th el:Sl}:s3 (row k nm x r xs th el)=[.int .i64 k,.str nm,.int .i64 x.op,.int .i64 x.num,.str x.name,.vec x.args.length (o8 x.args),.str r.name,.vec r.idx.length (o8 r.idx),.vec xs.length (bU xs),.vec th.len (s3 th),.vec el.len (s3 el)]:=by simp only[row,s3,bZ,List.cons_append,List.nil_append]
theorem wrap8 {n:Int}(h1:0≤n)(h2:n<256):IntKind.wrap .u8 n=n:=by unfold IntKind.wrap;have e1:(2:Int)^IntKind.bits .u8=256:=rfl;have e3:IntKind.signed .u8=false:=rfl;simp only[e1,e3,Bool.false_and,Bool.false_eq_true,if_false];omega
theorem vnm_eq {l:Int}(h0:0≤l)(h1:l<24):(⟨#[118]⟩:BA)++(⟨#[UInt8.ofNat (97+l.tmod 26).toNat,UInt8.ofNat (97+(l.tdiv 26).tmod 26).toNat]⟩:BA)=vnm l.toNat:=by
 obtain ⟨n,rfl⟩:=Int.eq_ofNat_of_zero_le h0;have key:∀n:Fin 24,(⟨#[118]⟩:BA)++(⟨#[UInt8.ofNat (97+((n.1:Nat):Int).tmod 26).toNat,UInt8.ofNat (97+(((n.1:Nat):Int).tdiv 26).tmod 26).toNat]⟩:BA)=vnm n.1:=by decide +kernel
 exact key ⟨n,by omega⟩
theorem tm26 {l:Int}(h0:0≤l):0≤l.tmod 26∧l.tmod 26<26:=⟨Int.tmod_nonneg _ h0,Int.tmod_lt_of_pos _ (by omega)⟩
theorem td26 {l:Int}(h0:0≤l)(h1:l<24):l.tdiv 26=0:=by
 obtain ⟨n,rfl⟩:=Int.eq_ofNat_of_zero_le h0;have key:∀n:Fin 24,(((n.1:Nat):Int).tdiv 26)=0:=by decide
 exact key ⟨n,by omega⟩
end Go.Proofs.YtapdldekgbbomaaGreatDoor
end
