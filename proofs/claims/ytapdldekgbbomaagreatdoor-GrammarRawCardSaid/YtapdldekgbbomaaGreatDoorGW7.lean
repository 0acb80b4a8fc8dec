/- My own texts, put together by a program of mine. -/
import Derived.Test.YtapdldekgbbomaaGreatDoorGW6
set_option linter.unusedSimpArgs false
set_option linter.unusedVariables false
set_option maxRecDepth 100000
set_option maxHeartbeats 4000000
section
namespace Go.Proofs.YtapdldekgbbomaaGreatDoor
open Go.Ab Go.Un
end Go.Proofs.YtapdldekgbbomaaGreatDoor
namespace Go.Ab
theorem Rel.ints {h1 h2:c8}{φ1 φ2:Map}{w:World}{v:Value}{xs:List AV}(hi:∀x∈xs,∃n,x=.int .i64 n)(r:Rel h1 φ1 w v (.agg xs)):Rel h2 φ2 w v (.agg xs):=by obtain ⟨a,rfl,ha,hs,hr⟩:=r.iQ;refine .agg a xs ha hs fun j v x e1 e2=>?_;obtain ⟨n,rfl⟩:=hi x (List.mem_of_getElem? e2);have:=hr j v _ e1 e2;cases this.aA;exact .int_of _ _
variable {h:c8}
theorem CallA.borrowR {P:Program}{C:Cfg}{f:FuncId}{args args':List AV}{x:AV}(hx:∀{h1 h2:c8} {φ1 φ2:Map} {w:World} {v:Value},Rel h1 φ1 w v x→Rel h2 φ2 w v x)(ha:JU 0 h args' args)(r:CallA P C f args' (bR 0 h) fun y _=>y=x):CallA P C f args h fun y k=>y=x∧k=h:=by
  intro B φ w cargs i hs hr;obtain ⟨i',_⟩:=xX 0 i;obtain ⟨k1,k2⟩:=ha.get;refine (r B φ w cargs i' t232 fun j v y h1 h2=>?_).mono fun e w' hp=>?_
  · have hj:j<args.length:=by rw[←k1];exact (List.getElem?_eq_some_iff.1 h2).1
    have e1:args'.getD j .any=y:=by simp[List.getD,h2]
    have e2:args.getD j .any=args[j]:=by simp[List.getD,hj]
    rcases k2 j with h | h
    · rw[e1]at h
      rw[h];exact .iR _
    · rw[e1,e2]at h
      exact xY i 0 h (hr j v _ h1 (List.getElem?_eq_getElem hj))
  · obtain ⟨v,y,h',φ',rfl,h1,h2,h3,rfl⟩:=hp
    have hfree:∀k,k<w.heap.size→Free (bR 0 h) φ w k:=fun k hk=>⟨hk,fun β b hb hv=>by
      rcases dE hb with ⟨hn,_⟩ | ⟨_,b',_,rfl⟩
      · omega
      · cases hv⟩
    have hk:∀k,k<w.heap.size→w'.heap[k]?=w.heap[k]?:=fun k hk=>(h2.keep k (hfree k hk)).1;have ev:Ev h φ w h φ w':=⟨h2.os,h2.tape,h2.output,h2.size,fun k hs=>⟨hk k hs.1,Nat.lt_of_lt_of_le hs.1 h2.size,hs.2⟩,fun k j hs=>⟨World.cell?_of_block (hk k hs.1),Nat.lt_of_lt_of_le hs.1 h2.size,hs.2⟩,Nat.le_refl _,fun β b b' e1 e2=>by rw[e1]at e2;cases e2;exact ⟨Nat.le_refl _,fun _=>⟨rfl,rfl,rfl⟩⟩⟩;refine ⟨v,_,h,φ,rfl,⟨fun β b hb hv=>?_,i.inj,i.base,i.cG,Nat.le_trans i.room h2.size,fun g=>ev.A9 (i.glob g)⟩,ev,hx h3,rfl,rfl⟩;obtain ⟨cur,q1,q2,q3,q4⟩:=i.blk β b hb hv;exact ⟨cur,(hk _ (Array.getElem?_eq_some_iff.1 q1).1).trans q1,q2,q3,fun j v x a d=>⟨(q4 j v x a d).1,ev.rel (q4 j v x a d).2⟩⟩
end Go.Ab
namespace Go.Proofs.YtapdldekgbbomaaGreatDoor
open Go.Ab Go.Un
variable {h:c8}{u:Un}{it:aS}{x:Int}
theorem PR (hu:WU u)(w:WIt u it)(h0:0≤x)(h1:x<(g9 u it).length):CB 57 [.agg [.vec u.globals.length (encI u.globals),.vec u.c6.length (j4 u.c6),.vec u.procs.length (r7 u.procs),.int .i64 u.main],.agg [.int .i64 it.proc,.vec it.n6.length (encI it.n6)],.int .i64 x] h (.vec (pR ((g9 u it).getD x.toNat l5) x.toNat).length (encI (pR ((g9 u it).getD x.toNat l5) x.toNat))):=by obtain ⟨pc,rfl⟩:=Int.eq_ofNat_of_zero_le h0;exact c_nextF hu w (by omega)
theorem PS (hu:WU u)(w:WIt u it)(h0:0≤x)(h1:x<(g9 u it).length):CB 31 [.agg [.vec u.globals.length (encI u.globals),.vec u.c6.length (j4 u.c6),.vec u.procs.length (r7 u.procs),.int .i64 u.main],.agg [.int .i64 it.proc,.vec it.n6.length (encI it.n6)],.int .i64 x] h (.vec (pR ((g9 u it).getD x.toNat l5) x.toNat).length (encI (pR ((g9 u it).getD x.toNat l5) x.toNat))):=by obtain ⟨pc,rfl⟩:=Int.eq_ofNat_of_zero_le h0;exact c_nextR hu w (by omega)
theorem IG (hu:WU u)(w:WIt u it)(h0:0≤x)(h1:x<(g9 u it).length)(m:Int):CB 58 [.agg [.vec u.globals.length (encI u.globals),.vec u.c6.length (j4 u.c6),.vec u.procs.length (r7 u.procs),.int .i64 u.main],.agg [.int .i64 it.proc,.vec it.n6.length (encI it.n6)],.int .i64 x,.int .i64 m] h (.int .i64 (chI it ((g9 u it).getD x.toNat l5) m)):=by obtain ⟨pc,rfl⟩:=Int.eq_ofNat_of_zero_le h0;exact PG hu w (by omega) m
theorem BK (hu:WU u)(w:WIt u it)(h0:0≤x)(h1:x<(g9 u it).length)(m:Int):CB 24 [.agg [.vec u.globals.length (encI u.globals),.vec u.c6.length (j4 u.c6),.vec u.procs.length (r7 u.procs),.int .i64 u.main],.agg [.int .i64 it.proc,.vec it.n6.length (encI it.n6)],.int .i64 x,.int .i64 m] h (.int .i64 (chI it ((g9 u it).getD x.toNat l5) m)):=by obtain ⟨pc,rfl⟩:=Int.eq_ofNat_of_zero_le h0;exact HQ hu w (by omega) m
noncomputable def O9 (u:Un)(c:Clo)(lock:Int)(l:List Ru):List Ef×Int×Int:=
  if lock<0∨(u.c6.length:Int)≤lock then ([],0,6) else match (List.range l.length).find? fun k=>!pT u c l k with
    | some k=>([],(k:Int),12)
    | none=>(uZ u c lock l l.length,(l.length:Int),0)
variable {c:Clo}{lock:Int}{l:List Ru}
theorem effR_u (h:lock<0∨(u.c6.length:Int)≤lock):O9 u c lock l=([],0,6):=if_pos h
variable {k:Nat}
theorem effR_b (h0:0≤lock)(h1:lock<u.c6.length)(hk:k<l.length)(ha:∀d,d<k→iD u c l d)(hn:¬iD u c l k):O9 u c lock l=([],(k:Int),12):=by unfold O9;rw[if_neg (by omega),show (List.range l.length).find? (fun k=>!pT u c l k)=some k from List.find?_range_eq_some.2 ⟨by rw[fP hn];rfl,List.mem_range.2 hk,fun j hj=>by rw[jQ.2 (ha j hj)];rfl⟩]
theorem effR_o (h0:0≤lock)(h1:lock<u.c6.length)(ha:∀d,d<l.length→iD u c l d):O9 u c lock l=(uZ u c lock l l.length,(l.length:Int),0):=by unfold O9;rw[if_neg (by omega),show (List.range l.length).find? (fun k=>!pT u c l k)=none from List.find?_range_eq_none.2 fun j hj=>by rw[jQ.2 (ha j hj)];rfl]
variable {i:Nat}
theorem SQ (hr:iD u c l k)(hi:i<(l.getD k g7).items.length):0≤((l.getD k g7).items.getD i (0,0)).1∧((l.getD k g7).items.getD i (0,0)).1<(g9 u (c.insts.getD (l.getD k g7).inst.toNat j7)).length∧(((l.getD k g7).items.getD i (0,0)).2 = -1∨0≤((l.getD k g7).items.getD i (0,0)).2∧((l.getD k g7).items.getD i (0,0)).2<k):=by
  obtain ⟨p0,p1,_,_,p4⟩:=hr.it i hi;refine ⟨p0,p1,?_⟩;unfold uY at p4;split at p4
  · exact .inr ⟨p4.1,p4.2.1⟩
  · exact .inl p4
def KC (r:Ru)(i:Nat):Bool:=decide (i+1=r.items.length)&&!r.op'
theorem pX (hr:iD u c l k)(hi:i<(l.getD k g7).items.length):(((g9 u (c.insts.getD (l.getD k g7).inst.toNat j7)).getD ((l.getD k g7).items.getD i (0,0)).1.toNat l5).op==8)=KC (l.getD k g7) i:=by rw[Bool.eq_iff_iff,beq_iff_eq,KC,Bool.and_eq_true,decide_eq_true_eq,Bool.not_eq_true'];exact (hr.it i hi).2.2.2.1
theorem wZ (hr:iD u c l k)(hi:i<(l.getD k g7).items.length):rC u c l k (l.getD k g7) ((l.getD k g7).items.getD i (0,0)) (decide (i+1=(l.getD k g7).items.length))=true:=by have h:=(hr.it i hi).2.2.2.2;refine lL.2 ?_;rw[decide_eq_true_eq];exact h
theorem iK {u:Un}{c:Clo}{l:List Ru}{k i:Nat}(h0:0≤((l.getD k g7).items.getD i (0,0)).1)(h1:((l.getD k g7).items.getD i (0,0)).1<(g9 u (c.insts.getD (l.getD k g7).inst.toNat j7)).length)(h2:((l.getD k g7).items.getD i (0,0)).1∈BH u c (l.getD k g7) i)
    (h3:(((g9 u (c.insts.getD (l.getD k g7).inst.toNat j7)).getD ((l.getD k g7).items.getD i (0,0)).1.toNat l5).op==8)=KC (l.getD k g7) i) (h4:rC u c l k (l.getD k g7) ((l.getD k g7).items.getD i (0,0)) (decide (i+1=(l.getD k g7).items.length))=true):pS u c l k (l.getD k g7) i:=by
  refine ⟨h0,h1,h2,?_,?_⟩
  · have e:(ptX u c ((l.getD k g7).inst,((l.getD k g7).items.getD i (0,0)).1)).op=8↔(KC (l.getD k g7) i=true):=by rw[←h3,beq_iff_eq];rfl
    rw[e,KC];simp
  · have h:=lL.1 h4
    rw[decide_eq_true_eq]at h;exact h
variable {m:Int}{bf:List Ef}{r:Ru}
theorem IH {x:Int×Int}(hb:∀e∈bf,smE e)(hx:x.2 = -1∨0≤x.2∧x.2<bf.length):smE (ZI u c m bf r x):=by
  unfold ZI;split
  · have h:=O1 (it:=ptI c (r.inst,x.1)) (x:=ptX u c (r.inst,x.1)) (m:=m)
    exact .inl (ofE_ok (by omega) (by omega))
  · exact hb _ (l6 (by omega))
variable {b0 b1 b2 b3:Blk}{f:List Ef}{n:Nat}
theorem app_ef {l:c8}{e:Ef}(hn:f.length=n)(hl:n<1000000):g8 cfg 63 (h++(b0::b1::b2::b3::n4 63 3 n (aG f)::⟨0,false,63,3,[.int .i64 e.lo,.int .i64 e.hi,.int .i64 e.net],0⟩::l)) (.own (h.length+4) n 0 n) (.own (h.length+5) 0 0 1)=some (.own (h.length+4) (n+1) 0 (n+1),h++(b0::b1::b2::b3::n4 63 3 (n+1) (aG (f++[e]))::⟨0,false,63,3,[.int .i64 e.lo,.int .i64 e.hi,.int .i64 e.net],0⟩::l)):=by subst hn;rw[s9 (C:=cfg) (K:=3) (m:=1) (new:=[.int .i64 e.lo,.int .i64 e.hi,.int .i64 e.net]) (zs:=aG f) t47 rfl (by omega) (by rw[aT];omega) rfl (by omega) t190 rfl (by decide) (by omega),u4,show aG f++[.int .i64 e.lo,.int .i64 e.hi,.int .i64 e.net]=aG (f++[e]) from by simp[aG,PJ]];rfl
theorem zT (l:List Ef):z4 (aG l):=z4.flat fun _=>z4.cons .int (z4.cons .int (z4.cons .int z4.nil))
variable {β g len:Nat}{H:c8}{a:List Ef}
theorem frz_ef {d:Nat}(hb:H[β]?=some (n4 63 3 g (aG a)))(hn:n≤β)(hl:a.length=len):iT n H (d+3) (.own β g 0 len)=some (.vec len (aG a)):=by rw[dV,if_neg (by omega)];exact eH hb hn (by rw[aT,hl];omega) (by omega) ((zT a).frz _ _ _)
theorem frz_eft {y:Int}(hb:H[β]?=some (n4 63 3 g (aG a)))(hn:n≤β)(hl:a.length=len):iT n H 6 (.tup [.own β g 0 len,.int .i64 x,.int .i64 y])=some (.tup [.vec len (aG a),.int .i64 x,.int .i64 y]):=by have e:iT n H 5 (.own β g 0 len)=some (.vec len (aG a)):=frz_ef (d:=2) hb hn hl;rw[nD];simp only[r6,nE,e,Option.map_some]
theorem YD {x:Int×Int}(h:x.2 = -1):ZI u c m bf r x=ofE (chI (c.insts.getD r.inst.toNat j7) ((g9 u (c.insts.getD r.inst.toNat j7)).getD x.1.toNat l5) m):=if_pos h
theorem YE {x:Int×Int}(h:¬x.2 = -1):ZI u c m bf r x=bf.getD x.2.toNat W2:=if_neg h
theorem W7 (hr:iD u c l k)(hi:i<(l.getD k g7).items.length):uY u c l k (l.getD k g7) ((l.getD k g7).items.getD i (0,0)) (i+1=(l.getD k g7).items.length):=(hr.it i hi).2.2.2.2
theorem W8:(O9 u c lock l).1.length≤l.length:=by
  unfold O9;split
  · simp
  · split
    · simp
    · rw[fQ];exact Nat.le_refl _
theorem frz_efS (hb:H[β]?=some (n4 63 3 g (aG a)))(hl:a.length=len):LO 0 H (.own β g 0 len)=some (.vec len (aG a)):=by exact eH hb (Nat.zero_le _) (by rw[aT,hl];omega) (by omega) ((zT a).frz _ _ _)
attribute [local go_sem] rd Int.natCast_nonneg Int.natCast_inj Int.toNat_natCast_add_one mnI mxI wrap64 nH max2 v9 s7 aT kB fR fT fV iX fW fY iY cW u6 z7 u5 n7 bL l7 cP cQ bG eP dW jC eY List.length_take lP app_ef fQ
theorem zU:(BH u c r i).length≤2:=by
  cases i with
  | zero=>simp[BH]
  | succ i=>exact HO
theorem c_right (hu:WU u)(wc:WC u c)(hk:k<l.length)(hl:l.length<1000000)(hit:∀r∈l,r.items.length<1000000):CB 32 [.agg [.vec u.globals.length (encI u.globals),.vec u.c6.length (j4 u.c6),.vec u.procs.length (r7 u.procs),.int .i64 u.main,.vec c.insts.length (v8 c.insts),.vec c.calls.length (z9 c.calls),.vec c.roots.length (encI c.roots),.vec l.length (encRus l)],.int .i64 ((k:Nat):Int)] h (.bool (pT u c l k)):=by
  refine .bz Tryz.f32 110 ?_;have hml:=hu.ml;have hwl:=wc.len;have hwc:=wc.cl;have hri:(l.getD k g7).items.length<1000000:=hit _ (l6 hk);refine c136z ?_;refine c30z ?_;refine .spl 19 rfl rfl (fun e1=>?_) (fun e1=>?_)
  ·try simp only[e1]
   have qe1:=fact e1;refine .k 8 [(3,19)] ?_;refine .k 8 [(12,28),(16,32)] ?_;refine .m [(12,28),(16,32)] ?_;refine c50z ?_;exact .ret (.ex (hq:=t103))
  try simp only[e1]
  have qe1:=fact e1;refine .k 8 [(3,19)] ?_;refine .e 1 ?_;refine .spl 28 rfl rfl (fun e2=>?_) (fun e2=>?_)
  ·try simp only[e2]
   have qe2:=fact e2;refine .k 8 [(12,28),(16,32)] ?_;refine .m [(12,28)] ?_;refine c50z ?_;exact .ret (.ex (hq:=t103))
  try simp only[e2]
  have qe2:=fact e2;refine .k 4 [(12,28)] ?_;refine .spl 32 rfl rfl (fun e3=>?_) (fun e3=>?_)
  ·try simp only[e3]
   have qe3:=fact e3;refine .m [(12,28),(16,32)] ?_;refine u2z ?_ ?_
   ·intro e4 qe4;refine c4z ?_;exact .ret (.ex (hq:=t103))
   intro e4 qe4;refine .sk ?_;refine .c9 [1,2,5] ?_;have w:WIt u (c.insts.getD (l.getD k g7).inst.toNat j7):=wc.wi _ (l6 (by omega));have w1:=w.lo;have w2:=w.hi;have hsz:(g9 u (c.insts.getD (l.getD k g7).inst.toNat j7)).length≤1664:=aY hu w;have hwr:=wc.cll (l.getD k g7).inst.toNat (by omega);refine c13z ?_;refine .ca rfl rfl (O6 hu wc (by omega) (by omega)) ?_;refine c296z ?_;refine g6.tU (t:=7) (γ:=h.length+2) (len:=1) (e:=3) (K:=1) (g:=0) (zs:=encI [0]) t47 rfl (by omega) (pK _) (oC (by decide) rfl) ?_;rw[aE];simp only[u4,List.set_cons_succ,List.set_cons_zero];generalize eI _ _ _ _ _=Vb;refine .aD (fun m st=>∃(i:Nat),(m=(l.getD k g7).items.length-i∧((∀d,d<i→pS u c l k (l.getD k g7) d)∧i≤(l.getD k g7).items.length))∧st=⟨mkS 110 [(1,AV.int .i64 ((k:Nat):Int)),(2,AV.ptr h.length 0 0),(5,AV.ptr (h.length+1) 0 0),(6,AV.vec (g9 u (c.insts.getD (l.getD k g7).inst.toNat j7)).length (s3 (g9 u (c.insts.getD (l.getD k g7).inst.toNat j7)))),(7,AV.vec (BH u c (l.getD k g7) i).length (encI (BH u c (l.getD k g7) i))),(45,AV.vec (l.getD k g7).items.length (j6 (l.getD k g7).items)),(46,AV.int .i64 (((l.getD k g7).items.length:Nat):Int)),(47,AV.int .i64 ((i:Nat):Int))],h++[⟨0,false,84,8,[.vec u.globals.length (encI u.globals),.vec u.c6.length (j4 u.c6),.vec u.procs.length (r7 u.procs),.int .i64 u.main,.vec c.insts.length (v8 c.insts),.vec c.calls.length (z9 c.calls),.vec c.roots.length (encI c.roots),.vec l.length (encRus l)],0⟩,⟨0,false,53,3,[.int .i64 (l.getD k g7).inst,.bool (l.getD k g7).op',.vec (l.getD k g7).items.length (j6 (l.getD k g7).items)],0⟩,Vb]⟩) (.v ⟨0,⟨rfl,⟨t104,by omega⟩⟩,rfl⟩) ?_ (he:=by rfl);rintro m sl h' ⟨i,⟨hm,⟨hI,hi⟩⟩,hst⟩;obtain ⟨rfl,rfl⟩:=St.mk.inj hst;clear hst;have hwy:=zU (u:=u) (c:=c) (r:=(l.getD k g7)) (i:=i);refine c20z ?_;refine u2z ?_ ?_
   ·intro e5 qe5;refine c5z ?_;refine c136z ?_;refine .c9 [1,2,5,6,7,9,10,45,46,47] ?_;refine c30z ?_;refine .spl 61 rfl rfl (fun e6=>?_) (fun e6=>?_)
    ·try simp only[e6]
     have qe6:=fact e6;refine .k 8 [(3,61),(10,68)] ?_;refine .m [(10,68)] ?_;refine c50z ?_;exact .ret (.ex (hq:=t43))
    try simp only[e6]
    have qe6:=fact e6;refine .k 7 [(3,61)] ?_;refine .spl 68 rfl rfl (fun e7=>?_) (fun e7=>?_)
    ·try simp only[e7]
     have qe7:=fact e7;refine .m [(10,68)] ?_;refine c50z ?_;exact .ret (.ex (hq:=t43))
    try simp only[e7]
    have qe7:=fact e7;refine .k 3 [(10,68)] ?_;refine .ca rfl rfl (SF (BH u c (l.getD k g7) i) (by omega)) ?_;refine .m [(10,68)] ?_;refine u2z ?_ ?_
    ·intro e8 qe8;refine c4z ?_;exact .ret (.ex (hq:=t43))
    intro e8 qe8;refine c116z ?_;refine .c9 [1,2,5,6,9,10,45,46,47] ?_;refine .ss w7 (mkP 22 [0,0,2,7,15,31,63,0,128,384,896,1920,3968,8191,16383,32767,32767,32767,32767,524287,1048575,2097151] []) ?_;refine .k 8 [] ?_;refine .k 1 [] ?_;refine .spl 83 rfl rfl (fun e9=>?_) (fun e9=>?_)
    ·try simp only[e9]
     have qe9:=fact e9;refine .k 6 [(8,83)] ?_;refine .spl 89 rfl rfl (fun e10=>?_) (fun e10=>?_)
     ·try simp only[e10]
      have qe10:=fact e10;refine .n [(14,89)] ?_;refine c50z ?_;exact .ret (.ex (hq:=t58))
     try simp only[e10]
     have qe10:=fact e10;refine c56z ?_;refine .n [(14,89)] ?_;refine u2z ?_ ?_
     ·intro e11 qe11;refine c4z ?_;exact .ret (.ex (hq:=t58))
     intro e11 qe11;refine c209z ?_;have hl1:i+1=(l.getD k g7).items.length:=(by omega);have hitem:pS u c l k (l.getD k g7) i:=iK (by omega) (by omega) (by simp_all) t73 t143;refine c107z ?_;refine c155z ?_;refine c207z ?_;refine .rz ?_;exact ⟨_,by omega,.v ⟨(i+1),⟨rfl,⟨fun d hd=>if e:d=i then e▸hitem else hI d (by omega),by omega⟩⟩,rfl⟩ (he:=t29)⟩
    try simp only[e9]
    have qe9:=fact e9;refine .k 6 [(8,83)] ?_;refine .spl 89 rfl rfl (fun e12=>?_) (fun e12=>?_)
    ·try simp only[e12]
     have qe12:=fact e12;refine .n [(14,89)] ?_;refine c50z ?_;exact .ret (.ex (hq:=t57))
    try simp only[e12]
    have qe12:=fact e12;refine c56z ?_;refine .n [(14,89)] ?_;refine u2z ?_ ?_
    ·intro e13 qe13;refine c4z ?_;exact .ret (.ex (hq:=t57))
    intro e13 qe13;refine c209z ?_;have hl1:¬(i+1=(l.getD k g7).items.length):=(by omega);have hitem:pS u c l k (l.getD k g7) i:=iK (by omega) (by omega) (by simp_all) t73 t143;refine c107z ?_;refine c155z ?_;refine c207z ?_;refine .rz ?_;exact ⟨_,by omega,.v ⟨(i+1),⟨rfl,⟨fun d hd=>if e:d=i then e▸hitem else hI d (by omega),by omega⟩⟩,rfl⟩ (he:=t29)⟩
   intro e5 qe5;refine c12z ?_;refine c4z ?_;exact .ret (.ex (hq:=t145))
  try simp only[e3]
  have qe3:=fact e3;refine .m [(12,28),(16,32)] ?_;refine c22z ?_;refine .c9 [1,2,5] ?_;have w:WIt u (c.insts.getD (l.getD k g7).inst.toNat j7):=wc.wi _ (l6 (by omega));have w1:=w.lo;have w2:=w.hi;have hsz:(g9 u (c.insts.getD (l.getD k g7).inst.toNat j7)).length≤1664:=aY hu w;have hwr:=wc.cll (l.getD k g7).inst.toNat (by omega);refine c13z ?_;refine .ca rfl rfl (O6 hu wc (by omega) (by omega)) ?_;refine c296z ?_;refine g6.tU (t:=7) (γ:=h.length+2) (len:=1) (e:=3) (K:=1) (g:=0) (zs:=encI [0]) t47 rfl (by omega) (pK _) (oC (by decide) rfl) ?_;rw[aE];simp only[u4,List.set_cons_succ,List.set_cons_zero];generalize eI _ _ _ _ _=Vb;refine .aD (fun m st=>∃(i:Nat),(m=(l.getD k g7).items.length-i∧((∀d,d<i→pS u c l k (l.getD k g7) d)∧i≤(l.getD k g7).items.length))∧st=⟨mkS 110 [(1,AV.int .i64 ((k:Nat):Int)),(2,AV.ptr h.length 0 0),(5,AV.ptr (h.length+1) 0 0),(6,AV.vec (g9 u (c.insts.getD (l.getD k g7).inst.toNat j7)).length (s3 (g9 u (c.insts.getD (l.getD k g7).inst.toNat j7)))),(7,AV.vec (BH u c (l.getD k g7) i).length (encI (BH u c (l.getD k g7) i))),(45,AV.vec (l.getD k g7).items.length (j6 (l.getD k g7).items)),(46,AV.int .i64 (((l.getD k g7).items.length:Nat):Int)),(47,AV.int .i64 ((i:Nat):Int))],h++[⟨0,false,84,8,[.vec u.globals.length (encI u.globals),.vec u.c6.length (j4 u.c6),.vec u.procs.length (r7 u.procs),.int .i64 u.main,.vec c.insts.length (v8 c.insts),.vec c.calls.length (z9 c.calls),.vec c.roots.length (encI c.roots),.vec l.length (encRus l)],0⟩,⟨0,false,53,3,[.int .i64 (l.getD k g7).inst,.bool (l.getD k g7).op',.vec (l.getD k g7).items.length (j6 (l.getD k g7).items)],0⟩,Vb]⟩) (.v ⟨0,⟨rfl,⟨t104,by omega⟩⟩,rfl⟩) ?_ (he:=by rfl);rintro m sl h' ⟨i,⟨hm,⟨hI,hi⟩⟩,hst⟩;obtain ⟨rfl,rfl⟩:=St.mk.inj hst;clear hst;have hwy:=zU (u:=u) (c:=c) (r:=(l.getD k g7)) (i:=i);refine c20z ?_;refine u2z ?_ ?_
  ·intro e14 qe14;refine c5z ?_;refine c136z ?_;refine .c9 [1,2,5,6,7,9,10,45,46,47] ?_;refine c30z ?_;refine .spl 61 rfl rfl (fun e15=>?_) (fun e15=>?_)
   ·try simp only[e15]
    have qe15:=fact e15;refine .k 8 [(3,61),(10,68)] ?_;refine .m [(10,68)] ?_;refine c50z ?_;exact .ret (.ex (hq:=t43))
   try simp only[e15]
   have qe15:=fact e15;refine .k 7 [(3,61)] ?_;refine .spl 68 rfl rfl (fun e16=>?_) (fun e16=>?_)
   ·try simp only[e16]
    have qe16:=fact e16;refine .m [(10,68)] ?_;refine c50z ?_;exact .ret (.ex (hq:=t43))
   try simp only[e16]
   have qe16:=fact e16;refine .k 3 [(10,68)] ?_;refine .ca rfl rfl (SF (BH u c (l.getD k g7) i) (by omega)) ?_;refine .m [(10,68)] ?_;refine u2z ?_ ?_
   ·intro e17 qe17;refine c4z ?_;exact .ret (.ex (hq:=t43))
   intro e17 qe17;refine c116z ?_;refine .c9 [1,2,5,6,9,10,45,46,47] ?_;refine .ss w7 (mkP 22 [0,0,2,7,15,31,63,0,128,384,896,1920,3968,8191,16383,32767,32767,32767,32767,524287,1048575,2097151] []) ?_;refine .k 8 [] ?_;refine .k 1 [] ?_;refine .spl 83 rfl rfl (fun e18=>?_) (fun e18=>?_)
   ·try simp only[e18]
    have qe18:=fact e18;refine .k 6 [(8,83)] ?_;refine .spl 89 rfl rfl (fun e19=>?_) (fun e19=>?_)
    ·try simp only[e19]
     have qe19:=fact e19;refine .n [(14,89)] ?_;refine c50z ?_;exact .ret (.ex (hq:=t58))
    try simp only[e19]
    have qe19:=fact e19;refine c56z ?_;refine .n [(14,89)] ?_;refine u2z ?_ ?_
    ·intro e20 qe20;refine c4z ?_;exact .ret (.ex (hq:=t58))
    intro e20 qe20;refine c209z ?_;have hl1:i+1=(l.getD k g7).items.length:=(by omega);have hitem:pS u c l k (l.getD k g7) i:=iK (by omega) (by omega) (by simp_all) t73 t143;refine c107z ?_;refine c155z ?_;refine c207z ?_;refine .rz ?_;exact ⟨_,by omega,.v ⟨(i+1),⟨rfl,⟨fun d hd=>if e:d=i then e▸hitem else hI d (by omega),by omega⟩⟩,rfl⟩ (he:=t29)⟩
   try simp only[e18]
   have qe18:=fact e18;refine .k 6 [(8,83)] ?_;refine .spl 89 rfl rfl (fun e21=>?_) (fun e21=>?_)
   ·try simp only[e21]
    have qe21:=fact e21;refine .n [(14,89)] ?_;refine c50z ?_;exact .ret (.ex (hq:=t57))
   try simp only[e21]
   have qe21:=fact e21;refine c56z ?_;refine .n [(14,89)] ?_;refine u2z ?_ ?_
   ·intro e22 qe22;refine c4z ?_;exact .ret (.ex (hq:=t57))
   intro e22 qe22;refine c209z ?_;have hl1:¬(i+1=(l.getD k g7).items.length):=(by omega);have hitem:pS u c l k (l.getD k g7) i:=iK (by omega) (by omega) (by simp_all) t73 t143;refine c107z ?_;refine c155z ?_;refine c207z ?_;refine .rz ?_;exact ⟨_,by omega,.v ⟨(i+1),⟨rfl,⟨fun d hd=>if e:d=i then e▸hitem else hI d (by omega),by omega⟩⟩,rfl⟩ (he:=t29)⟩
  intro e14 qe14;refine c12z ?_;refine c4z ?_;exact .ret (.ex (hq:=t145))
theorem SR (a b:Ef):z5 (h++[b0,b1,b2,⟨0,false,63,3,[.int .i64 a.lo,.int .i64 a.hi,.int .i64 a.net],0⟩]) (h++[b0,b1,b2,⟨0,false,63,3,[.int .i64 b.lo,.int .i64 b.hi,.int .i64 b.net],0⟩]):=(z5.refl h).app rfl ⟨.inl rfl,.inl rfl,.inl rfl,.inr (dP.get ⟨.int _ _,.int _ _,.int _ _,trivial⟩),trivial⟩
theorem c_effOf (hu:WU u)(wc:WC u c)(hk:k<l.length)(hl:l.length<1000000)(hit:∀r∈l,r.items.length<1000000)(hr:iD u c l k)(hbl:bf.length=k)(hbs:∀e∈bf,smE e)(mt:Int):CB 33 [.agg [.vec u.globals.length (encI u.globals),.vec u.c6.length (j4 u.c6),.vec u.procs.length (r7 u.procs),.int .i64 u.main,.vec c.insts.length (v8 c.insts),.vec c.calls.length (z9 c.calls),.vec c.roots.length (encI c.roots),.vec l.length (encRus l)],.int .i64 ((k:Nat):Int),.int .i64 mt,.vec bf.length (aG bf)] h (.agg [.int .i64 (iZ u c mt bf (l.getD k g7) (l.getD k g7).items.length).lo,.int .i64 (iZ u c mt bf (l.getD k g7) (l.getD k g7).items.length).hi,.int .i64 (iZ u c mt bf (l.getD k g7) (l.getD k g7).items.length).net]):=by
  refine .bz Tryz.f33 54 ?_;have hml:=hu.ml;have hwl:=wc.len;have hwc:=wc.cl;have hri:(l.getD k g7).items.length<1000000:=hit _ (l6 hk);have hi0:=hr.i0;have hi1:=hr.i1;have w:WIt u (c.insts.getD (l.getD k g7).inst.toNat j7):=wc.wi _ (l6 (by omega));have w1:=w.lo;have w2:=w.hi;have hsz:(g9 u (c.insts.getD (l.getD k g7).inst.toNat j7)).length≤1664:=aY hu w;have hwr:=wc.cll (l.getD k g7).inst.toNat (by omega);refine c263z ?_;refine c55z ?_;refine .c9 [2,3,4,8,9,10] ?_;refine c36z ?_;refine .aD (fun m st=>∃(j:Nat),(m=(l.getD k g7).items.length-j∧(j≤(l.getD k g7).items.length))∧st=⟨mkS 54 [(2,AV.int .i64 mt),(3,AV.vec bf.length (aG bf)),(4,AV.ptr h.length 0 0),(8,AV.ptr (h.length+1) 0 0),(9,AV.ptr (h.length+2) 0 0),(10,AV.ptr (h.length+3) 0 0),(21,AV.vec (l.getD k g7).items.length (j6 (l.getD k g7).items)),(22,AV.int .i64 (((l.getD k g7).items.length:Nat):Int)),(23,AV.int .i64 ((j:Nat):Int))],h++[⟨0,false,84,8,[.vec u.globals.length (encI u.globals),.vec u.c6.length (j4 u.c6),.vec u.procs.length (r7 u.procs),.int .i64 u.main,.vec c.insts.length (v8 c.insts),.vec c.calls.length (z9 c.calls),.vec c.roots.length (encI c.roots),.vec l.length (encRus l)],0⟩,⟨0,false,63,3,[.int .i64 0,.int .i64 0,.int .i64 0],0⟩,⟨0,false,53,3,[.int .i64 (l.getD k g7).inst,.bool (l.getD k g7).op',.vec (l.getD k g7).items.length (j6 (l.getD k g7).items)],0⟩,⟨0,false,63,3,[.int .i64 (iZ u c mt bf (l.getD k g7) j).lo,.int .i64 (iZ u c mt bf (l.getD k g7) j).hi,.int .i64 (iZ u c mt bf (l.getD k g7) j).net],0⟩]⟩) (.v ⟨0,⟨rfl,by omega⟩,rfl⟩) ?_ (he:=by rfl);rintro m sl h' ⟨j,⟨hm,hj⟩,hst⟩;obtain ⟨rfl,rfl⟩:=St.mk.inj hst;clear hst;refine c20z ?_;refine u2z ?_ ?_
  ·intro e1 qe1;refine c5z ?_;have ic:=SQ hr (i:=j) (by omega);have ic0:=ic.1;have ic1:=ic.2.1;have ic2:=ic.2.2;have own:=IH (u:=u) (c:=c) (m:=mt) (r:=(l.getD k g7)) (x:=((l.getD k g7).items.getD j (0,0))) hbs (by omega);refine .z ?_;refine .sg w7 (mkH 16 [0,1,0,4,12,0,32,124,252,0,512,0,4095,8191,0,32767] [14,15] [] [0,16384,49152] [0,1,2,3,4,5,6,7,8,9,10,11,12,13]) 0 ?_;refine c204z ?_;refine c118z ?_;refine c38z ?_;refine c38z ?_;refine .p 1 ?_;refine .cl rfl rfl (fun _=>IG hu w ic.1 ic.2.1 mt) ?_;refine .cl rfl rfl (fun _=>c_of _ t123 t123) ?_;refine c202z ?_;refine c35z ?_;refine c35z ?_;refine c166z ?_;refine .seq ?_;refine .c9 [2,3,4,8,9,10,12,13,21,22,23] ?_;refine .z ?_;refine u2z ?_ ?_
   ·intro e2 qe2;refine c1z ?_;refine .c9 [2,3,4,8,9,10,13,21,22,23] ?_;refine .r ?_;refine .e 2 ?_;refine .ca rfl rfl (SD (iZ u c mt bf (l.getD k g7) j) (bf.getD ((l.getD k g7).items.getD j (0,0)).2.toNat W2) (pU (by omega)) (by rw[←YE (u:=u) (c:=c) (m:=mt) (r:=(l.getD k g7)) (by omega)];exact own)) ?_;refine c42z ?_;refine .rz ?_;exact ⟨_,by omega,.v ⟨(j+1),⟨rfl,by omega⟩,rfl⟩ (he:=t169) (hk:=by exact SR _ _)⟩
   intro e2 qe2;refine .sk ?_;refine .r ?_;refine .e 2 ?_;refine .ca rfl rfl (SD (iZ u c mt bf (l.getD k g7) j) (ofE (chI (c.insts.getD (l.getD k g7).inst.toNat j7) ((g9 u (c.insts.getD (l.getD k g7).inst.toNat j7)).getD ((l.getD k g7).items.getD j (0,0)).1.toNat l5) mt)) (pU (by omega)) (by rw[←YD (bf:=bf) (by omega)];exact own)) ?_;refine c42z ?_;refine .c9 [2,3,4,8,9,10,21,22,23] ?_;refine .rz ?_;exact ⟨_,by omega,.v ⟨(j+1),⟨rfl,by omega⟩,rfl⟩ (he:=t170) (hk:=by exact SR _ _)⟩
  intro e1 qe1;refine c12z ?_;refine .c9 [8,10] ?_;refine .z ?_;exact .ret (.ex (hq:=t159))
theorem PT (hu:WU u)(wc:WC u c)(hk:k<l.length)(hl:l.length<1000000)(hit:∀r∈l,r.items.length<1000000)(hr:iD u c l k)(hbl:bf.length=k)(hbs:∀e∈bf,smE e)(mt:Int)(hβ:H[β]?=some (n4 63 3 g (aG bf))):CB 33 [.agg [.vec u.globals.length (encI u.globals),.vec u.c6.length (j4 u.c6),.vec u.procs.length (r7 u.procs),.int .i64 u.main,.vec c.insts.length (v8 c.insts),.vec c.calls.length (z9 c.calls),.vec c.roots.length (encI c.roots),.vec l.length (encRus l)],.int .i64 ((k:Nat):Int),.int .i64 mt,.own β g 0 k] H (.agg [.int .i64 (iZ u c mt bf (l.getD k g7) (l.getD k g7).items.length).lo,.int .i64 (iZ u c mt bf (l.getD k g7) (l.getD k g7).items.length).hi,.int .i64 (iZ u c mt bf (l.getD k g7) (l.getD k g7).items.length).net]):=by subst hbl;exact CallA.borrowR (Rel.ints (fun x hx=>by simp only[List.mem_cons,List.not_mem_nil,or_false]at hx;rcases hx with rfl | rfl | rfl<;>exact ⟨_,rfl⟩)) (args':=[.agg [.vec u.globals.length (encI u.globals),.vec u.c6.length (j4 u.c6),.vec u.procs.length (r7 u.procs),.int .i64 u.main,.vec c.insts.length (v8 c.insts),.vec c.calls.length (z9 c.calls),.vec c.roots.length (encI c.roots),.vec l.length (encRus l)],.int .i64 ((bf.length:Nat):Int),.int .i64 mt,.vec bf.length (aG bf)]) (args:=[.agg [.vec u.globals.length (encI u.globals),.vec u.c6.length (j4 u.c6),.vec u.procs.length (r7 u.procs),.int .i64 u.main,.vec c.insts.length (v8 c.insts),.vec c.calls.length (z9 c.calls),.vec c.roots.length (encI c.roots),.vec l.length (encRus l)],.int .i64 ((bf.length:Nat):Int),.int .i64 mt,.own β g 0 bf.length]) ⟨.inr rfl,.inr rfl,.inr rfl,.inr (frz_efS hβ rfl),trivial⟩ ((c_effOf hu wc hk hl hit hr rfl hbs mt).mono fun y k hq=>hq.1)
theorem keep_g (g1 g2:Nat)(a b:List Ef):z5 (h++[b0,b1,b2,b3,n4 63 3 g1 (aG a)]) (h++[b0,b1,b2,b3,n4 63 3 g2 (aG b)]):=(z5.refl h).app rfl ⟨.inl rfl,.inl rfl,.inl rfl,.inl rfl,.inr (by rw[o5];exact (zT _).refs _),trivial⟩
theorem G6 (hu:WU u)(wc:WC u c)(hl:l.length<1000000)(hit:∀r∈l,r.items.length<1000000){xi xp xd:Int}:CB 10 [.agg [.vec u.globals.length (encI u.globals),.vec u.c6.length (j4 u.c6),.vec u.procs.length (r7 u.procs),.int .i64 u.main],.agg [.vec c.insts.length (v8 c.insts),.vec c.calls.length (z9 c.calls),.vec c.roots.length (encI c.roots)],.agg [.int .i64 lock,.int .i64 xi,.int .i64 xp,.int .i64 xd,.vec l.length (encRus l)]] h (.tup [.vec (O9 u c lock l).1.length (aG (O9 u c lock l).1),.int .i64 (O9 u c lock l).2.1,.int .i64 (O9 u c lock l).2.2]):=by
  refine .bz Tryz.f10 52 ?_;have hml:=hu.ml;have hwl:=wc.len;refine c20z ?_;refine c30z ?_;refine .spl 15 rfl rfl (fun e1=>?_) (fun e1=>?_)
  ·try simp only[e1]
   have qe1:=fact e1;refine .m [(3,15)] ?_;refine c50z ?_;exact .ret (.ex (hf:=t100) (hq:=t212))
  try simp only[e1]
  have qe1:=fact e1;refine .m [(3,15)] ?_;refine u2z ?_ ?_
  ·intro e2 qe2;refine c4z ?_;exact .ret (.ex (hf:=t100) (hq:=t212))
  intro e2 qe2;refine .sk ?_;refine .c9 [3,4,5] ?_;refine c87z ?_;refine g6.oB 10 rfl ?_;refine .aD (fun m st=>∃(k:Nat),(m=l.length-k∧((∀d,d<k→iD u c l d)∧k≤l.length))∧st=⟨mkS 52 [(5,AV.ptr (h.length+2) 0 0),(9,AV.ptr (h.length+3) 0 0),(10,AV.own (h.length+4) k 0 k),(30,AV.int .i64 ((l.length:Nat):Int)),(31,AV.int .i64 ((k:Nat):Int))],h++[⟨0,false,30,4,[.vec u.globals.length (encI u.globals),.vec u.c6.length (j4 u.c6),.vec u.procs.length (r7 u.procs),.int .i64 u.main],0⟩,⟨0,false,34,3,[.vec c.insts.length (v8 c.insts),.vec c.calls.length (z9 c.calls),.vec c.roots.length (encI c.roots)],0⟩,⟨0,false,39,5,[.int .i64 lock,.int .i64 xi,.int .i64 xp,.int .i64 xd,.vec l.length (encRus l)],0⟩,⟨0,false,84,8,[.vec u.globals.length (encI u.globals),.vec u.c6.length (j4 u.c6),.vec u.procs.length (r7 u.procs),.int .i64 u.main,.vec c.insts.length (v8 c.insts),.vec c.calls.length (z9 c.calls),.vec c.roots.length (encI c.roots),.vec l.length (encRus l)],0⟩,n4 63 3 k (aG (uZ u c lock l k))]⟩) (.v ⟨0,⟨rfl,⟨t104,by omega⟩⟩,rfl⟩ (hs:=t40)) ?_;rintro m sl h' ⟨k,⟨hm,⟨hA,hk0⟩⟩,hst⟩;obtain ⟨rfl,rfl⟩:=St.mk.inj hst;clear hst;have hel:=fQ (u:=u) (c:=c) (m:=lock) (l:=l) (k:=k);refine c20z ?_;refine u2z ?_ ?_
  ·intro e3 qe3;refine c5z ?_;refine c20z ?_;refine c45z ?_;refine .ca rfl rfl (c_right hu wc (by omega) hl hit) ?_;refine .n ?_;refine u2z ?_ ?_
   ·intro e4 qe4;refine .c9 [11] ?_;refine .z ?_;exact .ret (.ex (hf:=t100) (hq:=t194))
   intro e4 qe4;refine .sk ?_;have hR:iD u c l k:=jQ.1 (by simp_all);refine .r ?_;refine .e 6 ?_;refine .ca rfl rfl (PT hu wc (by omega) hl hit hR (fQ) (fun e he=>O4 e he) lock t47) ?_;refine c42z ?_;refine .c9 [5,9,10,30,31] ?_;refine .rz ?_;exact ⟨_,by omega,.v ⟨(k+1),⟨rfl,⟨fun d hd=>if e:d=k then e▸hR else hA d (by omega),by omega⟩⟩,rfl⟩ (he:=t121) (hk:=by exact keep_g _ _ _ _) (hs:=t40)⟩
  intro e3 qe3;refine c12z ?_;refine .z ?_;exact .ret (.ex (hf:=t100) (hq:=t195))
theorem PU (hu:WU u)(wc:WC u c)(hk:k<l.length)(hl:l.length<1000000)(hit:∀r∈l,r.items.length<1000000):CB 34 [.agg [.vec u.globals.length (encI u.globals),.vec u.c6.length (j4 u.c6),.vec u.procs.length (r7 u.procs),.int .i64 u.main],.agg [.vec c.insts.length (v8 c.insts),.vec c.calls.length (z9 c.calls),.vec c.roots.length (encI c.roots)],.vec l.length (encRus l),.int .i64 ((k:Nat):Int)] h (.bool (pT u c l k)):=by
  refine .bz Tryz.f34 166 ?_;have hml:=hu.ml;have hwl:=wc.len;have hwc:=wc.cl;have hri:(l.getD k g7).items.length<1000000:=hit _ (l6 hk);refine c136z ?_;refine c30z ?_;refine .spl 23 rfl rfl (fun e1=>?_) (fun e1=>?_)
  ·try simp only[e1]
   have qe1:=fact e1;refine .m [(3,23)] ?_;refine c50z ?_;exact .ret (.ex (hq:=t196))
  try simp only[e1]
  have qe1:=fact e1;refine .m [(3,23)] ?_;refine u2z ?_ ?_
  ·intro e2 qe2;refine c4z ?_;exact .ret (.ex (hq:=t196))
  intro e2 qe2;refine .sk ?_;refine .c9 [2,3,4,5,9] ?_;have w:WIt u (c.insts.getD (l.getD k g7).inst.toNat j7):=wc.wi _ (l6 (by omega));have w1:=w.lo;have w2:=w.hi;have hsz:(g9 u (c.insts.getD (l.getD k g7).inst.toNat j7)).length≤1664:=aY hu w;have hwr:=wc.cll (l.getD k g7).inst.toNat (by omega);refine .ss w7 (mkP 13 [0,1,0,4,0,16,60,124,252,511,1023,2047,4095] []) ?_;refine c190z ?_;refine .c9 [2,3,4,5,9,10] ?_;refine c25z ?_;refine g6.tU (t:=11) (γ:=h.length+3) (len:=1) (e:=3) (K:=1) (g:=0) (zs:=encI [0]) t47 rfl (by omega) (pK _) (oC (by decide) rfl) ?_;rw[aE];simp only[u4,List.set_cons_succ,List.set_cons_zero];generalize eI _ _ _ _ _=Vb;refine .aD (fun m st=>∃(i:Nat),(m=(l.getD k g7).items.length-i∧((∀d,d<i→pS u c l k (l.getD k g7) d)∧i≤(l.getD k g7).items.length))∧st=⟨mkS 166 [(2,AV.vec l.length (encRus l)),(3,AV.int .i64 ((k:Nat):Int)),(4,AV.ptr h.length 0 0),(5,AV.ptr (h.length+1) 0 0),(9,AV.ptr (h.length+2) 0 0),(10,AV.vec (g9 u (c.insts.getD (l.getD k g7).inst.toNat j7)).length (s3 (g9 u (c.insts.getD (l.getD k g7).inst.toNat j7)))),(11,AV.vec (BH u c (l.getD k g7) i).length (encI (BH u c (l.getD k g7) i))),(12,AV.int .i64 ((i:Nat):Int))],h++[⟨0,false,30,4,[.vec u.globals.length (encI u.globals),.vec u.c6.length (j4 u.c6),.vec u.procs.length (r7 u.procs),.int .i64 u.main],0⟩,⟨0,false,34,3,[.vec c.insts.length (v8 c.insts),.vec c.calls.length (z9 c.calls),.vec c.roots.length (encI c.roots)],0⟩,⟨0,false,53,3,[.int .i64 (l.getD k g7).inst,.bool (l.getD k g7).op',.vec (l.getD k g7).items.length (j6 (l.getD k g7).items)],0⟩,Vb]⟩) (.v ⟨0,⟨rfl,⟨t104,by omega⟩⟩,rfl⟩) ?_ (he:=by rfl);rintro m sl h' ⟨i,⟨hm,⟨hI,hi⟩⟩,hst⟩;obtain ⟨rfl,rfl⟩:=St.mk.inj hst;clear hst;have hwy:=zU (u:=u) (c:=c) (r:=(l.getD k g7)) (i:=i);refine c0z ?_;refine u2z ?_ ?_
  ·intro e3 qe3;refine c5z ?_;refine .sg w7 (mkH 14 [0,1,0,7,15,0,0,64,192,448,992,0,2079,8191] [11,12] [] [0,2048,6144] [0,1,2,3,4,5,6,7,8,9,10]) 0 ?_;refine c38z ?_;refine c175z ?_;refine c175z ?_;refine .p 3 ?_;refine c208z ?_;refine .p 1 ?_;refine .po [true,true,true] ?_;refine c162z ?_;refine .seq ?_;refine .c9 [2,3,4,5,9,10,11,12,13,14] ?_;refine c30z ?_;refine .spl 65 rfl rfl (fun e4=>?_) (fun e4=>?_)
   ·try simp only[e4]
    have qe4:=fact e4;refine .k 8 [(3,65),(10,72)] ?_;refine .m [(10,72)] ?_;refine c50z ?_;exact .ret (.ex (hq:=t43))
   try simp only[e4]
   have qe4:=fact e4;refine .k 7 [(3,65)] ?_;refine .spl 72 rfl rfl (fun e5=>?_) (fun e5=>?_)
   ·try simp only[e5]
    have qe5:=fact e5;refine .m [(10,72)] ?_;refine c50z ?_;exact .ret (.ex (hq:=t43))
   try simp only[e5]
   have qe5:=fact e5;refine .k 3 [(10,72)] ?_;refine .ca rfl rfl (c_in (BH u c (l.getD k g7) i) (by omega)) ?_;refine .m [(10,72)] ?_;refine u2z ?_ ?_
   ·intro e6 qe6;refine c4z ?_;exact .ret (.ex (hq:=t43))
   intro e6 qe6;refine .sk ?_;refine .c9 [2,3,4,5,9,10,12,13,14] ?_;refine c264z ?_;refine .spl 88 rfl rfl (fun e7=>?_) (fun e7=>?_)
   ·try simp only[e7]
    have qe7:=fact e7;refine .m [(2,88)] ?_;refine u2z ?_ ?_
    ·intro e8 qe8;refine c4z ?_;exact .ret (.ex (hq:=by (refine congrArg AV.bool (fP (fun hh=>?_)).symm;have a:=pX hh (i:=i) (by omega);have hl1:i+1=(l.getD k g7).items.length:=(by omega);unfold KC at a;simp only[hl1,decide_true,decide_false]at a<;>simp_all)))
    intro e8 qe8;refine c116z ?_;refine .c9 [2,3,4,5,9,10,12,13,14] ?_;refine .z ?_;refine u2z ?_ ?_
    ·intro e9 qe9;have hop:=HZ hu w (pc:=((l.getD k g7).items.getD i (0,0)).1.toNat) (by omega);refine .sg w7 (mkH 44 [0,1,3,7,15,31,15,127,255,511,1023,1023,3071,8191,16383,32767,1023,66559,1023,263167,984063,2032639,1023,4195327,16712703,33489919,67108863,134217727,268435455,536870911,536870911,1610612735,4294967295,8589934591,17179869183,34359738367,68719476735,137438953471,274877906943,549755813887,1099511627775,2199023255551,4398046511103,8796093022207] [] [] [0] []) 0 ?_;refine .p 1 ?_;refine c89z ?_;refine .split 104 rfl (fun e10=>?_) (fun e10=>?_)
     ·try simp only[e10]
      have qe10:=fact e10;refine c156z ?_;refine c156z ?_;refine c156z ?_;refine .p 4 ?_;refine c185z ?_;exact .ret (.ex (hq:=t22))
     try simp only[e10]
     have qe10:=fact e10;refine .p 1 ?_;refine c145z ?_;refine .split 110 rfl (fun e11=>?_) (fun e11=>?_)
     ·try simp only[e11]
      have qe11:=fact e11;refine c156z ?_;refine c156z ?_;refine .p 6 ?_;refine .p 4 ?_;refine c185z ?_;exact .ret (.ex (hq:=t22))
     try simp only[e11]
     have qe11:=fact e11;refine .p 2 ?_;refine c233z ?_;refine c235z ?_;refine c235z ?_;refine c76z ?_;refine .split 129 rfl (fun e12=>?_) (fun e12=>?_)
     ·try simp only[e12]
      have qe12:=fact e12;refine c156z ?_;refine .p 3 ?_;refine c185z ?_;exact .ret (.ex (hq:=t22))
     try simp only[e12]
     have qe12:=fact e12;refine .p 2 ?_;refine c233z ?_;refine .split 136 rfl (fun e13=>?_) (fun e13=>?_)
     ·try simp only[e13]
      have qe13:=fact e13;refine .p 3 ?_;refine c145z ?_;refine aC.nil rfl ?_;refine u2z ?_ ?_
      ·intro e14 qe14;refine c4z ?_;exact .ret (.ex (hq:=t22))
      intro e14 qe14;refine .sk ?_;refine .c9 [2,3,4,5,9,10,12,13] ?_;have hl1:i+1=(l.getD k g7).items.length:=(by omega);have p5:(ptX u c ((l.getD k g7).inst,((l.getD k g7).items.getD i (0,0)).1))=((g9 u (c.insts.getD (l.getD k g7).inst.toNat j7)).getD ((l.getD k g7).items.getD i (0,0)).1.toNat l5):=rfl;have hci:rC u c l k (l.getD k g7) ((l.getD k g7).items.getD i (0,0)) (decide (i+1=(l.getD k g7).items.length))=true:=lL.2 t119;have hitem:pS u c l k (l.getD k g7) i:=iK (by omega) (by omega) (by simp_all) t73 hci;refine c88z ?_;refine c115z ?_;refine c160z ?_;refine .rz ?_;exact ⟨_,by omega,.v ⟨(i+1),⟨rfl,⟨fun d hd=>if e:d=i then e▸hitem else hI d (by omega),by omega⟩⟩,rfl⟩ (he:=t29)⟩
     try simp only[e13]
     have qe13:=fact e13;refine .p 6 ?_;refine .p 2 ?_;refine aC.nil rfl ?_;refine c22z ?_;refine .c9 [2,3,4,5,9,10,12,13] ?_;have hl1:i+1=(l.getD k g7).items.length:=(by omega);have p5:(ptX u c ((l.getD k g7).inst,((l.getD k g7).items.getD i (0,0)).1))=((g9 u (c.insts.getD (l.getD k g7).inst.toNat j7)).getD ((l.getD k g7).items.getD i (0,0)).1.toNat l5):=rfl;have hci:rC u c l k (l.getD k g7) ((l.getD k g7).items.getD i (0,0)) (decide (i+1=(l.getD k g7).items.length))=true:=lL.2 t119;have hitem:pS u c l k (l.getD k g7) i:=iK (by omega) (by omega) (by simp_all) t73 hci;refine c88z ?_;refine c115z ?_;refine c160z ?_;refine .rz ?_;exact ⟨_,by omega,.v ⟨(i+1),⟨rfl,⟨fun d hd=>if e:d=i then e▸hitem else hI d (by omega),by omega⟩⟩,rfl⟩ (he:=t29)⟩
    intro e9 qe9;refine .c9 [2,3,4,5,9,10,12,13] ?_;refine .z ?_;refine u2z ?_ ?_
    ·intro e15 qe15;refine c4z ?_;exact .ret (.ex (hq:=t22))
    intro e15 qe15;refine .sk ?_;have hl1:i+1=(l.getD k g7).items.length:=(by omega);have p5:(ptX u c ((l.getD k g7).inst,((l.getD k g7).items.getD i (0,0)).1))=((g9 u (c.insts.getD (l.getD k g7).inst.toNat j7)).getD ((l.getD k g7).items.getD i (0,0)).1.toNat l5):=rfl;have hci:rC u c l k (l.getD k g7) ((l.getD k g7).items.getD i (0,0)) (decide (i+1=(l.getD k g7).items.length))=true:=lL.2 t208;have hitem:pS u c l k (l.getD k g7) i:=iK (by omega) (by omega) (by simp_all) t73 hci;refine c88z ?_;refine c115z ?_;refine c160z ?_;refine .rz ?_;exact ⟨_,by omega,.v ⟨(i+1),⟨rfl,⟨fun d hd=>if e:d=i then e▸hitem else hI d (by omega),by omega⟩⟩,rfl⟩ (he:=t29)⟩
   try simp only[e7]
   have qe7:=fact e7;refine .m [(2,88)] ?_;refine u2z ?_ ?_
   ·intro e16 qe16;refine c4z ?_;exact .ret (.ex (hq:=by (refine congrArg AV.bool (fP (fun hh=>?_)).symm;have a:=pX hh (i:=i) (by omega);have hl1:¬(i+1=(l.getD k g7).items.length):=(by omega);unfold KC at a;simp only[hl1,decide_true,decide_false]at a<;>simp_all)))
   intro e16 qe16;refine c116z ?_;refine .c9 [2,3,4,5,9,10,12,13,14] ?_;refine .z ?_;refine u2z ?_ ?_
   ·intro e17 qe17;have hop:=HZ hu w (pc:=((l.getD k g7).items.getD i (0,0)).1.toNat) (by omega);refine .sg w7 (mkH 44 [0,1,3,7,15,31,15,127,255,511,1023,1023,3071,8191,16383,32767,1023,66559,1023,263167,984063,2032639,1023,4195327,16712703,33489919,67108863,134217727,268435455,536870911,536870911,1610612735,4294967295,8589934591,17179869183,34359738367,68719476735,137438953471,274877906943,549755813887,1099511627775,2199023255551,4398046511103,8796093022207] [] [] [0] []) 0 ?_;refine .p 1 ?_;refine c89z ?_;refine .split 104 rfl (fun e18=>?_) (fun e18=>?_)
    ·try simp only[e18]
     have qe18:=fact e18;refine c156z ?_;refine c156z ?_;refine c156z ?_;refine .p 4 ?_;refine c185z ?_;exact .ret (.ex (hq:=t21))
    try simp only[e18]
    have qe18:=fact e18;refine .p 1 ?_;refine c145z ?_;refine .split 110 rfl (fun e19=>?_) (fun e19=>?_)
    ·try simp only[e19]
     have qe19:=fact e19;refine c156z ?_;refine c156z ?_;refine .p 6 ?_;refine .p 4 ?_;refine c185z ?_;exact .ret (.ex (hq:=t21))
    try simp only[e19]
    have qe19:=fact e19;refine .p 2 ?_;refine c233z ?_;refine c235z ?_;refine c235z ?_;refine c76z ?_;refine .split 129 rfl (fun e20=>?_) (fun e20=>?_)
    ·try simp only[e20]
     have qe20:=fact e20;refine c156z ?_;refine .p 3 ?_;refine c185z ?_;exact .ret (.ex (hq:=t21))
    try simp only[e20]
    have qe20:=fact e20;refine .p 2 ?_;refine c233z ?_;refine .split 136 rfl (fun e21=>?_) (fun e21=>?_)
    ·try simp only[e21]
     have qe21:=fact e21;refine .p 6 ?_;refine .p 2 ?_;refine c185z ?_;exact .ret (.ex (hq:=t21))
    try simp only[e21]
    have qe21:=fact e21;refine .p 6 ?_;refine .p 2 ?_;refine aC.nil rfl ?_;refine c22z ?_;refine .c9 [2,3,4,5,9,10,12,13] ?_;have hl1:¬(i+1=(l.getD k g7).items.length):=(by omega);have p5:(ptX u c ((l.getD k g7).inst,((l.getD k g7).items.getD i (0,0)).1))=((g9 u (c.insts.getD (l.getD k g7).inst.toNat j7)).getD ((l.getD k g7).items.getD i (0,0)).1.toNat l5):=rfl;have hci:rC u c l k (l.getD k g7) ((l.getD k g7).items.getD i (0,0)) (decide (i+1=(l.getD k g7).items.length))=true:=lL.2 t119;have hitem:pS u c l k (l.getD k g7) i:=iK (by omega) (by omega) (by simp_all) t73 hci;refine c88z ?_;refine c115z ?_;refine c160z ?_;refine .rz ?_;exact ⟨_,by omega,.v ⟨(i+1),⟨rfl,⟨fun d hd=>if e:d=i then e▸hitem else hI d (by omega),by omega⟩⟩,rfl⟩ (he:=t29)⟩
   intro e17 qe17;refine .c9 [2,3,4,5,9,10,12,13] ?_;refine .z ?_;refine u2z ?_ ?_
   ·intro e22 qe22;refine c4z ?_;exact .ret (.ex (hq:=t21))
   intro e22 qe22;refine .sk ?_;have hl1:¬(i+1=(l.getD k g7).items.length):=(by omega);have p5:(ptX u c ((l.getD k g7).inst,((l.getD k g7).items.getD i (0,0)).1))=((g9 u (c.insts.getD (l.getD k g7).inst.toNat j7)).getD ((l.getD k g7).items.getD i (0,0)).1.toNat l5):=rfl;have hci:rC u c l k (l.getD k g7) ((l.getD k g7).items.getD i (0,0)) (decide (i+1=(l.getD k g7).items.length))=true:=lL.2 t208;have hitem:pS u c l k (l.getD k g7) i:=iK (by omega) (by omega) (by simp_all) t73 hci;refine c88z ?_;refine c115z ?_;refine c160z ?_;refine .rz ?_;exact ⟨_,by omega,.v ⟨(i+1),⟨rfl,⟨fun d hd=>if e:d=i then e▸hitem else hI d (by omega),by omega⟩⟩,rfl⟩ (he:=t29)⟩
  intro e3 qe3;refine c12z ?_;refine .c9 [9] ?_;refine c13z ?_;refine .spl 160 rfl rfl (fun e23=>?_) (fun e23=>?_)
  ·try simp only[e23]
   have qe23:=fact e23;refine .m [(2,160)] ?_;exact .ret (.ex (hq:=by exact congrArg AV.bool (jQ.2 ⟨by omega,by omega,fun d hd=>hI d (by omega),.inl (by assumption)⟩).symm))
  try simp only[e23]
  have qe23:=fact e23;refine .m [(2,160)] ?_;exact .ret (.ex (hq:=by exact congrArg AV.bool (if hlen:0<(l.getD k g7).items.length then (decide_eq_true (by omega)).trans (jQ.2 ⟨by omega,by omega,fun d hd=>hI d (by omega),.inr hlen⟩).symm else (decide_eq_false (by omega)).trans (fP (fun hh=>by have h2:=hh.ne;simp_all)).symm)))
theorem app_ef3 {l:c8}{b4 b5:Blk}{e:Ef}(hn:f.length=n)(hl:n<1000000):g8 cfg 63 (h++(b0::b1::b2::n4 63 3 n (aG f)::b4::b5::⟨0,false,63,3,[.int .i64 e.lo,.int .i64 e.hi,.int .i64 e.net],0⟩::l)) (.own (h.length+3) n 0 n) (.own (h.length+6) 0 0 1)=some (.own (h.length+3) (n+1) 0 (n+1),h++(b0::b1::b2::n4 63 3 (n+1) (aG (f++[e]))::b4::b5::⟨0,false,63,3,[.int .i64 e.lo,.int .i64 e.hi,.int .i64 e.net],0⟩::l)):=by subst hn;rw[s9 (C:=cfg) (K:=3) (m:=1) (new:=[.int .i64 e.lo,.int .i64 e.hi,.int .i64 e.net]) (zs:=aG f) t47 rfl (by omega) (by rw[aT];omega) rfl (by omega) t190 rfl (by decide) (by omega),u4,show aG f++[.int .i64 e.lo,.int .i64 e.hi,.int .i64 e.net]=aG (f++[e]) from by simp[aG,PJ]];rfl
theorem BL {e:Nat}(h:0<f.length):(n4 e 3 g (aG f)).cG=false:=by
  cases f with
  | nil=>simp at h
  | cons x f=>rfl
theorem keep_g3 (g1 g2:Nat)(a b:List Ef):z5 (h++[b0,b1,b2,n4 63 3 g1 (aG a)]) (h++[b0,b1,b2,n4 63 3 g2 (aG b)]):=(z5.refl h).app rfl ⟨.inl rfl,.inl rfl,.inl rfl,.inr (by rw[o5];exact (zT _).refs _),trivial⟩
theorem II {b5:Blk}(a b:Ef):z5 (h++[b0,b1,b2,b3,⟨1,false,63,3,[.int .i64 a.lo,.int .i64 a.hi,.int .i64 a.net],0⟩,b5]) (h++[b0,b1,b2,b3,⟨1,false,63,3,[.int .i64 b.lo,.int .i64 b.hi,.int .i64 b.net],0⟩,b5]):=(z5.refl h).app rfl ⟨.inl rfl,.inl rfl,.inl rfl,.inl rfl,.inr (dP.get ⟨.int _ _,.int _ _,.int _ _,trivial⟩),.inl rfl,trivial⟩
attribute [local go_sem] app_ef3 BL pA o5
theorem xA (hu:WU u)(wc:WC u c)(hl:l.length<1000000)(hit:∀r∈l,r.items.length<1000000){xi xp xd:Int}:CB 11 [.agg [.vec u.globals.length (encI u.globals),.vec u.c6.length (j4 u.c6),.vec u.procs.length (r7 u.procs),.int .i64 u.main],.agg [.vec c.insts.length (v8 c.insts),.vec c.calls.length (z9 c.calls),.vec c.roots.length (encI c.roots)],.agg [.int .i64 lock,.int .i64 xi,.int .i64 xp,.int .i64 xd,.vec l.length (encRus l)]] h (.tup [.vec (O9 u c lock l).1.length (aG (O9 u c lock l).1),.int .i64 (O9 u c lock l).2.1,.int .i64 (O9 u c lock l).2.2]):=by
  refine .bz Tryz.f11 97 ?_;have hml:=hu.ml;have hwl:=wc.len;have hwc:=wc.cl;refine c20z ?_;refine c30z ?_;refine .spl 17 rfl rfl (fun e1=>?_) (fun e1=>?_)
  ·try simp only[e1]
   have qe1:=fact e1;refine .m [(3,17)] ?_;refine c50z ?_;exact .ret (.ex (hf:=t100) (hq:=t212))
  try simp only[e1]
  have qe1:=fact e1;refine .m [(3,17)] ?_;refine u2z ?_ ?_
  ·intro e2 qe2;refine c4z ?_;exact .ret (.ex (hf:=t100) (hq:=t212))
  intro e2 qe2;refine .sk ?_;refine .c9 [3,4,5] ?_;refine c25z ?_;refine g6.oB 9 rfl ?_;refine .aD (fun m st=>∃(k:Nat),(m=l.length-k∧((∀d,d<k→iD u c l d)∧k≤l.length))∧st=⟨mkS 97 [(3,AV.ptr h.length 0 0),(4,AV.ptr (h.length+1) 0 0),(5,AV.ptr (h.length+2) 0 0),(9,AV.own (h.length+3) k 0 k),(10,AV.int .i64 ((k:Nat):Int))],h++[⟨0,false,30,4,[.vec u.globals.length (encI u.globals),.vec u.c6.length (j4 u.c6),.vec u.procs.length (r7 u.procs),.int .i64 u.main],0⟩,⟨0,false,34,3,[.vec c.insts.length (v8 c.insts),.vec c.calls.length (z9 c.calls),.vec c.roots.length (encI c.roots)],0⟩,⟨0,false,39,5,[.int .i64 lock,.int .i64 xi,.int .i64 xp,.int .i64 xd,.vec l.length (encRus l)],0⟩,n4 63 3 k (aG (uZ u c lock l k))]⟩) (.v ⟨0,⟨rfl,⟨t104,by omega⟩⟩,rfl⟩ (hs:=t40)) ?_;rintro m sl h' ⟨k,⟨hm,⟨hA,hk0⟩⟩,hst⟩;obtain ⟨rfl,rfl⟩:=St.mk.inj hst;clear hst;have hel:=fQ (u:=u) (c:=c) (m:=lock) (l:=l) (k:=k);refine c0z ?_;refine u2z ?_ ?_
  ·intro e3 qe3;refine c5z ?_;refine .seq ?_;refine c40z ?_;refine .ca rfl rfl (PU hu wc (by omega) hl hit) ?_;refine .n ?_;refine u2z ?_ ?_
   ·intro e4 qe4;refine .c9 [10] ?_;refine .z ?_;exact .ret (.ex (hf:=t100) (hq:=t194))
   intro e4 qe4;refine .sk ?_;refine .c9 [3,4,5,9,10] ?_;have hR:iD u c l k:=jQ.1 (by simp_all);have hk:k<l.length:=by omega
   have hri:(l.getD k g7).items.length<1000000:=hit _ (l6 hk);have hi0:=hR.i0;have hi1:=hR.i1;have w:WIt u (c.insts.getD (l.getD k g7).inst.toNat j7):=wc.wi _ (l6 (by omega));have w1:=w.lo;have w2:=w.hi;have hsz:(g9 u (c.insts.getD (l.getD k g7).inst.toNat j7)).length≤1664:=aY hu w;have hwr:=wc.cll (l.getD k g7).inst.toNat (by omega);refine .sg w7 (mkH 10 [0,0,2,0,14,30,0,0,193,511] [6,7,8,9] [(6,0),(7,1)] [0,64,128,192,448,960] [0,1,2,3,4,5,6]) 2 ?_;refine c175z ?_;refine c175z ?_;refine .em [true] [64,0] [_] ?_;refine .en [true,true] [192,128,64,0] [_,_] ?_;refine .en [true,false,false,false] [448,192,128,64,0] [_] ?_;refine .en [true,false,false,false,false] [960,448,192,128,64,0] [_] ?_;refine .po [false,false,false,true,false,true] ?_;refine .po [false,true,true,true,true,true] ?_;refine .po [false,true,true,true,true,true] ?_;refine aC.nil rfl ?_;refine c6z ?_;refine .aD (fun m st=>∃(j:Nat),(m=(l.getD k g7).items.length-j∧(j≤(l.getD k g7).items.length))∧st=⟨mkS 97 [(3,AV.ptr h.length 0 0),(4,AV.ptr (h.length+1) 0 0),(5,AV.ptr (h.length+2) 0 0),(9,AV.own (h.length+3) k 0 k),(10,AV.int .i64 ((k:Nat):Int)),(11,AV.ptr (h.length+4) 1 0),(12,AV.ptr (h.length+5) 1 0),(13,AV.int .i64 ((j:Nat):Int))],h++[⟨0,false,30,4,[.vec u.globals.length (encI u.globals),.vec u.c6.length (j4 u.c6),.vec u.procs.length (r7 u.procs),.int .i64 u.main],0⟩,⟨0,false,34,3,[.vec c.insts.length (v8 c.insts),.vec c.calls.length (z9 c.calls),.vec c.roots.length (encI c.roots)],0⟩,⟨0,false,39,5,[.int .i64 lock,.int .i64 xi,.int .i64 xp,.int .i64 xd,.vec l.length (encRus l)],0⟩,n4 63 3 k (aG (uZ u c lock l k)),⟨1,false,63,3,[.int .i64 (iZ u c lock (uZ u c lock l k) (l.getD k g7) j).lo,.int .i64 (iZ u c lock (uZ u c lock l k) (l.getD k g7) j).hi,.int .i64 (iZ u c lock (uZ u c lock l k) (l.getD k g7) j).net],0⟩,⟨1,false,53,3,[.int .i64 (l.getD k g7).inst,.bool (l.getD k g7).op',.vec (l.getD k g7).items.length (j6 (l.getD k g7).items)],0⟩]⟩) (.v ⟨0,⟨rfl,by omega⟩,rfl⟩) ?_ (he:=by rfl);rintro m sl h' ⟨j,⟨hm,hj⟩,hst⟩;obtain ⟨rfl,rfl⟩:=St.mk.inj hst;clear hst;refine c0z ?_;refine u2z ?_ ?_
   ·intro e5 qe5;refine c5z ?_;have ic:=SQ hR (i:=j) (by omega);have ic0:=ic.1;have ic1:=ic.2.1;have ic2:=ic.2.2;have own:=IH (u:=u) (c:=c) (m:=lock) (r:=(l.getD k g7)) (x:=((l.getD k g7).items.getD j (0,0))) (bf:=(uZ u c lock l k)) (fun e he=>O4 e he) (by omega);refine .z ?_;refine u2z ?_ ?_
    ·intro e6 qe6;refine .c9 [3,4,5,9,10,11,12,13] ?_;refine .og w7 (mkH 12 [0,0,0,4,0,28,60,124,254,510,1023,2047] [11] [] [0,2048] []) 0 ?_;refine c89z ?_;refine c76z ?_;refine c31z ?_;refine .rn [true] ?_;refine .cl rfl rfl (fun _=>HY (iZ u c lock (uZ u c lock l k) (l.getD k g7) j) ((uZ u c lock l k).getD ((l.getD k g7).items.getD j (0,0)).2.toNat W2) (pU (by omega)) (by rw[←YE (u:=u) (c:=c) (m:=lock) (r:=(l.getD k g7)) (by omega)];exact own)) ?_;refine .en [true] [2048,0] [_] ?_;refine c29z ?_;refine .c9 [3,4,5,9,10,11,12,13] ?_;refine .rz ?_;exact ⟨_,by omega,.v ⟨(j+1),⟨rfl,by omega⟩,rfl⟩ (he:=t169) (hk:=by exact II _ _)⟩
    intro e6 qe6;refine .c9 [3,4,5,9,10,11,12,13] ?_;refine .og w7 (mkH 20 [0,0,0,4,0,16,60,124,0,256,0,1792,3840,7936,0,16384,65534,131070,262143,524287] [19] [] [0,524288] []) 0 ?_;refine .rn [true] ?_;refine c235z ?_;refine c235z ?_;refine c76z ?_;refine c31z ?_;refine .rn [true] ?_;refine .cl rfl rfl (fun _=>BK hu w ic.1 ic.2.1 lock) ?_;refine .cl rfl rfl (fun _=>c_rof _ t122 t122) ?_;refine .cl rfl rfl (fun _=>HY (iZ u c lock (uZ u c lock l k) (l.getD k g7) j) (ofE (chI (c.insts.getD (l.getD k g7).inst.toNat j7) ((g9 u (c.insts.getD (l.getD k g7).inst.toNat j7)).getD ((l.getD k g7).items.getD j (0,0)).1.toNat l5) lock)) (pU (by omega)) (by rw[←YD (bf:=(uZ u c lock l k)) (by omega)];exact own)) ?_;refine .en [true] [524288,0] [_] ?_;refine c29z ?_;refine .c9 [3,4,5,9,10,11,12,13] ?_;refine .rz ?_;exact ⟨_,by omega,.v ⟨(j+1),⟨rfl,by omega⟩,rfl⟩ (he:=t170) (hk:=by exact II _ _)⟩
   intro e5 qe5;refine .exit ?_;obtain rfl:j=(l.getD k g7).items.length:=by omega
   change g6 ..;refine c1z ?_;refine .c9 [3,4,5,9,10] ?_;refine .rz ?_;exact ⟨_,by omega,.v ⟨(k+1),⟨rfl,⟨fun d hd=>if e:d=k then e▸hR else hA d (by omega),by omega⟩⟩,rfl⟩ (he:=t121) (hk:=by exact keep_g3 _ _ _ _) (hs:=t40)⟩
  intro e3 qe3;refine c12z ?_;refine .c9 [9] ?_;refine .z ?_;exact .ret (.ex (hf:=t100) (hq:=t195))
end Go.Proofs.YtapdldekgbbomaaGreatDoor
end
section
namespace Go.Un
open Go.Ab
section
variable {L:List Int}{u:Un}{c:Clo}{l:List Ru}{i p I q I1 s I2:Int}{o:Bool}{n:Nat}{its:List (Int×Int)}{X:Ins}{T:Int}{RR:Ru×Bool×Int}
end
section
variable {L:List Int}{u:Un}{c:Clo}{l:List Ru}{I J:Int}{r:Ru}{ok:Bool}{n:Nat}{CC:List Ru×Int}
end
end Go.Un
end
section
namespace Go.Proofs.YtapdldekgbbomaaGreatDoor
open Go.Ab Go.Un
section
variable {L:List Int}{h r l:c8}{I J:Int}
end
attribute [local go_sem] rd Int.natCast_nonneg Int.natCast_inj Int.toNat_natCast_add_one mnI mxI wrap64 nH max2 v9 s7 aT kB fR fT fV iX fW fY iY cW u6 z7 u5 n7 bL l7 cP cQ bG eP dW jC eY List.length_take lP l7 eY
end Go.Proofs.YtapdldekgbbomaaGreatDoor
end
section
namespace Go.Proofs.YtapdldekgbbomaaGreatDoor
open Go.Ab Go.Un
theorem P0 (l:List Ru):z4 (encRus l):=z4.flat fun _=>z4.cons .int (z4.cons .bool (z4.cons .vec z4.nil))
attribute [local go_sem] rd Int.natCast_nonneg Int.natCast_inj Int.toNat_natCast_add_one mnI mxI wrap64 nH max2 v9 s7 aT kB fR fT fV iX fW fY iY cW u6 z7 u5 n7 bL l7 cP cQ bG eP dW jC eY lP l7 eY O3
end Go.Proofs.YtapdldekgbbomaaGreatDoor
end
section
namespace Go.Proofs.YtapdldekgbbomaaGreatDoor
open Go.Ab Go.Un
attribute [local go_sem] l7 w3 n7 w9 o8 Int.natCast_nonneg Int.natCast_inj List.length_map aQ ZF ZG ZH AR AS AT AU bC mP bJ oF
variable {c:Core}{e:Frame}{left I:Int}
theorem G7 {l:c8}(hc:OkC c)(hI:OkI c.L I)(hL:c.L.length<4611686018427387904)(vars:List BA)(hN:vars.length<1000)(f:Fu)(hp:f.params.length≤2):CH 64 [.ptr 5 0 0,.agg (aO f),.vec vars.length (p7 vars)] (hB c e I left++l) (.agg (wH (l9 c f.params vars I).1)) (hB c e (l9 c f.params vars I).2 left++l):=VS (e:=⟨e.b0,e.b1,e.b2,e.z,e.m,e.g,e.rest++l⟩) hc hI hL vars hN f hp
variable {n:Nat}
theorem pY {c:Core}{e:Frame}{I left:Int}{fb rb:Blk}{g:Nat}{zs:List AV}{x1 x2 x3 x4 x5 x6 x7:AV}(hz:zs.length=n*7)(hn:n<1000) :
    g8 cfg 185 (hB c e I left++[fb,rb,n4 185 7 g zs,⟨0,false,185,7,[x1,x2,x3,x4,x5,x6,x7],0⟩]) (.own (e.n+2) g 0 n) (.own (e.n+3) 0 0 1)=some (.own (e.n+2) (g+1) 0 (n+1),hB c e I left++[fb,rb,n4 185 7 (g+1) (zs++[x1,x2,x3,x4,x5,x6,x7]),⟨0,false,185,7,[x1,x2,x3,x4,x5,x6,x7],0⟩]):=by
  have hb:(hB c e I left++[fb,rb,n4 185 7 g zs,⟨0,false,185,7,[x1,x2,x3,x4,x5,x6,x7],0⟩])[e.n+2]?=some (n4 185 7 g zs):=bC;rw[s9 (C:=cfg) (K:=7) (m:=1) (new:=[x1,x2,x3,x4,x5,x6,x7]) hb rfl (by omega) hz rfl (by omega) t105 rfl (by decide) (by omega),bJ];rfl
theorem vB {c:Core}{e:Frame}{I left:Int}{fb rb:Blk}{g:Nat}{zs:List AV}{x1 x2 x3:AV}{x:Ex}(hz:zs.length=n*7)(hn:n<1000) :
    g8 cfg 185 (hB c e I left++[fb,rb,n4 185 7 g zs,⟨0,false,185,7,x1::x2::x3::u7 x,0⟩]) (.own (e.n+2) g 0 n) (.own (e.n+3) 0 0 1)=some (.own (e.n+2) (g+1) 0 (n+1),hB c e I left++[fb,rb,n4 185 7 (g+1) (zs++x1::x2::x3::u7 x),⟨0,false,185,7,x1::x2::x3::u7 x,0⟩]):=by
  rw[aI];exact pY hz hn
variable {ps l:List Pm}{vars:List BA}{j:Nat}{J:Int}
theorem IJ (h:j<l.length)(hm:(l.getD j fC).mu=true):p6 c ps vars (l.drop j) J=(⟨true,(l9 c ps vars J).1,l4⟩::(p6 c ps vars (l.drop (j+1)) (l9 c ps vars J).2).1,(p6 c ps vars (l.drop (j+1)) (l9 c ps vars J).2).2):=by rw[List.drop_eq_getElem_cons h,p6,if_pos (by simpa [List.getD,h] using hm)]
theorem IK (h:j<l.length)(hm:(l.getD j fC).mu=false):p6 c ps vars (l.drop j) J=(⟨false,n5,(g5 c vars J).1⟩::(p6 c ps vars (l.drop (j+1)) (g5 c vars J).2).1,(p6 c ps vars (l.drop (j+1)) (g5 c vars J).2).2):=by rw[List.drop_eq_getElem_cons h,p6,if_neg t218]
theorem kM {l:List Ar}{a:Ar}:aH (l++[a])=aH l++D9 a:=by simp[aH]
theorem SS {l:List Ar}:∀x∈aH l,Refs n x:=by
  intro x hx;obtain ⟨a,_,hx⟩:=List.mem_flatMap.1 hx;simp only[D9,aI,List.mem_cons,List.not_mem_nil,or_false]at hx;rcases hx with rfl | rfl | rfl | rfl | rfl | rfl | rfl
  · exact .bool _
  · exact .str _
  · exact .vec _ _
  · exact .int _ _
  · exact .int _ _
  · exact .str _
  · exact .vec _ _
theorem mU {J':Int}{xs:List Ar}{a:Ar}(h:p6 c ps vars l I=(xs++(p6 c ps vars (l.drop j) J).1,(p6 c ps vars (l.drop j) J).2))(hs:p6 c ps vars (l.drop j) J=(a::(p6 c ps vars (l.drop (j+1)) J').1,(p6 c ps vars (l.drop (j+1)) J').2)):p6 c ps vars l I=((xs++[a])++(p6 c ps vars (l.drop (j+1)) J').1,(p6 c ps vars (l.drop (j+1)) J').2):=by rw[h,hs];simp only[List.append_assoc,List.cons_append,List.nil_append]
section
attribute [local go_sem] eT wrap64 aO wH pY vB fK vZ nH
theorem IL (hc:OkC c)(hI:OkI c.L I)(hL:c.L.length<4611686018427387904)(vars:List BA)(hN:vars.length<1000)(f g:Fu)(hp:f.params.length≤2)(hq:g.params.length≤2):CH 66 [.ptr 5 0 0,.agg (aO f),.agg (aO g),.vec vars.length (p7 vars)] (hB c e I left) (.vec (p6 c f.params vars g.params I).1.length (aH (p6 c f.params vars g.params I).1)) (hB c e (p6 c f.params vars g.params I).2 left):=by
  refine .wz Tryz.f66 40 ?_;refine c87z ?_;refine g6.oB 9 rfl ?_;refine .aD (fun m st=>∃(j:Nat) (J:Int) (xs:List Ar),(m=g.params.length-j∧(j≤g.params.length∧OkI c.L J∧xs.length=j∧p6 c f.params vars g.params I=(xs++(p6 c f.params vars (g.params.drop j) J).1,(p6 c f.params vars (g.params.drop j) J).2)))∧st=⟨mkS 40 [(0,AV.ptr 5 0 0),(3,AV.vec vars.length (p7 vars)),(5,AV.ptr e.n 0 0),(6,AV.ptr (e.n+1) 0 0),(9,AV.own (e.n+2) j 0 j),(10,AV.int .i64 ((j:Nat):Int))],hB c e J left++[⟨0,false,122,3,[.str f.name,.vec f.params.length (p9 f.params),.vec f.body.len (n8 f.body)],0⟩,⟨0,false,122,3,[.str g.name,.vec g.params.length (p9 g.params),.vec g.body.len (n8 g.body)],0⟩,n4 185 7 j (aH xs)]⟩) (.v ⟨0,I,[],⟨rfl,⟨by omega,hI,rfl,rfl⟩⟩,rfl⟩ (hs:=t20) (hr:=t0)) ?_;rintro m sl h' ⟨j,J,xs,⟨hm,⟨hj,hJ,hal,hA⟩⟩,hst⟩;obtain ⟨rfl,rfl⟩:=St.mk.inj hst;clear hst;have hz7:(aH xs).length=j*7:=by rw[cR,hal];omega
  refine c0z ?_;refine u2z ?_ ?_
  ·intro e1 qe1;refine c177z ?_;refine u2z ?_ ?_
   ·intro e2 qe2;refine .c9 [0,3,5,6,9,10] ?_;refine c150z ?_;refine .ch rfl rfl (G7 hc hJ hL vars hN f hp) ?_;refine c42z ?_;refine .c9 [0,3,5,6,9,10] ?_;refine g6.LQ (β:=e.n+2) (aH (xs++[(⟨true,(l9 c f.params vars J).1,l4⟩:Ar)])) t51 (by rw[kM];exact (mB.refl _).app zC) ?_;refine c161z ?_;exact ⟨_,by omega,.v ⟨(j+1),(l9 c f.params vars J).2,(xs++[(⟨true,(l9 c f.params vars J).1,l4⟩:Ar)]),⟨rfl,⟨by omega,(jM hc hJ).2,by simp[hal],mU hA (IJ (by omega) (by assumption))⟩⟩,rfl⟩ (he:=t82) (hl:=t12) (hk:=t111) (hs:=t20) (hr:=t0)⟩
   intro e2 qe2;refine .c9 [0,3,5,6,9,10] ?_;refine c283z ?_;refine .ch rfl rfl (pJ hc hJ hL vars hN) ?_;refine c42z ?_;refine g6.LQ (β:=e.n+2) (aH (xs++[(⟨false,n5,(g5 c vars J).1⟩:Ar)])) t51 (by rw[kM];exact (mB.refl _).app uP) ?_;refine c161z ?_;exact ⟨_,by omega,.v ⟨(j+1),(g5 c vars J).2,(xs++[(⟨false,n5,(g5 c vars J).1⟩:Ar)]),⟨rfl,⟨by omega,(fF hJ).2,by simp[hal],mU hA (IK (by omega) (by assumption))⟩⟩,rfl⟩ (he:=t82) (hl:=t12) (hk:=t111) (hs:=t20) (hr:=t0)⟩
  intro e1 qe1;refine c12z ?_;refine .c9 [9] ?_;refine c43z ?_;exact ⟨hB _ _ _ _,_,.vec xs.length (aH xs),rfl,t60,bE,t132,t189⟩
end
end Go.Proofs.YtapdldekgbbomaaGreatDoor
end
section
namespace Go.Proofs.YtapdldekgbbomaaGreatDoor
open Go.Ab Go.Un
theorem P1 {c:Core}{e:Frame}{left I:Int}{l:c8}(hc:OkC c)(hI:OkI c.L I)(hL:c.L.length<4611686018427387904)(vars:List BA)(hN:vars.length<1000)(f g:Fu)(hp:f.params.length≤2)(hq:g.params.length≤2):CH 66 [.ptr 5 0 0,.agg (aO f),.agg (aO g),.vec vars.length (p7 vars)] (hB c e I left++l) (.vec (p6 c f.params vars g.params I).1.length (aH (p6 c f.params vars g.params I).1)) (hB c e (p6 c f.params vars g.params I).2 left++l):=IL (e:=⟨e.b0,e.b1,e.b2,e.z,e.m,e.g,e.rest++l⟩) hc hI hL vars hN f g hp hq
theorem P2 {l:List BA}:r6 oS (p7 l)=some (p7 l):=by
 induction l with
 | nil=>rfl
 | cons x l ih=>
  have e:oS (.str x)=some (.str x):=rfl;simp only[p7,List.map_cons,r6,e]at ih ⊢;rw[ih]
variable {β:Nat}
theorem zV {H:c8}{b:Blk}(h:H[β]?=some b):H.set β b=H:=by obtain ⟨h1,h2⟩:=List.getElem?_eq_some_iff.1 h;rw[←h2];exact List.set_getElem_self h1
variable {g:Nat}
theorem qJ {f:FuncId}{args args':List AV}{H:c8}{Q:AV→c8→Prop}{vs:List BA}(hb:H[β]?=some ⟨g,false,9,1,p7 vs,vs.length⟩)(ha:J1 β g 0 vs.length (p7 vs) args' args)(r:CallA Tryz.prog cfg f args' H Q):CallA Tryz.prog cfg f args H Q:=by
 have e:H.set β (dM ⟨g,false,9,1,p7 vs,vs.length⟩ (0+vs.length*1))=H:=by rw[show dM ⟨g,false,9,1,p7 vs,vs.length⟩ (0+vs.length*1)=⟨g,false,9,1,p7 vs,vs.length⟩ from by simp[dM]];exact zV hb
 refine CallA.K0 (β:=β) (off:=0) (len:=vs.length) (cs:=p7 vs) hb rfl (by simp[w3]) ?_ ha (by rw[e];exact r);simp only[List.drop_zero,Nat.mul_one];rw[List.take_of_length_le t129];exact P2
theorem raise {c:Code}{sl:List AV}{h:c8}{Q:Exit→St→Prop}{k:Nat}{b:Blk}(hb:h[β]?=some b)(hk:b.frz≤k)(r:g6 Tryz.prog cfg c ⟨sl,h.set β ⟨b.gen,b.cG,b.elem,b.esz,b.cells,k⟩⟩ Q):g6 Tryz.prog cfg c ⟨sl,h⟩ Q:=by
 refine g6.step _ (fun B φ w i=>?_) r;have:=nC k i hb;have e:dM b k=⟨b.gen,b.cG,b.elem,b.esz,b.cells,k⟩:=by simp only[dM,Nat.max_eq_right hk]
 rw[e]at this;exact this
section
variable {c:Core}{e:Frame}{I left:Int}{l:c8}{fb:Blk}{gv:Nat}{vs:List BA}
theorem PV:(hB c e I left++(fb::⟨gv,false,9,1,p7 vs,vs.length⟩::l))[e.n+1]?=some ⟨gv,false,9,1,p7 vs,vs.length⟩:=bC
theorem lM (hc:OkC c)(hI:OkI c.L I)(hL:c.L.length<4611686018427387904)(hN:vs.length<1000):CH 65 [.ptr 5 0 0,.own (e.n+1) gv 0 vs.length] (hB c e I left++(fb::⟨gv,false,9,1,p7 vs,vs.length⟩::l)) (.agg (u7 (g5 c vs I).1)) (hB c e (g5 c vs I).2 left++(fb::⟨gv,false,9,1,p7 vs,vs.length⟩::l)):=
 qJ (args':=[.ptr 5 0 0,.vec vs.length (p7 vs)]) PV ⟨.inl rfl,.inr ⟨rfl,rfl⟩,trivial⟩ (pJ hc hI hL vs hN)
theorem W9 (hc:OkC c)(hI:OkI c.L I)(hL:c.L.length<4611686018427387904)(hN:vs.length<1000)(f:Fu)(hp:f.params.length≤2):CH 64 [.ptr 5 0 0,.agg (aO f),.own (e.n+1) gv 0 vs.length] (hB c e I left++(fb::⟨gv,false,9,1,p7 vs,vs.length⟩::l)) (.agg (wH (l9 c f.params vs I).1)) (hB c e (l9 c f.params vs I).2 left++(fb::⟨gv,false,9,1,p7 vs,vs.length⟩::l)):=
 qJ (args':=[.ptr 5 0 0,.agg (aO f),.vec vs.length (p7 vs)]) PV ⟨.inl rfl,.inl rfl,.inr ⟨rfl,rfl⟩,trivial⟩ (G7 hc hI hL vs hN f hp)
theorem IM (hc:OkC c)(hI:OkI c.L I)(hL:c.L.length<4611686018427387904)(hN:vs.length<1000)(f g:Fu)(hp:f.params.length≤2)(hq:g.params.length≤2):CH 66 [.ptr 5 0 0,.agg (aO f),.agg (aO g),.own (e.n+1) gv 0 vs.length] (hB c e I left++(fb::⟨gv,false,9,1,p7 vs,vs.length⟩::l)) (.vec (p6 c f.params vs g.params I).1.length (aH (p6 c f.params vs g.params I).1)) (hB c e (p6 c f.params vs g.params I).2 left++(fb::⟨gv,false,9,1,p7 vs,vs.length⟩::l)):=
 qJ (args':=[.ptr 5 0 0,.agg (aO f),.agg (aO g),.vec vs.length (p7 vs)]) PV ⟨.inl rfl,.inl rfl,.inl rfl,.inr ⟨rfl,rfl⟩,trivial⟩ (P1 hc hI hL vs hN f g hp hq)
def rD (c:Core)(f:Fu)(fu:Nat)(left:Int):Prop:=∀{e:Frame} (I l':Int) (vs all:List BA) (d m:Int),OkI c.L I→0≤l'→l'<left→0≤d→d≤100→0≤m→m≤100→(∀x∈vs,x∈all)→Fr l'.toNat all→vs.length+l'.toNat≤500→
 CallA Tryz.prog cfg 45 [.ptr 5 0 0,.agg (aO f),.vec vs.length (p7 vs),.int .i64 d,.int .i64 m] (hB c e I l') (fun y' h'=>y'=.vec (c7 c f.params fu vs d m I l').1.len (n8 (c7 c f.params fu vs d m I l').1)∧h'=hB c e (c7 c f.params fu vs d m I l').2.1 (c7 c f.params fu vs d m I l').2.2)
theorem rD.V {f:Fu}{fu:Nat}{left0:Int}(h:rD c f fu left0)(l':Int)(all:List BA)(d m:Int)(hI:OkI c.L I)(h1:0≤l')(h2:l'<left0)(h3:0≤d)(h4:d≤100)(h5:0≤m)(h6:m≤100)(h7:∀x∈vs,x∈all)(h8:Fr l'.toNat all)(h9:vs.length+l'.toNat≤500) :
  CallA Tryz.prog cfg 45 [.ptr 5 0 0,.agg (aO f),.own (e.n+1) gv 0 vs.length,.int .i64 d,.int .i64 m] (hB c e I l'++(fb::⟨gv,false,9,1,p7 vs,vs.length⟩::l)) (fun y' h'=>y'=.vec (c7 c f.params fu vs d m I l').1.len (n8 (c7 c f.params fu vs d m I l').1)∧h'=hB c e (c7 c f.params fu vs d m I l').2.1 (c7 c f.params fu vs d m I l').2.2++(fb::⟨gv,false,9,1,p7 vs,vs.length⟩::l)):=
 qJ (args':=[.ptr 5 0 0,.agg (aO f),.vec vs.length (p7 vs),.int .i64 d,.int .i64 m]) PV ⟨.inl rfl,.inl rfl,.inr ⟨rfl,rfl⟩,.inl rfl,.inl rfl,trivial⟩ (h (e:=⟨e.b0,e.b1,e.b2,e.z,e.m,e.g,e.rest++(fb::⟨gv,false,9,1,p7 vs,vs.length⟩::l)⟩) I l' vs all d m hI h1 h2 h3 h4 h5 h6 h7 h8 h9)
def gO (g n:Nat):Nat:=if n=0 then g else g+1
theorem zW (hn:vs.length<1000):g8 cfg 9 (hB c e I left++[fb,⟨0,false,9,1,[],0⟩]) (.own (e.n+1) 0 0 0) (.vec vs.length (p7 vs))=some (.own (e.n+1) (gO 0 vs.length) 0 vs.length,hB c e I left++[fb,⟨gO 0 vs.length,false,9,1,p7 vs,0⟩]):=by
 have e1:cfg.sz 9=1:=rfl;have e2:(cfg.ti 9).bytes=16:=rfl;have hm:vs.length≤maxLen:=by
  have:(1000:Nat)≤maxLen:=by decide
  omega
 have hb:vs.length*16≤140737488355328:=by omega
 cases vs with
 | nil=>simp[g8,rd,lenOf,e1,e2,bC,gO,p7]
 | cons x vs=>
  have h0:(p7 (x::vs)).length=vs.length+1:=by simp[p7]
  simp only[List.length_cons]at hm hb;simp[g8,rd,lenOf,e1,e2,bC,gO,h0,hm,hb,bJ]
variable {t:Blk}
theorem IN {O p:Blk}{x:BA}(hn:vs.length<1000):g8 cfg 9 (hB c e I left++[fb,⟨gv,false,9,1,p7 vs,vs.length⟩,O,t,p,⟨0,false,9,1,[.str x],0⟩]) (.own (e.n+1) gv 0 vs.length) (.own (e.n+5) 0 0 1)=some (.own (e.n+1) (gv+1) 0 (vs.length+1),hB c e I left++[fb,⟨gv+1,false,9,1,p7 (vs++[x]),vs.length⟩,O,t,p,⟨0,false,9,1,[.str x],0⟩]):=by
 have e1:cfg.sz 9=1:=rfl;have e2:(cfg.ti 9).bytes=16:=rfl;have hm:vs.length+1≤maxLen:=by
  have:(1001:Nat)≤maxLen:=by decide
  omega
 have hb:(vs.length+1)*16≤140737488355328:=by omega
 have ht:List.take vs.length (p7 vs)=p7 vs:=List.take_of_length_le t129;have hnl:¬vs.length+1≤vs.length:=by omega
 simp[g8,rd,lenOf,e1,e2,bC,w3,hm,hb,bJ,ht,hnl,fM]
variable {n:Nat}{zs:List AV}
theorem zX {vb t:Blk}{g:Nat}{x1 x2 x3 x4 x5 x6 x7 x8 x9 x10 x11:AV}(hz:zs.length=n*11)(hn:n<1000) :
  g8 cfg 149 (hB c e I left++[fb,vb,n4 149 11 g zs,t,⟨0,false,149,11,[x1,x2,x3,x4,x5,x6,x7,x8,x9,x10,x11],0⟩]) (.own (e.n+2) g 0 n) (.own (e.n+4) 0 0 1)=some (.own (e.n+2) (g+1) 0 (n+1),hB c e I left++[fb,vb,n4 149 11 (g+1) (zs++[x1,x2,x3,x4,x5,x6,x7,x8,x9,x10,x11]),t,⟨0,false,149,11,[x1,x2,x3,x4,x5,x6,x7,x8,x9,x10,x11],0⟩]):=by
 have hb:(hB c e I left++[fb,vb,n4 149 11 g zs,t,⟨0,false,149,11,[x1,x2,x3,x4,x5,x6,x7,x8,x9,x10,x11],0⟩])[e.n+2]?=some (n4 149 11 g zs):=bC;rw[s9 (C:=cfg) (K:=11) (m:=1) (new:=[x1,x2,x3,x4,x5,x6,x7,x8,x9,x10,x11]) hb rfl (by omega) hz rfl (by omega) t105 rfl (by decide) (by omega),bJ];rfl
theorem zY {vb t u:Blk}{g:Nat}{x1 x2 x3 x4 x5 x6 x7 x8 x9 x10 x11:AV}(hz:zs.length=n*11)(hn:n<1000) :
  g8 cfg 149 (hB c e I left++[fb,vb,n4 149 11 g zs,t,u,⟨0,false,149,11,[x1,x2,x3,x4,x5,x6,x7,x8,x9,x10,x11],0⟩]) (.own (e.n+2) g 0 n) (.own (e.n+5) 0 0 1)=some (.own (e.n+2) (g+1) 0 (n+1),hB c e I left++[fb,vb,n4 149 11 (g+1) (zs++[x1,x2,x3,x4,x5,x6,x7,x8,x9,x10,x11]),t,u,⟨0,false,149,11,[x1,x2,x3,x4,x5,x6,x7,x8,x9,x10,x11],0⟩]):=by
 have hb:(hB c e I left++[fb,vb,n4 149 11 g zs,t,u,⟨0,false,149,11,[x1,x2,x3,x4,x5,x6,x7,x8,x9,x10,x11],0⟩])[e.n+2]?=some (n4 149 11 g zs):=bC;rw[s9 (C:=cfg) (K:=11) (m:=1) (new:=[x1,x2,x3,x4,x5,x6,x7,x8,x9,x10,x11]) hb rfl (by omega) hz rfl (by omega) t105 rfl (by decide) (by omega),bJ];rfl
theorem pZ {vb t u v:Blk}{g:Nat}{x1 x2 x3 x4 x5 x6 x7 x8 x9 x10 x11:AV}(hz:zs.length=n*11)(hn:n<1000) :
  g8 cfg 149 (hB c e I left++[fb,vb,n4 149 11 g zs,t,u,v,⟨0,false,149,11,[x1,x2,x3,x4,x5,x6,x7,x8,x9,x10,x11],0⟩]) (.own (e.n+2) g 0 n) (.own (e.n+6) 0 0 1)=some (.own (e.n+2) (g+1) 0 (n+1),hB c e I left++[fb,vb,n4 149 11 (g+1) (zs++[x1,x2,x3,x4,x5,x6,x7,x8,x9,x10,x11]),t,u,v,⟨0,false,149,11,[x1,x2,x3,x4,x5,x6,x7,x8,x9,x10,x11],0⟩]):=by
 have hb:(hB c e I left++[fb,vb,n4 149 11 g zs,t,u,v,⟨0,false,149,11,[x1,x2,x3,x4,x5,x6,x7,x8,x9,x10,x11],0⟩])[e.n+2]?=some (n4 149 11 g zs):=bC;rw[s9 (C:=cfg) (K:=11) (m:=1) (new:=[x1,x2,x3,x4,x5,x6,x7,x8,x9,x10,x11]) hb rfl (by omega) hz rfl (by omega) t105 rfl (by decide) (by omega),bJ];rfl
variable {m:Nat}{cs:List AV}
theorem vC {vb t u s:Blk}{g:Nat}(hz:zs.length=n*11)(hcs:cs.length=m*11)(hn:n<1000)(hm:m<1000) :
  g8 cfg 149 (hB c e I left++[fb,vb,n4 149 11 g zs,t,u,s]) (.own (e.n+2) g 0 n) (.vec m cs)=some (.own (e.n+2) (gO g m) 0 (n+m),hB c e I left++[fb,vb,n4 149 11 (gO g m) (zs++cs),t,u,s]):=by
 have hb:(hB c e I left++[fb,vb,n4 149 11 g zs,t,u,s])[e.n+2]?=some (n4 149 11 g zs):=bC;by_cases h0:m=0
 ·subst h0;obtain rfl:cs=[]:=List.length_eq_zero_iff.1 (by simpa using hcs);have e1:cfg.sz 149=11:=rfl;have e2:(cfg.ti 149).bytes=192:=rfl;have hmx:n≤maxLen:=by
   have:(1000:Nat)≤maxLen:=by decide
   omega
  have hbd:n*192≤140737488355328:=by omega
  simp[g8,rd,lenOf,e1,e2,hb,pA,gO,hmx,hbd]
 ·rw[s9 (C:=cfg) (K:=11) (m:=m) (new:=cs) hb rfl (by omega) hz hcs (by omega) rfl rfl (by decide) (by omega),bJ];simp only[gO,h0,if_false];rfl
theorem zZ {vb t u s:Blk}{g:Nat}{y1 y2 y3 y4 y5 y6 y7 y8 y9 y10 y11:AV}(hz:zs.length=n*11)(hcs:cs.length=m*11)(hn:n<900)(hm:m<1000) :
  g8 cfg 149 (hB c e I left++[fb,vb,n4 149 11 g (zs++[y1,y2,y3,y4,y5,y6,y7,y8,y9,y10,y11]),t,u,s]) (.own (e.n+2) g 0 (n+1)) (.vec m cs)=some (.own (e.n+2) (gO g m) 0 (n+1+m),hB c e I left++[fb,vb,n4 149 11 (gO g m) ((zs++[y1,y2,y3,y4,y5,y6,y7,y8,y9,y10,y11])++cs),t,u,s]):=
 vC (by rw[List.length_append,hz];simp;omega) hcs (by omega) hm
theorem A0 {vb t u v:Blk}{g:Nat}{y1 y2 y3 y4 y5 y6 y7 y8 y9 y10 y11 x1 x2 x3 x4 x5 x6 x7 x8 x9 x10 x11:AV}(hz:zs.length=n*11)(hcs:cs.length=m*11)(hn:n<400)(hm:m<400) :
  g8 cfg 149 (hB c e I left++[fb,vb,n4 149 11 g (zs++y1::y2::y3::y4::y5::y6::y7::y8::y9::y10::y11::cs),t,u,v,⟨0,false,149,11,[x1,x2,x3,x4,x5,x6,x7,x8,x9,x10,x11],0⟩]) (.own (e.n+2) g 0 (n+1+m)) (.own (e.n+6) 0 0 1)=some (.own (e.n+2) (g+1) 0 (n+1+m+1),hB c e I left++[fb,vb,n4 149 11 (g+1) ((zs++y1::y2::y3::y4::y5::y6::y7::y8::y9::y10::y11::cs)++[x1,x2,x3,x4,x5,x6,x7,x8,x9,x10,x11]),t,u,v,⟨0,false,149,11,[x1,x2,x3,x4,x5,x6,x7,x8,x9,x10,x11],0⟩]):=
 pZ t226 (by omega)
end
theorem X0 {n:Nat}:∀(s:Sl),∀x∈n8 s,Refs n x
 | .nil,x,hx=>by simp[n8]at hx
 | .cons k nm e r as' th el rest,x,hx=>by
  simp only[n8,aI,List.cons_append,List.nil_append,List.mem_cons]at hx;rcases hx with rfl | rfl | rfl | rfl | rfl | rfl | rfl | rfl | rfl | rfl | rfl | hx
  ·exact .int _ _
  ·exact .str _
  ·exact .int _ _
  ·exact .int _ _
  ·exact .str _
  ·exact .vec _ _
  ·exact .str _
  ·exact .vec _ _
  ·exact .vec _ _
  ·exact .vec _ _
  ·exact .vec _ _
  ·exact X0 rest x hx
theorem PW {n d:Nat}{H:c8}:∀(s:Sl),r6 (kN n H (d+1)) (n8 s)=some (n8 s)
 | .nil=>rfl
 | .cons k nm e r as' th el rest=>by have ih:=PW (n:=n) (d:=d) (H:=H) rest;simp only[n8,aI,List.cons_append,List.nil_append,r6,oZ,kT,jL,ih]
theorem p8 {k:Int}{nm:BA}{x:Ex}{r:Rf}{xs:List Ar}{th el:Sl}{a b c d f:AV}(ha:a=.vec x.args.length (n9 x.args)∨(a=.j9∧x.args=[]))(hb:b=.vec r.idx.length (n9 r.idx)∨(b=.j9∧r.idx=[]))(hc:c=.vec xs.length (aH xs)∨(c=.j9∧xs=[]))
  (hd:d=.vec th.len (n8 th)∨(d=.j9∧th=.nil)) (hf:f=.vec el.len (n8 el)∨(f=.j9∧el=.nil)) :
  mB (n8 (row k nm x r xs th el)) [.int .i64 k,.str nm,.int .i64 x.op,.int .i64 x.num,.str x.name,a,.str r.name,b,c,d,f]:=by
 simp only[row,n8,aI,List.cons_append,List.nil_append];refine ⟨.inl rfl,.inl rfl,.inl rfl,.inl rfl,.inl rfl,?_,.inl rfl,?_,?_,?_,?_,trivial⟩
 ·rcases ha with rfl | ⟨rfl,h⟩
  ·exact .inl rfl
  ·rw[h];exact .inr ⟨rfl,rfl⟩
 ·rcases hb with rfl | ⟨rfl,h⟩
  ·exact .inl rfl
  ·rw[h];exact .inr ⟨rfl,rfl⟩
 ·rcases hc with rfl | ⟨rfl,h⟩
  ·exact .inl rfl
  ·rw[h];exact .inr ⟨rfl,rfl⟩
 ·rcases hd with rfl | ⟨rfl,h⟩
  ·exact .inl rfl
  ·rw[h];exact .inr ⟨rfl,rfl⟩
 ·rcases hf with rfl | ⟨rfl,h⟩
  ·exact .inl rfl
  ·rw[h];exact .inr ⟨rfl,rfl⟩
theorem jD {k:Int}{nm:BA}{x:Ex}{r:Rf}{xs:List Ar}{th el:Sl}:n8 (row k nm x r xs th el)=[.int .i64 k,.str nm,.int .i64 x.op,.int .i64 x.num,.str x.name,.vec x.args.length (n9 x.args),.str r.name,.vec r.idx.length (n9 r.idx),.vec xs.length (aH xs),.vec th.len (n8 th),.vec el.len (n8 el)]:=by simp only[row,n8,aI,List.cons_append,List.nil_append]
theorem IP {n:Int}(h1:0≤n)(h2:n<256):IntKind.wrap .u8 n=n:=by unfold IntKind.wrap;have e1:(2:Int)^IntKind.bits .u8=256:=rfl;have e3:IntKind.signed .u8=false:=rfl;simp only[e1,e3,Bool.false_and,Bool.false_eq_true,if_false];omega
theorem IQ {l:Int}(h0:0≤l)(h1:l<24):(⟨#[118]⟩:BA)++(⟨#[UInt8.ofNat (97+l.tmod 26).toNat,UInt8.ofNat (97+(l.tdiv 26).tmod 26).toNat]⟩:BA)=vnm l.toNat:=by
 obtain ⟨n,rfl⟩:=Int.eq_ofNat_of_zero_le h0;have key:∀n:Fin 24,(⟨#[118]⟩:BA)++(⟨#[UInt8.ofNat (97+((n.1:Nat):Int).tmod 26).toNat,UInt8.ofNat (97+(((n.1:Nat):Int).tdiv 26).tmod 26).toNat]⟩:BA)=vnm n.1:=by decide +kernel
 exact key ⟨n,by omega⟩
theorem Il {l:Int}(h0:0≤l):0≤l.tmod 26∧l.tmod 26<26:=⟨Int.tmod_nonneg _ h0,Int.tmod_lt_of_pos _ (by omega)⟩
theorem td26 {l:Int}(h0:0≤l)(h1:l<24):l.tdiv 26=0:=by
 obtain ⟨n,rfl⟩:=Int.eq_ofNat_of_zero_le h0;have key:∀n:Fin 24,(((n.1:Nat):Int).tdiv 26)=0:=by decide
 exact key ⟨n,by omega⟩
end Go.Proofs.YtapdldekgbbomaaGreatDoor
end
