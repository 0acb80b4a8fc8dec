/- My own texts, put together by a program of mine. -/
import Derived.Test.YtapdldekgbbomaaGreatDoorGP15
set_option linter.unusedSimpArgs false
set_option linter.unusedVariables false
section
namespace Go.Proofs.YtapdldekgbbomaaGreatDoor
open Go.Ab
set_option maxRecDepth 1000000
theorem RC:A9 cfg dO (mK UL iI) 14 [] []=some (.bool true,[]):=by kernel_rfl
theorem JU (h:c8):l6 Tryz.prog cfg 14 [] h fun y h'=>y=.bool true∧h'=h:=l6.frame0 rfl (eI u9 z7 (cG JT bH) _ _ _ _ _ RC) h
end Go.Proofs.YtapdldekgbbomaaGreatDoor
end
section
namespace Go.Proofs.YtapdldekgbbomaaGreatDoor
open Go.Ab Go.Un
variable {lock:Int}
theorem JV {h:c8}{xi xp xd:Int}{l:List Ru}(hl:l.length<1000000)(hit:∀r∈l,r.items.length<1000000)(most:Int):l6 Tryz.prog cfg 16 [.agg [.int .i64 lock,.int .i64 xi,.int .i64 xp,.int .i64 xd,.vec l.length (g8 l)],.int .i64 most] h (fun y' h'=>(∃(P:List (Int×Int)) (ok:Bool),(ok=true→¬(most<0∨10000<most∨most<lX l)∧P=bC l (l.length-1))∧(ok=false→most<0∨10000<most∨most<lX l)∧y'=.tup [.vec P.length (j0 P),.bool ok])∧h'=h):=by
  refine (QG (h:=h) hl hit most).mono fun y' h' hq=>⟨⟨(TS l most).1,(TS l most).2,?_,?_,hq.1⟩,hq.2⟩
  · intro he
    by_cases hc:most<0∨10000<most∨most<lX l
    · rw[TU hc]at he;cases he
    · exact ⟨hc,by rw[X2 hc]⟩
  · intro he
    by_cases hc:most<0∨10000<most∨most<lX l
    · exact hc
    · rw[X2 hc]at he;cases he
theorem c_effG {h:c8}{u:Un}{c:Clo}(hu:WU u)(wc:WC u c){l:List Ru}(hl:l.length<1000000)(hC:CeL u c l){xi xp xd:Int}(h0:0≤lock)(h1:lock<u.c5.length):CB 10 [.agg [.vec u.globals.length (l5 u.globals),.vec u.c5.length (j6 u.c5),.vec u.procs.length (n8 u.procs),.int .i64 u.main],.agg [.vec c.insts.length (p6 c.insts),.vec c.calls.length (s6 c.calls),.vec c.roots.length (l5 c.roots)],.agg [.int .i64 lock,.int .i64 xi,.int .i64 xp,.int .i64 xd,.vec l.length (g8 l)]] h (.tup [.vec l.length (y0 (jL u c lock l l.length)),.int .i64 ((l.length:Nat):Int),.int .i64 0]):=by have q:=H3 (h:=h) hu wc hl hC.hit (lock:=lock) (xi:=xi) (xp:=xp) (xd:=xd);rw[IK h0 h1 hC.ok]at q;simp only[dJ]at q;exact q
theorem eqBr {a:Ef}:eqA cfg 4 63 (.agg [.int .i64 a.lo,.int .i64 a.hi,.int .i64 a.net]) (.agg [.int .i64 (-9),.int .i64 9,.int .i64 0])=some (decide (a=brE)):=eqEf (b:=brE)
attribute [local go_sem] rd Int.natCast_nonneg Int.natCast_inj Int.toNat_natCast_add_one mnI mxI wrap64 qS max2 u4 u3 bB kH iR iS iT lU iU iV lV eA w8 aJ w6 q9 cQ n6 dW dX cP gR fV lZ hU oF n6 hU eqBr eqEf dJ
theorem c_lawLen (L:List Int)(hL:L.length<4611686018427387904)(way:List Int)(hway:way.length<4611686018427387904)(m:Int):CB 5 [.vec L.length (l5 L),.vec way.length (l5 way),.int .i64 m] [] (.bool true):=by
  refine .bz Tryz.f5 69 ?_;refine c199z ?_;refine n9.cx rfl rfl hb7 (JL L hL) (fun y1 h1 hq1=>?_);obtain ⟨⟨p,u,c,gp,hu,wc,rfl⟩,rfl⟩:=hq1;have hml:=hu.ml;have hwl:=wc.len;have hwc:=wc.cl;simp only[AR];refine .e 8 ?_;refine .n ?_;refine .c7 [1,2,8,9] ?_;refine c91z ?_;refine c149z ?_;refine c96z ?_;refine c110z ?_;refine c187z ?_;refine c233z ?_;refine .c7 [10] ?_;have hcok:=O9 (L:=(way.take 200)) hu wc;have hm0:=eQ (x:=m) (n:=(u.c5.length:Int)) (by omega);have hm1:=fO (x:=m) (n:=(u.c5.length:Int)) (by omega);generalize (within m (u.c5.length:Int))=mt at*;generalize (rU (way.take 200) u c).1.inst=xi at*;generalize A6 u c (rU (way.take 200) u c).1=xp at*;generalize vX (way.take 200) u c=l at*;obtain ⟨hC,hl0,hl6⟩:=hcok;have hit:=hC.hit;have hl:l.length<1000000:=by omega
  have hlg:lX l=min ((bC l (l.length-1)).length:Int) 4611686018427387904:=qL hl0;refine c115z ?_;refine .ca rfl rfl (A2 hl hit) ?_;refine .n ?_;refine c28z ?_;refine n9.cx rfl rfl hb16 (JV hl hit _) (fun y1 h1 hq1=>?_);obtain ⟨⟨P1,ok1,ht1,hf1,rfl⟩,rfl⟩:=hq1;refine c44z ?_;refine .c7 [10,11,12,13] ?_;refine .z ?_;refine u2z ?_ ?_
  ·intro e1 qe1;refine c17z ?_;refine .spl 45 rfl rfl (fun e2=>?_) (fun e2=>?_)
   ·try simp only[e2]
    have qe2:=fact e2;refine c185z ?_;exact .ret (.ex (hq:=t18))
   try simp only[e2]
   have qe2:=fact e2;refine .m [(2,45)] ?_;exact .ret (.ex (hq:=t18))
  intro e1 qe1;refine .sk ?_;refine c17z ?_;refine n9.cx rfl rfl hb16 (JV hl hit _) (fun y1 h1 hq1=>?_);obtain ⟨⟨P2,ok2,ht2,hf2,rfl⟩,rfl⟩:=hq1;refine .n ?_;refine .c7 [11,12,13,15] ?_;refine c39z ?_;refine .spl 56 rfl rfl (fun e3=>?_) (fun e3=>?_)
  ·try simp only[e3]
   have qe3:=fact e3;refine .k 6 [(1,56)] ?_;refine .spl 62 rfl rfl (fun e4=>?_) (fun e4=>?_)
   ·try simp only[e4]
    have qe4:=fact e4;refine .k 4 [(7,62)] ?_;refine .spl 66 rfl rfl (fun e5=>?_) (fun e5=>?_)
    ·try simp only[e5]
     have qe5:=fact e5;refine c185z ?_;exact .ret (.ex (hq:=t18))
    try simp only[e5]
    have qe5:=fact e5;refine .m [(11,66)] ?_;exact .ret (.ex (hq:=t18))
   try simp only[e4]
   have qe4:=fact e4;refine .m [(7,62),(11,66)] ?_;exact .ret (.ex (hq:=t18))
  try simp only[e3]
  have qe3:=fact e3;refine .k 8 [(1,56),(7,62)] ?_;refine .m [(11,66)] ?_;exact .ret (.ex (hq:=t18))
theorem c_lawPath (L:List Int)(hL:L.length<4611686018427387904)(way:List Int)(hway:way.length<4611686018427387904)(m:Int):CB 6 [.vec L.length (l5 L),.vec way.length (l5 way),.int .i64 m] [] (.bool true):=by
  refine .bz Tryz.f6 165 ?_;refine c199z ?_;refine n9.cx rfl rfl hb7 (JL L hL) (fun y1 h1 hq1=>?_);obtain ⟨⟨p,u,c,gp,hu,wc,rfl⟩,rfl⟩:=hq1;have hml:=hu.ml;have hwl:=wc.len;have hwc:=wc.cl;simp only[AR];refine .e 8 ?_;refine .n ?_;refine .c7 [1,2,8,9] ?_;refine c91z ?_;refine c149z ?_;refine c96z ?_;refine c110z ?_;refine c187z ?_;refine c233z ?_;refine .c7 [8,9,10] ?_;have hcok:=O9 (L:=(way.take 200)) hu wc;have hm0:=eQ (x:=m) (n:=(u.c5.length:Int)) (by omega);have hm1:=fO (x:=m) (n:=(u.c5.length:Int)) (by omega);generalize (within m (u.c5.length:Int))=mt at*;generalize (rU (way.take 200) u c).1.inst=xi at*;generalize A6 u c (rU (way.take 200) u c).1=xp at*;generalize vX (way.take 200) u c=l at*;obtain ⟨hC,hl0,hl6⟩:=hcok;have hit:=hC.hit;have hl:l.length<1000000:=by omega
  have hlg:lX l=min ((bC l (l.length-1)).length:Int) 4611686018427387904:=qL hl0;refine c17z ?_;refine .ca rfl rfl (c_effG hu wc hl hC hm0 hm1) ?_;refine .n ?_;refine .c7 [8,9,10,11,13] ?_;refine c115z ?_;refine n9.cx rfl rfl hb16 (JV hl hit _) (fun y1 h1 hq1=>?_);obtain ⟨⟨P1,ok1,ht1,hf1,rfl⟩,rfl⟩:=hq1;refine c44z ?_;refine c17z ?_;refine .spl 49 rfl rfl (fun e1=>by exfalso;(first | cases e1 | (simp at e1;done) | (have q:=fact e1;omega))) (fun e1=>?_);try simp only[e1]
  have qe1:=fact e1;refine .k 8 [(2,49)] ?_;refine .spl 57 rfl rfl (fun e2=>by exfalso;(first | cases e2 | (simp at e2;done) | (have q:=fact e2;omega))) (fun e2=>?_);try simp only[e2]
  have qe2:=fact e2;refine .m [(10,57)] ?_;refine .spl 61 rfl rfl (fun e3=>by exfalso;(first | cases e3 | (simp at e3;done) | (have q:=fact e3;omega))) (fun e3=>?_);try simp only[e3]
  have qe3:=fact e3;refine c14z ?_;refine .seq ?_;refine .c7 [8,9,10,11,14,15] ?_;have hel:=dJ (u:=u) (c:=c) (m:=mt) (l:=l) (k:=l.length);refine c29z ?_;refine .aW (fun m st=>∃(i:Nat),(m=l.length-i∧((∀d,d<i→¬(jL u c mt l l.length).getD d mG=brE)∧i≤l.length))∧st=⟨mkS 165 [(8,AV.ptr 1 0 0),(9,AV.ptr 2 0 0),(10,AV.ptr 3 0 0),(11,AV.vec l.length (y0 (jL u c mt l l.length))),(14,AV.vec P1.length (j0 P1)),(15,AV.bool ok1),(16,AV.int .i64 ((i:Nat):Int))],[⟨0,false,27,3,[.vec p.globals.length (s7 p.globals),.vec p.c5.length (j6 p.c5),.vec p.funcs.length (p9 p.funcs)],0⟩,⟨0,false,30,4,[.vec u.globals.length (l5 u.globals),.vec u.c5.length (j6 u.c5),.vec u.procs.length (n8 u.procs),.int .i64 u.main],0⟩,⟨0,false,34,3,[.vec c.insts.length (p6 c.insts),.vec c.calls.length (s6 c.calls),.vec c.roots.length (l5 c.roots)],0⟩,⟨0,false,39,5,[.int .i64 mt,.int .i64 xi,.int .i64 xp,.int .i64 0,.vec l.length (g8 l)],0⟩]⟩) (.v ⟨0,⟨rfl,⟨t106,by omega⟩⟩,rfl⟩) ?_;rintro m sl h' ⟨i,⟨hm,⟨hB,hi⟩⟩,hst⟩;obtain ⟨rfl,rfl⟩:=St.mk.inj hst;clear hst;refine c1z ?_;refine u2z ?_ ?_
  ·intro e4 qe4;refine c9z ?_;refine .ss u9 (mkP 6 [0,0,3,7,0,31] []) ?_;refine .k 4 [] ?_;refine .ca rfl rfl (TM) ?_;refine .n [] ?_;refine u2z ?_ ?_
   ·intro e5 qe5;refine .c7 [] ?_;refine .s ?_;refine c185z ?_;exact .ret (.ex (hq:=t18))
   intro e5 qe5;refine c8z ?_;refine .c7 [8,9,10,11,14,15,16] ?_;refine .rz ?_;exact ⟨_,by omega,.v ⟨(i+1),⟨rfl,⟨fun d hd=>if e:d=i then (by rw[e];simp_all) else hB d (by omega),by omega⟩⟩,rfl⟩⟩
  intro e4 qe4;refine c10z ?_;refine c1z ?_;refine u2z ?_ ?_
  ·intro e6 qe6;refine .c7 [10] ?_;refine c115z ?_;refine .ca rfl rfl (A2 hl hit) ?_;refine .e 2 ?_;refine .spl 80 rfl rfl (fun e7=>?_) (fun e7=>?_)
   ·try simp only[e7]
    have qe7:=fact e7;refine c185z ?_;exact .ret (.ex (hq:=t18))
   try simp only[e7]
   have qe7:=fact e7;refine .m [(3,80)] ?_;exact .ret (.ex (hq:=t18))
  intro e6 qe6;refine .sk ?_;refine .c7 [8,9,10,11,14] ?_;have hok:=ht1 t146;have hP:=hok.2;have hpl:P1.length≤10000:=by rw[hP];exact X3 (most:=10000) hl0 (by omega) (by have:=hok.1;omega)
  refine c26z ?_;refine .aW (fun m st=>∃(j:Nat),(m=P1.length-j∧(j≤P1.length))∧st=⟨mkS 165 [(8,AV.ptr 1 0 0),(9,AV.ptr 2 0 0),(10,AV.ptr 3 0 0),(11,AV.vec l.length (y0 (jL u c mt l l.length))),(14,AV.vec P1.length (j0 P1)),(17,AV.ptr 4 0 0),(18,AV.int .i64 ((j:Nat):Int))],[⟨0,false,27,3,[.vec p.globals.length (s7 p.globals),.vec p.c5.length (j6 p.c5),.vec p.funcs.length (p9 p.funcs)],0⟩,⟨0,false,30,4,[.vec u.globals.length (l5 u.globals),.vec u.c5.length (j6 u.c5),.vec u.procs.length (n8 u.procs),.int .i64 u.main],0⟩,⟨0,false,34,3,[.vec c.insts.length (p6 c.insts),.vec c.calls.length (s6 c.calls),.vec c.roots.length (l5 c.roots)],0⟩,⟨0,false,39,5,[.int .i64 mt,.int .i64 xi,.int .i64 xp,.int .i64 0,.vec l.length (g8 l)],0⟩,⟨0,false,63,3,[.int .i64 (CG u c mt mG (P1.take j)).lo,.int .i64 (CG u c mt mG (P1.take j)).hi,.int .i64 (CG u c mt mG (P1.take j)).net],0⟩]⟩) (.v ⟨0,⟨rfl,by omega⟩,rfl⟩) ?_ (he:=by rfl);rintro m sl h' ⟨j,⟨hm,hj⟩,hst⟩;obtain ⟨rfl,rfl⟩:=St.mk.inj hst;clear hst;refine c1z ?_;refine u2z ?_ ?_
  ·intro e8 qe8;refine c9z ?_;refine .seq ?_;have hin:=path_in hC.ok (l.length-1) (by omega) (P1.getD j (0,0)) (by rw[←hP];exact j7 (by omega));have hi0:=hin.1;have hi1:=hin.2.1;have hi2:=hin.2.2.1;have hi3:=hin.2.2.2;have hcl:=wc.cll (P1.getD j (0,0)).2.toNat (by omega);have w:WIt u (c.insts.getD (P1.getD j (0,0)).2.toNat c9):=wc.wi _ (j7 (by omega));refine .ss u9 (mkP 43 [0,0,3,7,15,31,63,127,127,511,1023,2047,127,4223,12415,32767,65535,131071,262143,262143,1048575,2097151,4194303,8388607,16777215,33554431,67108863,67108863,268435455,536870911,1073741823,67108863,2214592511,67108863,67108863,25836912639,60196651007,128916127743,272797532159,547675439103,1097431252991,2199023255551,4398046511103] []) ?_;refine .k 7 [] ?_;refine .spl 96 rfl rfl (fun e9=>by exfalso;(first | cases e9 | (simp at e9;done) | (have q:=fact e9;omega))) (fun e9=>?_);try simp only[e9]
   have qe9:=fact e9;refine .k 8 [(6,96)] ?_;refine .k 3 [(6,96)] ?_;refine .spl 107 rfl rfl (fun e10=>by exfalso;(first | cases e10 | (simp at e10;done) | (have q:=fact e10;omega))) (fun e10=>?_);try simp only[e10]
   have qe10:=fact e10;refine .k 8 [(17,107)] ?_;refine .spl 115 rfl rfl (fun e11=>by exfalso;(first | cases e11 | (simp at e11;done) | (have q:=fact e11;omega))) (fun e11=>?_);try simp only[e11]
   have qe11:=fact e11;refine .k 8 [(25,115)] ?_;refine .k 8 [(25,115)] ?_;refine .n [] ?_;refine .spl 132 rfl rfl (fun e12=>by exfalso;(first | cases e12 | (simp at e12;done) | (have q:=fact e12;omega))) (fun e12=>?_);try simp only[e12]
   have qe12:=fact e12;refine c14z ?_;refine .c7 [8,9,10,11,14,17,18] ?_;refine .so u9 (mkP 22 [0,0,0,4,0,0,48,112,240,508,1020,0,0,6144,14336,30720,0,65536,262142,524286,1048575,2097151] [21]) ?_;refine .k 8 [] ?_;refine .k 8 [] ?_;refine .k 2 [] ?_;refine .ca rfl rfl (xK hu w hi2 hi3 mt) ?_;refine .ca rfl rfl (c_of _ t70 t70) ?_;refine .ca rfl rfl (IE (CG u c mt mG (P1.take j)) (ofE (chI (c.insts.getD (P1.getD j (0,0)).2.toNat c9) ((g5 u (c.insts.getD (P1.getD j (0,0)).2.toNat c9)).getD (P1.getD j (0,0)).1.toNat j4) mt)) (IQ (.inl okE_0)) (.inl (HZ t70 t70))) ?_;refine c74z ?_;refine .c7 [8,9,10,11,14,17,18] ?_;refine .rz ?_;exact ⟨_,by omega,.v ⟨(j+1),⟨rfl,by omega⟩,rfl⟩ (he:=by (rw[IS (by omega)];rfl)) (hk:=by exact z8.of ⟨.inl rfl,.inl rfl,.inl rfl,.inl rfl,.inr (dK.get ⟨.int _ _,.int _ _,.int _ _,trivial⟩),trivial⟩)⟩
  intro e8 qe8;refine .exit ?_;obtain rfl:j=P1.length:=by omega
  rw[List.take_length];change g7 ..;refine .c7 [11,17] ?_;have hls:=QL hC hl0 (m:=mt) (fun d hd=>hB d (by omega));rw[←hP]at hls;have htn:((l.length:Int)-1).toNat=l.length-1:=by omega
  rw[←htn]at hls;refine .ss u9 (mkP 12 [0,0,0,4,12,30,62,127,255,511,1023,2047] []) ?_;refine .k 8 [] ?_;refine .k 1 [] ?_;refine .spl 162 rfl rfl (fun e13=>?_) (fun e13=>by exfalso;(simp_all));try simp only[e13]
  have qe13:=fact e13;refine .ca rfl rfl (JU _) ?_;refine .n [] ?_;exact .ret (.ex (hq:=t18))
end Go.Proofs.YtapdldekgbbomaaGreatDoor
end
section
namespace Go.Proofs.YtapdldekgbbomaaGreatDoor
open Go.Ab Go.Un
variable {h:c8}
theorem iA (x:Int){n:Int}(h0:0<n)(h1:n≤4611686018427387904):l6 Tryz.prog cfg 9 [.int .i64 x,.int .i64 n] h (fun y' h'=>(∃k:Nat,(k:Int)<n∧y'=.int .i64 (k:Int))∧h'=h):=
  (pW (h:=h) x n h0 h1).mono fun y' h' hq=>⟨⟨(within x n).toNat,by have:=@eQ x n h0;have:=@fO x n h0;omega,by rw[hq.1,Int.toNat_of_nonneg (eQ h0)]⟩,hq.2⟩
variable {l:List Ru}
theorem Z4:∀{k:Nat},List.take (k*3) (g8 l)=g8 (l.take k):=fun {k}=>by
  induction l generalizing k with
  | nil=>simp[g8]
  | cons x l ih=>
    cases k with
    | zero=>simp[g8]
    | succ k=>
      have e1:g8 (x::l)=.int .i64 x.inst::.bool x.op'::.vec x.items.length (j0 x.items)::g8 l:=rfl;have e2:g8 ((x::l).take (k+1))=.int .i64 x.inst::.bool x.op'::.vec x.items.length (j0 x.items)::g8 (l.take k):=rfl;rw[e1,e2,←ih,show (k+1)*3=k*3+1+1+1 from by omega];rfl
theorem Z5:∀{k:Nat},List.drop (k*3) (g8 l)=g8 (l.drop k):=fun {k}=>by
  induction l generalizing k with
  | nil=>simp[g8]
  | cons x l ih=>
    cases k with
    | zero=>rw[Nat.zero_mul];rfl
    | succ k=>
      have e1:g8 (x::l)=.int .i64 x.inst::.bool x.op'::.vec x.items.length (j0 x.items)::g8 l:=rfl;have e2:(x::l).drop (k+1)=l.drop k:=rfl;rw[e1,e2,←ih,show (k+1)*3=k*3+1+1+1 from by omega];rfl
theorem Z6 {l:List (Int×Int)}:∀{k:Nat},List.take (k*2) (j0 l)=j0 (l.take k):=fun {k}=>by
  induction l generalizing k with
  | nil=>simp[j0]
  | cons x l ih=>
    cases k with
    | zero=>simp[j0]
    | succ k=>
      have e1:j0 (x::l)=.int .i64 x.1::.int .i64 x.2::j0 l:=rfl;have e2:j0 ((x::l).take (k+1))=.int .i64 x.1::.int .i64 x.2::j0 (l.take k):=rfl;rw[e1,e2,←ih,show (k+1)*2=k*2+1+1 from by omega];rfl
theorem RD {l:List (Int×Int)}:∀{k:Nat},List.drop (k*2) (j0 l)=j0 (l.drop k):=fun {k}=>by
  induction l generalizing k with
  | nil=>simp[j0]
  | cons x l ih=>
    cases k with
    | zero=>rw[Nat.zero_mul];rfl
    | succ k=>
      have e1:j0 (x::l)=.int .i64 x.1::.int .i64 x.2::j0 l:=rfl;have e2:(x::l).drop (k+1)=l.drop k:=rfl;rw[e1,e2,←ih,show (k+1)*2=k*2+1+1 from by omega];rfl
variable {i:Nat}
theorem RE (h:i<l.length):List.take 3 (g8 (l.drop i))=[.int .i64 (l.getD i g6).inst,.bool (l.getD i g6).op',.vec (l.getD i g6).items.length (j0 (l.getD i g6).items)]:=by rw[←Z5];exact kH h
theorem BZ {α:Type}{l:List α}:List.take (l.length-i) (List.drop i l)=List.drop i l:=List.take_of_length_le (by rw[List.length_drop];exact Nat.le_refl _)
variable {k m:Nat}{its:List (Int×Int)}
theorem over_ru {i:Int}{o:Bool}(hk:k<l.length)(hm:its.length=m):g8 (l.take k)++AV.int .i64 i::AV.bool o::AV.vec m (j0 its)::List.drop (k*3+3) (g8 l)=g8 (l.set k ⟨i,o,its⟩):=by
  subst hm;rw[←Z4];induction l generalizing k with
  | nil=>simp at hk
  | cons x l ih=>
    cases k with
    | zero=>rfl
    | succ k=>
      have:=ih (k:=k) (by simpa using hk);have e1:g8 (x::l)=.int .i64 x.inst::.bool x.op'::.vec x.items.length (j0 x.items)::g8 l:=rfl;have e2:g8 ((x::l).set (k+1) ⟨i,o,its⟩)=.int .i64 x.inst::.bool x.op'::.vec x.items.length (j0 x.items)::g8 (l.set k ⟨i,o,its⟩):=rfl;rw[e1,e2,←this,show (k+1)*3=k*3+1+1+1 from by omega,show k*3+1+1+1+3=k*3+3+1+1+1 from by omega];rfl
theorem RG {l:List (Int×Int)}{v:Int}(h:i<l.length):j0 (l.take i)++AV.int .i64 v::List.drop (i*2+1) (j0 l)=j0 (l.set i (v,(l.getD i (0,0)).2)):=by
  rw[←Z6];induction l generalizing i with
  | nil=>simp at h
  | cons x l ih=>
    cases i with
    | zero=>rfl
    | succ i=>
      have:=ih (i:=i) (by simpa using h);have e1:j0 (x::l)=.int .i64 x.1::.int .i64 x.2::j0 l:=rfl;have e2:j0 ((x::l).set (i+1) (v,((x::l).getD (i+1) (0,0)).2))=.int .i64 x.1::.int .i64 x.2::j0 (l.set i (v,(l.getD i (0,0)).2)):=rfl;rw[e1,e2,←this,show (i+1)*2=i*2+1+1 from by omega,show i*2+1+1+1=i*2+1+1+1 from rfl];rfl
theorem RH {l:List (Int×Int)}{v:Int}(h:i<l.length):List.take (i*2+1) (j0 l)++AV.int .i64 v::List.drop (i*2+1+1) (j0 l)=j0 (l.set i ((l.getD i (0,0)).1,v)):=by
  induction l generalizing i with
  | nil=>simp at h
  | cons x l ih=>
    cases i with
    | zero=>rfl
    | succ i=>
      have:=ih (i:=i) (by simpa using h);have e1:j0 (x::l)=.int .i64 x.1::.int .i64 x.2::j0 l:=rfl;have e2:j0 ((x::l).set (i+1) (((x::l).getD (i+1) (0,0)).1,v))=.int .i64 x.1::.int .i64 x.2::j0 (l.set i ((l.getD i (0,0)).1,v)):=rfl;rw[e1,e2,←this,show (i+1)*2=i*2+1+1 from by omega];rfl
variable {a0 a1 a2 a3 a4:Blk}{l':c8}{g n:Nat}
theorem RJ {a:List (Int×Int)}{q:Nat}{x y:Int}(hn:a.length=n)(h1:n<100000):j5 cfg 55 (h++(a0::a1::a2::a3::a4::⟨g,false,55,2,j0 a,0⟩::⟨q,false,55,2,[.int .i64 x,.int .i64 y],0⟩::l')) (.own (h.length+5) g 0 n) (.own (h.length+6) q 0 1)=some (.own (h.length+5) (g+1) 0 (n+1),h++(a0::a1::a2::a3::a4::⟨g+1,false,55,2,j0 (a++[(x,y)]),0⟩::⟨q,false,55,2,[.int .i64 x,.int .i64 y],0⟩::l')):=by
  subst hn;have e1:cfg.sz 55=2:=rfl;have e2:(cfg.ti 55).bytes=16:=rfl;have k1:a.length+1≤maxLen:=by
    have:(200000:Nat)≤maxLen:=by decide
    omega
  have k2:(a.length+1)*16≤140737488355328:=by omega
  have la:=u3 a;rw[oV];generalize j0 a=za at*;have k3:a.length*2≤za.length:=by omega
  have k4:¬(a.length+1)*2≤za.length:=by omega
  have k6:List.take (a.length*2) za=za:=List.take_of_length_le (by omega);simp[j5,rd,lenOf,e1,e2,k1,k2,k3,k4,k6,o7,n7]
theorem app_gR2 {a:List Ru}{q:Nat}{i:Int}{o:Bool}(hn:a.length=n)(hm:its.length=m)(h1:n<100000):j5 cfg 53 (h++(a0::a1::⟨g,false,53,3,g8 a,0⟩::a3::a4::⟨q,false,53,3,[.int .i64 i,.bool o,.vec m (j0 its)],0⟩::l')) (.own (h.length+2) g 0 n) (.own (h.length+5) q 0 1)=some (.own (h.length+2) (g+1) 0 (n+1),h++(a0::a1::⟨g+1,false,53,3,g8 (a++[⟨i,o,its⟩]),0⟩::a3::a4::⟨q,false,53,3,[.int .i64 i,.bool o,.vec m (j0 its)],0⟩::l')):=by
  subst hn hm;have e1:cfg.sz 53=3:=rfl;have e2:(cfg.ti 53).bytes=40:=rfl;have k1:a.length+1≤maxLen:=by
    have:(200000:Nat)≤maxLen:=by decide
    omega
  have k2:(a.length+1)*40≤140737488355328:=by omega
  have la:=u4 a;rw[P0];generalize g8 a=za at*;have k3:a.length*3≤za.length:=by omega
  have k4:¬(a.length+1)*3≤za.length:=by omega
  have k6:List.take (a.length*3) za=za:=List.take_of_length_le (by omega);simp[j5,rd,lenOf,e1,e2,k1,k2,k3,k4,k6,o7,n7]
theorem frz_ceB {N β f len:Nat}{H:c8}{a b c d:Int}(hb:H[β]?=some ⟨g,false,53,3,g8 l,f⟩)(hN:N≤β)(hl:l.length=len):gT N H 6 (.agg [.int .i64 a,.int .i64 b,.int .i64 c,.int .i64 d,.own β g 0 len])=some (.agg [.int .i64 a,.int .i64 b,.int .i64 c,.int .i64 d,.vec len (g8 l)]):=by
  subst hl;have e:gT N H 5 (.own β g 0 l.length)=some (.vec l.length (g8 l)):=by
    have h1:l.length*3≤(g8 l).length:=by rw[u4];omega
    have h2:List.take (l.length*3) (g8 l)=g8 l:=List.take_of_length_le t212;rw[cW,if_neg (by omega),gQ,hb];simp only[List.drop_zero,Nat.zero_add,h1,h2,(rV l).frz _ _ _];simp[hN]
  rw[lE];simp only[s5,iN,e,Option.map_some]
theorem frz_ceV {N:Nat}{H:c8}{a b c d:Int}{z:List AV}:gT N H 6 (.agg [.int .i64 a,.int .i64 b,.int .i64 c,.int .i64 d,.vec m z])=some (.agg [.int .i64 a,.int .i64 b,.int .i64 c,.int .i64 d,.vec m z]):=rfl
theorem RK {r:Ru}(h:∀x∈l,x.items.length<n)(hr:r.items.length<n):∀x∈l.set k r,x.items.length<n:=fun x hx=>by
  rcases List.mem_or_eq_of_mem_set hx with q | q
  · exact h x q
  · rw[q];exact hr
theorem mem_erR {j:Nat}(h:∀x∈l,x.items.length<n):∀x∈l.take k++l.drop j,x.items.length<n:=fun x hx=>by
  rw[List.mem_append]at hx;rcases hx with q | q
  · exact h x (List.mem_of_mem_take q)
  · exact h x (List.mem_of_mem_drop q)
theorem RL {r:Ru}(h:∀x∈l,x.items.length<n)(hr:r.items.length<n):∀x∈l++[r],x.items.length<n:=fun x hx=>by
  rw[List.mem_append,List.mem_singleton]at hx;rcases hx with q | q
  · exact h x q
  · rw[q];exact hr
theorem app_cpR (hn:l.length=n)(hl:n<100000):j5 cfg 53 (h++(a0::a1::⟨0,false,53,3,[],0⟩::l')) (.own (h.length+2) 0 0 0) (.vec n (g8 l))=some (.own (h.length+2) (gP 0 n) 0 n,h++(a0::a1::⟨gP 0 n,false,53,3,g8 l,0⟩::l')):=by
  subst hn;have e1:cfg.sz 53=3:=rfl;have e2:(cfg.ti 53).bytes=40:=rfl;have hm:l.length≤maxLen:=by
    have:(100000:Nat)≤maxLen:=by decide
    omega
  have hb:l.length*40≤140737488355328:=by omega
  cases l with
  | nil=>simp[j5,rd,lenOf,e1,e2,gP,g8,o7,n7]
  | cons x l=>
    have hx:(g8 (x::l)).length=3*(l.length+1):=by rw[u4];rfl
    generalize g8 (x::l)=zs at*;simp only[List.length_cons]at hm hb;have hx2:zs.length=(l.length+1)*3:=by omega
    have hnl:¬(l.length+1)*3≤0:=by omega
    simp[j5,rd,lenOf,e1,e2,gP,hx2,hm,hb,o7,n7]
theorem app_cpI {l:List (Int×Int)}(hn:l.length=n)(hl:n<100000):j5 cfg 55 (h++(a0::a1::a2::a3::⟨0,false,55,2,[],0⟩::l')) (.own (h.length+4) 0 0 0) (.vec n (j0 l))=some (.own (h.length+4) (gP 0 n) 0 n,h++(a0::a1::a2::a3::⟨gP 0 n,false,55,2,j0 l,0⟩::l')):=by
  subst hn;have e1:cfg.sz 55=2:=rfl;have e2:(cfg.ti 55).bytes=16:=rfl;have hm:l.length≤maxLen:=by
    have:(100000:Nat)≤maxLen:=by decide
    omega
  have hb:l.length*16≤140737488355328:=by omega
  cases l with
  | nil=>simp[j5,rd,lenOf,e1,e2,gP,j0,o7,n7]
  | cons x l=>
    have hx:(j0 (x::l)).length=2*(l.length+1):=by rw[u3];rfl
    generalize j0 (x::l)=zs at*;simp only[List.length_cons]at hm hb;have hx2:zs.length=(l.length+1)*2:=by omega
    have hnl:¬(l.length+1)*2≤0:=by omega
    simp[j5,rd,lenOf,e1,e2,gP,hx2,hm,hb,o7,n7]
theorem RM (hn:l.length=n)(hl:n<100000):j5 cfg 53 (h++(a0::a1::a2::a3::a4::⟨0,false,53,3,[],0⟩::l')) (.own (h.length+5) 0 0 0) (.vec n (g8 l))=some (.own (h.length+5) (gP 0 n) 0 n,h++(a0::a1::a2::a3::a4::⟨gP 0 n,false,53,3,g8 l,0⟩::l')):=by
  subst hn;have e1:cfg.sz 53=3:=rfl;have e2:(cfg.ti 53).bytes=40:=rfl;have hm:l.length≤maxLen:=by
    have:(100000:Nat)≤maxLen:=by decide
    omega
  have hb:l.length*40≤140737488355328:=by omega
  cases l with
  | nil=>simp[j5,rd,lenOf,e1,e2,gP,g8,o7,n7]
  | cons x l=>
    have hx:(g8 (x::l)).length=3*(l.length+1):=by rw[u4];rfl
    generalize g8 (x::l)=zs at*;simp only[List.length_cons]at hm hb;have hx2:zs.length=(l.length+1)*3:=by omega
    have hnl:¬(l.length+1)*3≤0:=by omega
    simp[j5,rd,lenOf,e1,e2,gP,hx2,hm,hb,o7,n7]
theorem RN {l:List (Int×Int)}(hn:l.length=n)(hl:n<100000):j5 cfg 55 (h++(a0::a1::a2::a3::a4::⟨0,false,55,2,[],0⟩::l')) (.own (h.length+5) 0 0 0) (.vec n (j0 l))=some (.own (h.length+5) (gP 0 n) 0 n,h++(a0::a1::a2::a3::a4::⟨gP 0 n,false,55,2,j0 l,0⟩::l')):=by
  subst hn;have e1:cfg.sz 55=2:=rfl;have e2:(cfg.ti 55).bytes=16:=rfl;have hm:l.length≤maxLen:=by
    have:(100000:Nat)≤maxLen:=by decide
    omega
  have hb:l.length*16≤140737488355328:=by omega
  cases l with
  | nil=>simp[j5,rd,lenOf,e1,e2,gP,j0,o7,n7]
  | cons x l=>
    have hx:(j0 (x::l)).length=2*(l.length+1):=by rw[u3];rfl
    generalize j0 (x::l)=zs at*;simp only[List.length_cons]at hm hb;have hx2:zs.length=(l.length+1)*2:=by omega
    have hnl:¬(l.length+1)*2≤0:=by omega
    simp[j5,rd,lenOf,e1,e2,gP,hx2,hm,hb,o7,n7]
theorem app_gR5 {a b:List Ru}(hn:a.length=n)(hm:b.length=m)(h1:n<100000)(h2:m<100000):j5 cfg 53 (h++(a0::a1::a2::a3::a4::⟨g,false,53,3,g8 a,0⟩::l')) (.own (h.length+5) g 0 n) (.vec m (g8 b))=some (.own (h.length+5) (gP g m) 0 (n+m),h++(a0::a1::a2::a3::a4::⟨gP g m,false,53,3,g8 (a++b),0⟩::l')):=by
  subst hn hm;have e1:cfg.sz 53=3:=rfl;have e2:(cfg.ti 53).bytes=40:=rfl;have k1:a.length+b.length≤maxLen:=by
    have:(200000:Nat)≤maxLen:=by decide
    omega
  have k2:(a.length+b.length)*40≤140737488355328:=by omega
  have ea:g8 (a++b)=g8 a++g8 b:=by simp[g8]
  have la:=u4 a;have lb:=u4 b;rw[ea];by_cases h0:b.length=0
  · have hb:b=[]:=List.length_eq_zero_iff.1 h0
    subst hb;simp only[List.length_nil,Nat.add_zero]at k1 k2;simp[j5,rd,lenOf,e1,e2,gP,k1,k2,g8,o7,n7]
  · generalize g8 a=za at*
    generalize g8 b=zb at*;have lb2:zb.length=b.length*3:=by omega
    have k3:a.length*3≤za.length:=by omega
    have k4:¬(a.length+b.length)*3≤za.length:=by omega
    have k6:List.take (a.length*3) za=za:=List.take_of_length_le (by omega);simp[j5,rd,lenOf,e1,e2,gP,h0,lb2,k1,k2,k3,k4,k6,o7,n7]
theorem app_gI5 {a b:List (Int×Int)}(hn:a.length=n)(hm:b.length=m)(h1:n<100000)(h2:m<100000):j5 cfg 55 (h++(a0::a1::a2::a3::a4::⟨g,false,55,2,j0 a,0⟩::l')) (.own (h.length+5) g 0 n) (.vec m (j0 b))=some (.own (h.length+5) (gP g m) 0 (n+m),h++(a0::a1::a2::a3::a4::⟨gP g m,false,55,2,j0 (a++b),0⟩::l')):=by
  subst hn hm;have e1:cfg.sz 55=2:=rfl;have e2:(cfg.ti 55).bytes=16:=rfl;have k1:a.length+b.length≤maxLen:=by
    have:(200000:Nat)≤maxLen:=by decide
    omega
  have k2:(a.length+b.length)*16≤140737488355328:=by omega
  have ea:j0 (a++b)=j0 a++j0 b:=by simp[j0]
  have la:=u3 a;have lb:=u3 b;rw[ea];by_cases h0:b.length=0
  · have hb:b=[]:=List.length_eq_zero_iff.1 h0
    subst hb;simp only[List.length_nil,Nat.add_zero]at k1 k2;simp[j5,rd,lenOf,e1,e2,gP,k1,k2,j0,o7,n7]
  · generalize j0 a=za at*
    generalize j0 b=zb at*;have lb2:zb.length=b.length*2:=by omega
    have k3:a.length*2≤za.length:=by omega
    have k4:¬(a.length+b.length)*2≤za.length:=by omega
    have k6:List.take (a.length*2) za=za:=List.take_of_length_le (by omega);simp[j5,rd,lenOf,e1,e2,gP,h0,lb2,k1,k2,k3,k4,k6,o7,n7]
attribute [local go_sem] rd Int.natCast_nonneg Int.natCast_inj Int.toNat_natCast_add_one mnI mxI wrap64 qS max2 u4 u3 bB kH iR iS iT lU iU iV lV eA w8 aJ w6 q9 cQ n6 dW dX cP gR fV lZ hU oF n6 app_cpR app_cpI RM RN app_gR5 app_gI5 RJ app_gR2 Z4 Z5 Z6 RD RE RG RH BZ Nat.sub_zero Option.bind_some Option.bind_eq_bind over_ru rX eB List.length_set
theorem Z7 {lock xi xp xd:Int}{B:Nat}(hB:B≤1000)(hl:l.length<B)(hit:∀r∈l,r.items.length<B)(at' how n:Int):l6 Tryz.prog cfg 13 [.agg [.int .i64 lock,.int .i64 xi,.int .i64 xp,.int .i64 xd,.vec l.length (g8 l)],.int .i64 at',.int .i64 how,.int .i64 n] h (fun y' h'=>(∃(lock' xi' xp' xd':Int) (l':List Ru) (n':Nat),y'=.agg [.int .i64 lock',.int .i64 xi',.int .i64 xp',.int .i64 xd',.vec n' (g8 l')]∧l'.length=n'∧n'<B+1∧(∀r∈l',r.items.length<B+1))∧h'=h):=by
  refine .bz Tryz.f13 176 ?_;refine .z ?_;refine c54z ?_;refine u2z ?_ ?_
  ·intro e1 qe1;refine .c7 [4,8] ?_;refine c15z ?_;exact ⟨_,_,rfl,t42,⟨_,_,_,_,_,_,rfl,t28,by omega,t5⟩⟩
  intro e1 qe1;refine .sk ?_;refine .c7 [1,2,3,4,8] ?_;refine c28z ?_;refine n9.cx rfl rfl hb9 (iA _ (by omega) (by omega)) (fun y1 h1 hq1=>?_);obtain ⟨⟨k,hk,rfl⟩,rfl⟩:=hq1;refine .n ?_;have hk':k<l.length:=by omega
  have hitk:(l.getD k g6).items.length<B:=hit _ (j7 hk');refine .z ?_;refine .c7 [1,2,3,4,8,9,10] ?_;refine c61z ?_;refine .e 6 ?_;refine n9.cx rfl rfl hb9 (iA _ (by omega) (by omega)) (fun y1 h1 hq1=>?_);obtain ⟨⟨i,hi,rfl⟩,rfl⟩:=hq1;refine c44z ?_;refine .c7 [2,3,4,8,9,10,11,39] ?_;refine c115z ?_;refine n9.cx rfl rfl hb9 (iA _ (by omega) (by omega)) (fun y1 h1 hq1=>?_);obtain ⟨⟨w,hw,rfl⟩,rfl⟩:=hq1;refine c263z ?_;refine u2z ?_ ?_
  ·intro e2 qe2;refine .r ?_;refine .e 1 ?_;refine n9.cx rfl rfl hb9 (iA _ (by omega) (by omega)) (fun y1 h1 hq1=>?_);obtain ⟨⟨v,hv,rfl⟩,rfl⟩:=hq1;refine c30z ?_;refine c171z ?_;refine .z ?_;refine c15z ?_;exact ⟨_,_,rfl,t42,⟨_,_,_,_,_,_,rfl,t28,by omega,t5⟩⟩
  intro e2 qe2;refine .z ?_;refine u2z ?_ ?_
  ·intro e3 qe3;refine .c7 [3,4,8,9,10,39] ?_;refine .r ?_;refine .e 1 ?_;refine n9.cx rfl rfl hb9 (iA _ (by omega) (by omega)) (fun y1 h1 hq1=>?_);obtain ⟨⟨v,hv,rfl⟩,rfl⟩:=hq1;refine c30z ?_;refine c0z ?_;refine .z ?_;refine c204z ?_;exact ⟨_,_,rfl,t42,⟨_,_,_,_,_,_,rfl,t28,by omega,t5⟩⟩
  intro e3 qe3;refine .z ?_;refine u2z ?_ ?_
  ·intro e4 qe4;refine .c7 [3,4,8,9,10,39] ?_;refine .r ?_;refine .e 1 ?_;refine n9.cx rfl rfl hb9 (iA _ (by omega) (by omega)) (fun y1 h1 hq1=>?_);obtain ⟨⟨v,hv,rfl⟩,rfl⟩:=hq1;refine c30z ?_;refine c0z ?_;refine .z ?_;refine c204z ?_;exact ⟨_,_,rfl,t42,⟨_,_,_,_,_,_,rfl,t28,by omega,t5⟩⟩
  intro e4 qe4;refine .c7 [3,4,8,9,10,11,39,45] ?_;refine .z ?_;refine u2z ?_ ?_
  ·intro e5 qe5;refine .r ?_;refine .e 1 ?_;refine n9.cx rfl rfl hb9 (iA _ (by omega) (by omega)) (fun y1 h1 hq1=>?_);obtain ⟨⟨v,hv,rfl⟩,rfl⟩:=hq1;refine c30z ?_;refine c171z ?_;refine .z ?_;refine c15z ?_;exact ⟨_,_,rfl,t42,⟨_,_,_,_,_,_,rfl,t28,by omega,t5⟩⟩
  intro e5 qe5;refine .z ?_;refine u2z ?_ ?_
  ·intro e6 qe6;refine c2z ?_;refine c171z ?_;refine .z ?_;refine c15z ?_;exact ⟨_,_,rfl,t42,⟨_,_,_,_,_,_,rfl,t28,by omega,t5⟩⟩
  intro e6 qe6;refine .z ?_;refine u2z ?_ ?_
  ·intro e7 qe7;refine .c7 [3,4,8,9,10,39] ?_;refine .r ?_;refine .e 1 ?_;refine n9.cx rfl rfl hb9 (iA _ (by omega) (by omega)) (fun y1 h1 hq1=>?_);obtain ⟨⟨v,hv,rfl⟩,rfl⟩:=hq1;refine c30z ?_;refine c0z ?_;refine .z ?_;refine c204z ?_;exact ⟨_,_,rfl,t42,⟨_,_,_,_,_,_,rfl,t28,by omega,t5⟩⟩
  intro e7 qe7;refine .z ?_;refine u2z ?_ ?_
  ·intro e8 qe8;refine .c7 [3,4,8,9,10,11,39] ?_;have hti:((l.getD k g6).items.take i).length=i:=by rw[List.length_take];omega
   have htd:((l.getD k g6).items.drop i).length=(l.getD k g6).items.length-i:=List.length_drop;have hw2:=eQ (x:=n) (n:=8) (by omega);have hw3:=fO (x:=n) (n:=8) (by omega);have hw42:=eQ (x:=n.fdiv (2^min 4 64)) (n:=5) (by omega);have hw43:=fO (x:=n.fdiv (2^min 4 64)) (n:=5) (by omega);have ht2:((l.getD k g6).items.take i++[(within n 8-1,within (n.fdiv (2^min 4 64)) 5-1)]).length=i+1:=by rw[List.length_append,hti];rfl
   refine c0z ?_;refine .og u9 (mkH 23 [0,0,2,0,14,31,0,127,255,0,512,1791,3839,8191,16383,32767,0,65536,0,458752,1048575,2097151,4194303] [0,5,14,15,20,22] [] [0,1,33,16417,49185,1097761,5292065] []) 0 ?_;refine .en [true] [1,0] [_] ?_;refine .p 1 ?_;refine .rn [true,true] ?_;refine .p 2 ?_;refine .en [true,false] [33,1,0] [_] ?_;refine .p 1 ?_;refine c181z ?_;refine .cl rfl rfl (fun _=>pW _ _ (by omega) (by omega)) ?_;refine .p 2 ?_;refine .en [true,false,false] [16417,33,1,0] [_] ?_;refine .en [true,false,false,false] [49185,16417,33,1,0] [_] ?_;refine .p 1 ?_;refine .rn [true,true,true,true,true] ?_;refine .p 2 ?_;refine .en [true,false,false,false,false] [1097761,49185,16417,33,1,0] [_] ?_;refine .p 1 ?_;refine .en [true,false,false,false,false,false] [5292065,1097761,49185,16417,33,1,0] [_] ?_;refine c31z ?_;refine .c7 [4,8,9,10,39] ?_;have ht3:((l.getD k g6).items.take i++(within n 8-1,within (n.fdiv (2^min 4 64)) 5-1)::(l.getD k g6).items.drop i).length=i+(1+((l.getD k g6).items.length-i)):=by rw[List.length_append,List.length_cons,hti,htd];omega
   refine g7.uR (γ:=h.length+5) (β:=h.length+3) (k:=2) (off:=0) (len:=(i+(1+((l.getD k g6).items.length-i)))) (b:=⟨_,false,55,2,(j0 ((l.getD k g6).items.take i++(within n 8-1,within (n.fdiv (2^min 4 64)) 5-1)::(l.getD k g6).items.drop i)),0⟩) (cs:=(j0 ((l.getD k g6).items.take i++(within n 8-1,within (n.fdiv (2^min 4 64)) 5-1)::(l.getD k g6).items.drop i))) t30 rfl t71 t32 t30 (by omega) rfl ?_;refine c150z ?_;refine c15z ?_;exact ⟨_,_,rfl,t42,⟨_,_,_,_,_,_,rfl,t28,by omega,t5⟩⟩
  intro e8 qe8;refine .c7 [3,4,8,9,10,11,39,45] ?_;refine .z ?_;refine u2z ?_ ?_
  ·intro e9 qe9;have hti:((l.getD k g6).items.take i).length=i:=by rw[List.length_take];omega
   have htd:((l.getD k g6).items.drop i).length=(l.getD k g6).items.length-i:=List.length_drop;refine c0z ?_;refine c2z ?_;refine .c7 [4,8,9,10,39] ?_;refine .z ?_;refine c15z ?_;exact ⟨_,_,rfl,t42,⟨_,_,_,_,_,_,rfl,t28,by omega,t5⟩⟩
  intro e9 qe9;refine .z ?_;refine u2z ?_ ?_
  ·intro e10 qe10;refine .z ?_;refine u2z ?_ ?_
   ·intro e11 qe11;refine .c7 [3,4,8,9,10,11,39] ?_;have hw2:=eQ (x:=n) (n:=10) (by omega);have hw3:=fO (x:=n) (n:=10) (by omega);refine .og u9 (mkH 9 [0,1,0,0,8,24,63,127,255] [8] [] [0,256] []) 0 ?_;refine .p 1 ?_;refine c62z ?_;refine c181z ?_;refine .en [true] [256,0] [_] ?_;refine c31z ?_;refine .c7 [4,8,9,10,39] ?_;have hsl:((l.getD k g6).items.set i (within n 10-1,((l.getD k g6).items.getD i (0,0)).2)).length=(l.getD k g6).items.length:=List.length_set;refine g7.uR (γ:=h.length+4) (β:=h.length+3) (k:=2) (off:=0) (len:=(l.getD k g6).items.length) (b:=⟨(gP 0 (l.getD k g6).items.length),false,55,2,(j0 ((l.getD k g6).items.set i (within n 10-1,((l.getD k g6).items.getD i (0,0)).2))),0⟩) (cs:=(j0 ((l.getD k g6).items.set i (within n 10-1,((l.getD k g6).items.getD i (0,0)).2)))) t30 rfl t71 t32 t30 (by omega) rfl ?_;refine c150z ?_;refine c15z ?_;exact ⟨_,_,rfl,t42,⟨_,_,_,_,_,_,rfl,t28,by omega,t5⟩⟩
   intro e11 qe11;refine c8z ?_;refine c171z ?_;refine .z ?_;refine c15z ?_;exact ⟨_,_,rfl,t42,⟨_,_,_,_,_,_,rfl,t28,by omega,t5⟩⟩
  intro e10 qe10;refine .z ?_;refine u2z ?_ ?_
  ·intro e12 qe12;refine .z ?_;refine u2z ?_ ?_
   ·intro e13 qe13;refine .c7 [3,4,8,9,10,11,39] ?_;have hw2:=eQ (x:=n) (n:=((l.length:Int)+2)) (by omega);have hw3:=fO (x:=n) (n:=((l.length:Int)+2)) (by omega);refine .og u9 (mkH 13 [0,1,0,0,0,16,48,112,248,504,1023,2047,4095] [12] [] [0,4096] []) 0 ?_;refine .p 1 ?_;refine c63z ?_;refine c62z ?_;refine c181z ?_;refine .en [true] [4096,0] [_] ?_;refine c31z ?_;refine .c7 [4,8,9,10,39] ?_;have hsl:((l.getD k g6).items.set i (((l.getD k g6).items.getD i (0,0)).1,within n ((l.length:Int)+2)-1)).length=(l.getD k g6).items.length:=List.length_set;refine g7.uR (γ:=h.length+4) (β:=h.length+3) (k:=2) (off:=0) (len:=(l.getD k g6).items.length) (b:=⟨(gP 0 (l.getD k g6).items.length),false,55,2,(j0 ((l.getD k g6).items.set i (((l.getD k g6).items.getD i (0,0)).1,within n ((l.length:Int)+2)-1))),0⟩) (cs:=(j0 ((l.getD k g6).items.set i (((l.getD k g6).items.getD i (0,0)).1,within n ((l.length:Int)+2)-1)))) t30 rfl t71 t32 t30 (by omega) rfl ?_;refine c150z ?_;refine c15z ?_;exact ⟨_,_,rfl,t42,⟨_,_,_,_,_,_,rfl,t28,by omega,t5⟩⟩
   intro e13 qe13;refine c8z ?_;refine c171z ?_;refine .z ?_;refine c15z ?_;exact ⟨_,_,rfl,t42,⟨_,_,_,_,_,_,rfl,t28,by omega,t5⟩⟩
  intro e12 qe12;refine .c7 [4,8,9,10,39,45] ?_;refine .z ?_;refine u2z ?_ ?_
  ·intro e14 qe14;have hlk:(l.take k).length=k:=by rw[List.length_take];omega
   have hld:(l.drop (k+1)).length=l.length-(k+1):=List.length_drop;refine g7.uR (γ:=h.length+2) (β:=h.length) (k:=4) (off:=0) (len:=l.length) (b:=⟨gP 0 l.length,false,53,3,g8 l,0⟩) (cs:=g8 l) t30 rfl t211 (by simp only[List.drop_zero];rw[List.take_of_length_le t211];exact (rV _).KC) t188 (by omega) rfl ?_;simp only[dN,Nat.zero_add,n7,lC,List.set_cons_succ,List.set_cons_zero];refine .sg u9 (mkH 14 [0,0,2,0,14,31,0,64,0,256,960,2047,4095,8191] [0,5,11,13] [] [0,1,33,2081,10273] []) 0 ?_;refine .en [true] [1,0] [_] ?_;refine .p 1 ?_;refine .rn [true,true] ?_;refine .p 2 ?_;refine .en [true,false] [33,1,0] [_] ?_;refine .p 1 ?_;refine .rn [true,true,true] ?_;refine .p 3 ?_;refine .en [true,false,false] [2081,33,1,0] [_] ?_;refine .p 1 ?_;refine .en [true,false,false,false] [10273,2081,33,1,0] [_] ?_;refine z4.nil rfl ?_;refine c204z ?_;exact ⟨_,_,rfl,t42,⟨_,_,_,_,_,_,rfl,t28,by omega,t5⟩⟩
  intro e14 qe14;refine c0z ?_;refine .z ?_;refine c204z ?_;exact ⟨_,_,rfl,t42,⟨_,_,_,_,_,_,rfl,t28,by omega,t5⟩⟩
attribute [local go_sem] rd Int.natCast_nonneg Int.natCast_inj Int.toNat_natCast_add_one mnI mxI wrap64 qS max2 u4 u3 bB kH iR iS iT lU iU iV lV eA w8 aJ w6 q9 cQ n6 dW dX cP gR fV lZ hU oF n6 hU dJ
theorem c_lawEff (L:List Int)(hL:L.length<4611686018427387904)(way:List Int)(hway:way.length<4611686018427387904)(m:Int)(at' how n:Int):CB 3 [.vec L.length (l5 L),.vec way.length (l5 way),.int .i64 m,.int .i64 at',.int .i64 how,.int .i64 n] [] (.bool true):=by
  refine .bz Tryz.f3 87 ?_;refine c199z ?_;refine n9.cx rfl rfl hb7 (JL L hL) (fun y1 h1 hq1=>?_);obtain ⟨⟨p,u,c,gp,hu,wc,rfl⟩,rfl⟩:=hq1;have hml:=hu.ml;have hwl:=wc.len;have hwc:=wc.cl;simp only[AR];refine .e 8 ?_;refine .n ?_;refine .c7 [1,2,3,4,5,14,15] ?_;refine c91z ?_;refine c149z ?_;refine c96z ?_;refine c110z ?_;refine c187z ?_;refine c233z ?_;refine .seq ?_;refine .c7 [3,4,5,14,15,16] ?_;have hcok:=O9 (L:=(way.take 200)) hu wc;have hm0:=eQ (x:=m) (n:=(u.c5.length:Int)) (by omega);have hm1:=fO (x:=m) (n:=(u.c5.length:Int)) (by omega);generalize (within m (u.c5.length:Int))=mt at*;generalize (rU (way.take 200) u c).1.inst=xi at*;generalize A6 u c (rU (way.take 200) u c).1=xp at*;generalize vX (way.take 200) u c=l at*;obtain ⟨hC,hl0,hl6⟩:=hcok;have hit:=hC.hit;have hl:l.length<1000000:=by omega
  have hlg:lX l=min ((bC l (l.length-1)).length:Int) 4611686018427387904:=qL hl0;refine c29z ?_;refine .aW (fun m st=>∃(k:Nat) (lk:Int) (yi:Int) (yp:Int) (yd:Int) (l2:List Ru),(m=2-k∧(k≤2∧l2.length<30+k∧(∀r∈l2,r.items.length<30+k)∧(k=0→CeL u c l2∧0≤lk∧lk<u.c5.length)))∧st=⟨mkS 87 [(3,AV.int .i64 at'),(4,AV.int .i64 how),(5,AV.int .i64 n),(14,AV.ptr 1 0 0),(15,AV.ptr 2 0 0),(16,AV.ptr 3 0 0),(17,AV.int .i64 ((k:Nat):Int))],[⟨0,false,27,3,[.vec p.globals.length (s7 p.globals),.vec p.c5.length (j6 p.c5),.vec p.funcs.length (p9 p.funcs)],0⟩,⟨0,false,30,4,[.vec u.globals.length (l5 u.globals),.vec u.c5.length (j6 u.c5),.vec u.procs.length (n8 u.procs),.int .i64 u.main],0⟩,⟨0,false,34,3,[.vec c.insts.length (p6 c.insts),.vec c.calls.length (s6 c.calls),.vec c.roots.length (l5 c.roots)],0⟩,⟨0,false,39,5,[.int .i64 lk,.int .i64 yi,.int .i64 yp,.int .i64 yd,.vec l2.length (g8 l2)],0⟩]⟩) (.v ⟨0,mt,xi,xp,0,l,⟨rfl,⟨by omega,by omega,fun r hr=>by (have:=hC.it r hr;omega),fun _=>⟨hC,hm0,hm1⟩⟩⟩,rfl⟩) ?_ (he:=by rfl);rintro m sl h' ⟨k,lk,yi,yp,yd,l2,⟨hm,⟨hk,hl2,hit2,hk0⟩⟩,hst⟩;obtain ⟨rfl,rfl⟩:=St.mk.inj hst;clear hst;have hit3:∀r∈l2,r.items.length<1000000:=fun r hr=>by have:=hit2 r hr;omega
  have hel:=QI (u:=u) (c:=c) (lock:=lk) (l:=l2);refine c1z ?_;refine u2z ?_ ?_
  ·intro e1 qe1;refine c9z ?_;refine c17z ?_;refine .ca rfl rfl (H3 hu wc (by omega) hit3) ?_;refine .n ?_;refine .c7 [3,4,5,14,15,16,17,18,19,20] ?_;refine c17z ?_;refine .ca rfl rfl (BW hu wc (by omega) hit3) ?_;refine c44z ?_;refine .c7 [3,4,5,14,15,16,17,18,19,20,21,22,23] ?_;have hE0:k=0→(J0 u c lk l2).2.2=0:=fun h=>by rw[IK (hk0 h).2.1 (hk0 h).2.2 (hk0 h).1.ok]
   refine c28z ?_;refine .spl 62 rfl rfl (fun e2=>by exfalso;(first | cases e2 | (simp at e2;done) | (have q:=fact e2;omega) | (have q:=fact e2;have q2:=hE0 (by omega);omega))) (fun e2=>?_);try simp only[e2]
   have qe2:=fact e2;refine .k 5 [(3,62)] ?_;refine .spl 67 rfl rfl (fun e3=>by exfalso;(first | cases e3 | (simp at e3;done) | (have q:=fact e3;omega) | (have q:=fact e3;have q2:=hE0 (by omega);omega))) (fun e3=>?_);try simp only[e3]
   have qe3:=fact e3;refine .k 2 [(8,67)] ?_;refine .ca rfl rfl (c_sameE _ _ (by omega) (by omega)) ?_;refine .k 3 [(8,67)] ?_;refine .spl 73 rfl rfl (fun e4=>by exfalso;(first | cases e4 | (simp at e4;done) | (have q:=fact e4;omega) | (have q:=fact e4;have q2:=hE0 (by omega);omega))) (fun e4=>?_);try simp only[e4]
   have qe4:=fact e4;refine .k 3 [(14,73)] ?_;refine .spl 76 rfl rfl (fun e5=>?_) (fun e5=>?_)
   ·try simp only[e5]
    have qe5:=fact e5;refine .m [(14,73),(17,76)] ?_;refine .spl 80 rfl rfl (fun e6=>by exfalso;(first | cases e6 | (simp at e6;done) | (have q:=fact e6;omega) | (have q:=fact e6;have q2:=hE0 (by omega);omega))) (fun e6=>?_);try simp only[e6]
    have qe6:=fact e6;refine c14z ?_;refine .c7 [3,4,5,14,15,16,17] ?_;refine c99z ?_;refine n9.cx rfl rfl hb13 (Z7 (B:=30+k) (by omega) hl2 hit2 _ _ _) (fun y1 h1 hq1=>?_);obtain ⟨⟨lk2,yi2,yp2,yd2,l3,n3,rfl,hn3,hb3,hitn⟩,rfl⟩:=hq1;subst hn3;refine c30z ?_;refine .rz ?_;exact ⟨_,by omega,.v ⟨(k+1),lk2,yi2,yp2,yd2,l3,⟨rfl,⟨by omega,by omega,fun r hr=>by (have:=hitn r hr;omega),fun h=>by omega⟩⟩,rfl⟩ (hk:=t159)⟩
   try simp only[e5]
   have qe5:=fact e5;refine .m [(14,73),(17,76)] ?_;refine c14z ?_;refine .c7 [3,4,5,14,15,16,17] ?_;refine c99z ?_;refine n9.cx rfl rfl hb13 (Z7 (B:=30+k) (by omega) hl2 hit2 _ _ _) (fun y1 h1 hq1=>?_);obtain ⟨⟨lk2,yi2,yp2,yd2,l3,n3,rfl,hn3,hb3,hitn⟩,rfl⟩:=hq1;subst hn3;refine c30z ?_;refine .rz ?_;exact ⟨_,by omega,.v ⟨(k+1),lk2,yi2,yp2,yd2,l3,⟨rfl,⟨by omega,by omega,fun r hr=>by (have:=hitn r hr;omega),fun h=>by omega⟩⟩,rfl⟩ (hk:=t159)⟩
  intro e1 qe1;refine c10z ?_;refine .c7 [] ?_;refine .s ?_;refine c185z ?_;exact .ret (.ex (hq:=by rfl))
end Go.Proofs.YtapdldekgbbomaaGreatDoor
end
section
namespace Go.Ab
open Go.RowKit
def CA (w:World):List Value→List AV→Prop
 | [],[]=>True
 | v::vs,x::xs=>kZ w (fun k _=>k<w.heap.size) v x∧CA w vs xs
 | _,_=>False
theorem CA.get {w:World}:∀{vs:List Value} {xs:List AV},CA w vs xs→vs.length=xs.length∧∀(j:Nat) v x,vs[j]?=some v→xs[j]?=some x→kZ w (fun k _=>k<w.heap.size) v x
 | [],[],_=>⟨rfl,fun j v x h=>by simp at h⟩
 | v::vs,x::xs,h=>by
  obtain ⟨h1,h2⟩:=h;obtain ⟨k1,k2⟩:=CA.get h2;refine ⟨by simp[k1],fun j u y hu hy=>?_⟩
  match j with
  | 0=>simp at hu hy;subst hu hy;exact h1
  | j+1=>exact k2 j u y t165 (by simpa using hy)
 | [],_::_,h=>h.elim
 | _::_,[],h=>h.elim
theorem prel_ints {w:World}{a:Option Addr}{len cap:Nat}{zs:List Int}
  (h:(a=none∧len=0∧cap=0∧zs=[])∨∃x,a=some x∧len≤cap∧cap≤maxLen∧zs.length=cap∧(∀i,i<zs.length→w.cell? (x.add i)=some (.int .i64 (zs.getD i 0)))∧∀n∈zs,(Lit.int .i64 n).wf=true) :
  kZ w (fun k _=>k<w.heap.size) (.slice a len cap) (Co (zs.take len))∧(zs.take len).length=len∧len≤maxLen∧∀n∈zs.take len,-9223372036854775808≤n∧n<9223372036854775808:=by
 rcases h with ⟨rfl,rfl,rfl,rfl⟩ | ⟨x,rfl,h1,h2,h3,h4,h5⟩
 ·exact ⟨LB _ _,rfl,by omega,by simp⟩
 ·refine ⟨LC h1 h3 h4,t81,by omega,fun n hn=>?_⟩;have:=h5 n (List.mem_of_mem_take hn);simp only[Lit.wf,Bool.and_eq_true,decide_eq_true_eq]at this;have e1:IntKind.min .i64 = -9223372036854775808:=rfl;have e2:IntKind.max .i64=9223372036854775807:=rfl;rw[e1,e2]at this;omega
end Go.Ab
end
section
namespace Go.Proofs.YtapdldekgbbomaaGreatDoor
open Go.Ab Go.ChangeShapes Go.WideShapes Go.ChangeAt Go.RowKit
theorem own:ownKnob Tryz.prog.godebug=none:=by kernel_rfl
theorem laidOut:laidOutB Tryz.prog=true:=by kernel_rfl
theorem RO:Tryz.prog.globalNamed "lockorder/grammar.calling" = some 0:=by kernel_rfl
theorem RP:(Tryz.prog.globals[0]?).map (·.type)=some 166:=by kernel_rfl
abbrev laid1:List (String×DataW Unit):=[("lockorder/grammar.calling",Rows.laid_lockorder_grammar_calling)]
theorem door_met (os:Os)(args:Array Value):laidMetH Tryz.prog laid1 ((World.doorLaid Tryz.prog 400 os).forCall (fun _ _=>0) ⟨#[],args,[]⟩).memory:=
 laidMetH_of_parts3 (fuel:=8) (laidMet_of_run' 8 (by kernel_rfl) (by kernel_rfl)) (by kernel_rfl) (by kernel_rfl)
def xP:List Bool:=[false,false,true,false,false,false,false,false,false]
theorem JW {W:World}(h:laidMetH Tryz.prog laid1 W)(j:Nat)(b:Bool)(hj:xP[j]?=some b):W.cell? ⟨0,j,none⟩=some (.bool b):=by
 rw[MakeChecks.laidMetH_plain _ _ _ (by kernel_rfl)]at h;obtain ⟨ps,⟨g0,t0,cs0,f0,p0,q0,hg0,ht0,hv0,hd0,_,_⟩,_,_⟩:=h;obtain rfl:=Option.some.inj (RO.symm.trans hg0);obtain rfl:=Option.some.inj (RP.symm.trans ht0);rw[World.var?_cell hg0 hv0 j];obtain ⟨xs,m1,rfl,hx1,hlen,hn,hel⟩:=DataW.trod_array Tryz.underlying166 hd0;have c4:Tryz.prog.cellsOf 4=1:=by kernel_rfl
 have c166:Tryz.prog.cellsOf 166=9:=by kernel_rfl
 have hj9:j<9:=by have:=(List.getElem?_eq_some_iff.1 hj).1;simpa [xP] using this
 have hjx:j<xs.length:=by omega
 have h0:=hel j hj9;rw[c4,List.getElem?_eq_getElem hjx]at h0;obtain ⟨b',e1,e2⟩:=DataW.trod_bool Tryz.underlying4 h0;have hd:(xP.map fun b=>(DataW.lit (.bool b):DataW Unit))=xs.map (·.1):=by simp only[Prod.mk.injEq,Rows.laid_lockorder_grammar_calling,DataW.agg.injEq]at hx1;exact hx1.1
 have hb:some (DataW.lit (.bool b):DataW Unit)=some (.lit (.bool b')):=by have h1:=congrArg (·[j]?) hd;simp only[List.getElem?_map,hj,Option.map_some,List.getElem?_eq_getElem hjx,e2]at h1;exact h1
 have eb:b=b':=by have:=Option.some.inj hb;simpa using this
 subst eb;rw[Nat.mul_one]at e1;rw[c166]at hlen;have hlt:j<cs0.toList.length:=by omega
 rw[List.drop_eq_getElem_cons hlt,List.take_succ_cons,List.take_zero]at e1;rw[←Array.getElem?_toList,List.getElem?_eq_getElem hlt];exact congrArg some (List.cons.inj e1).1
theorem JX {W:World}(h:laidMetH Tryz.prog laid1 W)(φ:Map)(g:Nat):kZ W (dE [] φ W) (.pointer (some ⟨g,0,none⟩)) (cfg.eK g):=by
 rw[oF];show kZ W (dE [] φ W) _ (match Nat.beq g 0 with | true=>_ | false=>_);split
 ·rename_i hg;have hg0:g=0:=Nat.eq_of_beq_eq_true hg;subst hg0;have hb:0<W.heap.size:=by
   have c0:=JW h 0 false rfl;simp only[World.cell?]at c0;split at c0
   ·rename_i hh;exact (Array.getElem?_eq_some_iff.1 hh).1
   ·cases c0
  refine .jW 0 0 0 _ (xP.map Value.bool) (fun j hj=>⟨hb,fun β b hb=>by simp at hb⟩) (by simp[xP]) (fun j v hv=>?_) (fun j v x hv hx=>?_)
  ·rw[List.getElem?_map]at hv;obtain ⟨b,hb,rfl⟩:=Option.map_eq_some_iff.1 hv;rw[Nat.zero_add];exact ⟨JW h j b hb,rfl⟩
  ·rw[List.getElem?_map]at hv;obtain ⟨b,hb,rfl⟩:=Option.map_eq_some_iff.1 hv;have hx':(xP.map AV.bool)[j]?=some x:=hx;rw[List.getElem?_map,hb]at hx';cases hx';exact .bool _
 ·exact .any _
theorem law_glob {f:FuncId}{args:List AV}(r:l6 Tryz.prog cfg f args [] (fun x h'=>x=.bool true∧h'=[]))(w:World)(hl:laidMetH Tryz.prog laid1 w)(cargs:Array Value)(hr:CA w cargs.toList args) :
  Calls Tryz.prog f cargs w fun e w'=>e=.returned (.bool true)∧Below w.heap.size w w':=by
 have hst:∀k,k<w.heap.size→J2 [] (fun _=>(0,0)) w k:=fun k hk=>⟨hk,fun β b hb=>by simp at hb⟩;obtain ⟨k1,k2⟩:=CA.get hr;have i:Pic cfg.eK w.heap.size [] (fun _=>(0,0)) w:=⟨fun β b hb=>by simp at hb,fun β β' b b' hb=>by simp at hb,fun β b hb=>by simp at hb,fun β b hb=>by simp at hb,Nat.le_refl _,fun g=>JX hl _ g⟩;refine (r w.heap.size (fun _=>(0,0)) w cargs i (by simpa using k1) fun j v x h1 h2=>.pure ((k2 j v x t157 h2).mono fun k j hk=>⟨rfl,(hst k hk).P6 j⟩)).mono fun e w' hp=>?_;obtain ⟨v,x,h',φ',rfl,_,ev,hrel,rfl,_⟩:=hp;rw[hrel.bI];exact ⟨rfl,ev.os,ev.tape,ev.output,ev.size,fun k hk=>(ev.fJ k (hst k hk)).1⟩
end Go.Proofs.YtapdldekgbbomaaGreatDoor
end
