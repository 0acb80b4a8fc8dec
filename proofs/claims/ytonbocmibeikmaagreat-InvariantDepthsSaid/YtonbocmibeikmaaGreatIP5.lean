/- My own texts, put together by a program of mine. -/
import Derived.Test.YtonbocmibeikmaaGreatIP4
set_option linter.unusedSimpArgs false
set_option linter.unusedVariables false
set_option maxRecDepth 100000
set_option maxHeartbeats 4000000
section
namespace Go.Proofs.YtonbocmibeikmaaGreat
open Go.Ab Go.Un
attribute [local go_sem] nC aL n8 bD cM bF l6 Int.natCast_nonneg Int.natCast_inj List.length_map wrap64 DE mB A4 aK mM eq_mk mN A5 Nat.reduceMul
structure rP (E:Env):Prop extends GRes E where
  fn:∀f∈E.funcs,tQ f.1=false
theorem fE {l:List Ar}{i:Nat}(h:i<l.length):List.take 7 (List.drop (i*7) (bE l))=[.bool (l.getD i dP).mu,.str (l.getD i dP).r.name,.vec (l.getD i dP).r.idx.length (n4 (l.getD i dP).r.idx),.int .i64 (l.getD i dP).e.op,.int .i64 (l.getD i dP).e.num,.str (l.getD i dP).e.name,.vec (l.getD i dP).e.args.length (n4 (l.getD i dP).e.args)]:=by rw[uU h,vM]
variable {E:Env}{xs:List Ar}
theorem IU {vars:List BA}{ps:List Pm}(h:GAs E vars ps xs){i:Nat}(hi:i<xs.length):((xs.getD i dP).mu=true→GR E vars (xs.getD i dP).r∧(xs.getD i dP).e=l4)∧((xs.getD i dP).mu=false→(xs.getD i dP).r=l9∧GE vars 2 (xs.getD i dP).e):=by
  induction ps generalizing xs i with
  | nil=>
    cases xs with
    | nil=>simp at hi
    | cons=>exact h.elim
  | cons p ps ih=>
    cases xs with
    | nil=>exact h.elim
    | cons a xs=>
      obtain ⟨⟨h1,h2⟩,h3⟩:=h;cases i with
      | succ i=>exact ih h3 (by simpa using hi)
      | zero=>
        simp only[List.getD_cons_zero];rcases h2 with ⟨q1,q2,q3⟩ | ⟨q1,q2,q3⟩
        · exact ⟨fun _=>⟨q2,q3⟩,fun h=>absurd ((h1.trans q1).symm.trans h) (by decide)⟩
        · exact ⟨fun h=>absurd ((h1.trans q1).symm.trans h) (by decide),fun _=>⟨q2,q3⟩⟩
variable {h:c5}{e:Ex}
theorem IV (he:e=l4):CB 160 [.agg [.int .i64 e.op,.int .i64 e.num,.str e.name,.vec e.args.length (n4 e.args)]] h (.bool true):=by subst he;exact c_noE
variable {r:Rf}
theorem IW (hr:r=l9):CB 162 [.agg [.str r.name,.vec r.idx.length (n4 r.idx)]] h (.bool true):=by subst hr;exact c_noR
section
attribute [local go_sem] fE
variable {vs:List BA}{deep:Int}{pre rest:Sl}
theorem c_okK1 (hE:tH E)(hR2:rP E)(hv:aE vs)(hd0:0≤deep)(j:Nat)(hj:j<24)(e:Ex)(he:GE vs 2 e)(hl:(pre.app (.cons 1 (vnm j) e l9 [] .nil .nil rest)).len<100000)(hdp:deep+((Sl.cons 1 (vnm j) e l9 [] .nil .nil rest).dep:Int)≤23):c8 Tryz.prog cfg (rF [1,1,0,1,0,0,1,0] (jT Tryz.f131)) ⟨mkS 219 [(0,AV.vec (Go.Un.Sl.len (pre.app (.cons 1 (vnm j) e l9 [] .nil .nil rest))) (o5 (pre.app (.cons 1 (vnm j) e l9 [] .nil .nil rest)))),(1,AV.int .i64 deep),(5,AV.int .i64 ((pre.len:Nat):Int))],h⟩ (Led 219 [(0,AV.vec (Go.Un.Sl.len (pre.app (.cons 1 (vnm j) e l9 [] .nil .nil rest))) (o5 (pre.app (.cons 1 (vnm j) e l9 [] .nil .nil rest)))),(1,AV.int .i64 deep),(5,AV.int .i64 ((pre.len:Nat):Int))] (h)):=by have hlc:=@z6 pre 1 (vnm j) e l9 [] .nil .nil rest;have hdc:=@fA 1 (vnm j) e l9 [] .nil .nil rest;refine c201z ?_;refine .ca rfl rfl (mL _ tI (IC j hj)) ?_;refine c77z ?_;refine .k 1 [(26,87)] ?_;refine c190z ?_;refine c103z ?_;refine c202z ?_;refine c194z ?_;refine c203z ?_;exact .mk _ rfl
end
section
attribute [local go_sem] fE
variable {vs:List BA}{deep:Int}{pre rest:Sl}
theorem c_okK2 (hE:tH E)(hR2:rP E)(hv:aE vs)(hd0:0≤deep)(n:BA)(hn:n∈vs)(e:Ex)(he:GE vs 2 e)(hl:(pre.app (.cons 2 n e l9 [] .nil .nil rest)).len<100000)(hdp:deep+((Sl.cons 2 n e l9 [] .nil .nil rest).dep:Int)≤23):c8 Tryz.prog cfg (rF [1,1,0,1,0,0,1,0] (jT Tryz.f131)) ⟨mkS 219 [(0,AV.vec (Go.Un.Sl.len (pre.app (.cons 2 n e l9 [] .nil .nil rest))) (o5 (pre.app (.cons 2 n e l9 [] .nil .nil rest)))),(1,AV.int .i64 deep),(5,AV.int .i64 ((pre.len:Nat):Int))],h⟩ (Led 219 [(0,AV.vec (Go.Un.Sl.len (pre.app (.cons 2 n e l9 [] .nil .nil rest))) (o5 (pre.app (.cons 2 n e l9 [] .nil .nil rest)))),(1,AV.int .i64 deep),(5,AV.int .i64 ((pre.len:Nat):Int))] (h)):=by have hlc:=@z6 pre 2 n e l9 [] .nil .nil rest;have hdc:=@fA 2 n e l9 [] .nil .nil rest;refine c201z ?_;refine .ca rfl rfl (mL _ (hv _ hn).1 (hv _ hn).2) ?_;refine c77z ?_;refine .k 1 [(26,87)] ?_;refine c190z ?_;refine c103z ?_;refine c202z ?_;refine c194z ?_;refine c203z ?_;exact .mk _ rfl
end
section
attribute [local go_sem] fE
variable {vs:List BA}{deep:Int}{pre rest:Sl}
theorem c_okK3 (hE:tH E)(hR2:rP E)(hv:aE vs)(hd0:0≤deep)(f:BA×List Pm)(hf:f∈E.funcs)(xs:List Ar)(ha:GAs E vs f.2 xs)(hl:(pre.app (.cons 3 f.1 l4 l9 xs .nil .nil rest)).len<100000)(hdp:deep+((Sl.cons 3 f.1 l4 l9 xs .nil .nil rest).dep:Int)≤23):c8 Tryz.prog cfg (rF [1,1,0,1,0,0,1,0] (jT Tryz.f131)) ⟨mkS 219 [(0,AV.vec (Go.Un.Sl.len (pre.app (.cons 3 f.1 l4 l9 xs .nil .nil rest))) (o5 (pre.app (.cons 3 f.1 l4 l9 xs .nil .nil rest)))),(1,AV.int .i64 deep),(5,AV.int .i64 ((pre.len:Nat):Int))],h⟩ (Led 219 [(0,AV.vec (Go.Un.Sl.len (pre.app (.cons 3 f.1 l4 l9 xs .nil .nil rest))) (o5 (pre.app (.cons 3 f.1 l4 l9 xs .nil .nil rest)))),(1,AV.int .i64 deep),(5,AV.int .i64 ((pre.len:Nat):Int))] (h)):=by
  have hlc:=@z6 pre 3 f.1 l4 l9 xs .nil .nil rest;have hdc:=@fA 3 f.1 l4 l9 xs .nil .nil rest;refine c201z ?_;refine .ca rfl rfl (mL _ (hE.fn f hf) (hR2.fn f hf)) ?_;refine c77z ?_;refine .k 8 [(24,85),(26,87),(33,94)] ?_;refine .k 3 [(33,94),(36,97)] ?_;refine c65z ?_;refine c185z ?_;refine c202z ?_;refine c19z ?_;refine .u6 (fun m st=>∃(t:Nat),(m=xs.length-t∧t≤xs.length)∧st=⟨mkS 219 [(0,AV.vec (Go.Un.Sl.len (pre.app (.cons 3 f.1 l4 l9 xs .nil .nil rest))) (o5 (pre.app (.cons 3 f.1 l4 l9 xs .nil .nil rest)))),(1,AV.int .i64 deep),(5,AV.int .i64 ((pre.len:Nat):Int)),(6,AV.ptr h.length 0 0),(7,AV.int .i64 3),(12,AV.int .i64 ((t:Nat):Int))],h++[⟨0,false,190,11,[.int .i64 3,.str f.1,.int .i64 l4.op,.int .i64 l4.num,.str l4.name,.vec l4.args.length (n4 l4.args),.str l9.name,.vec l9.idx.length (n4 l9.idx),.vec xs.length (bE xs),.vec (Go.Un.Sl.len Go.Un.Sl.nil) (o5 Go.Un.Sl.nil),.vec (Go.Un.Sl.len Go.Un.Sl.nil) (o5 Go.Un.Sl.nil)],0⟩]⟩) (.v ⟨0,⟨rfl,by omega⟩,rfl⟩) ?_;rintro m sl h' ⟨t,⟨hm,hti⟩,hst⟩;obtain ⟨rfl,rfl⟩:=St.mk.inj hst;clear hst;have hxl:=(kZ hE hv.n ha).1;have hfl:=hE.fp f hf;refine c0z ?_;refine u2z ?_ ?_
  ·intro e1 qe1;refine c2z ?_;have har:=IU ha (i:=t) (by omega);refine .z ?_;refine .c6 [0,1,5,6,7,12,13] ?_;refine c14z ?_;refine .spl 147 rfl rfl (fun e2=>?_) (fun e2=>?_)
   ·try simp only[e2]
    have qe2:=fact e2;refine .k 2 [(2,147)] ?_;refine .ca rfl rfl (QN hE hR2.toGRes hv (har.1 (by assumption)).1) ?_;refine .k 4 [(2,147),(7,152)] ?_;refine .ca rfl rfl (IV (har.1 (by assumption)).2) ?_;refine .k 8 [(2,147),(7,152),(14,159)] ?_;refine .k 8 [(18,163),(23,168)] ?_;refine c191z ?_;refine .rz ?_;exact ⟨_,by omega,.v ⟨(t+1),⟨rfl,by omega⟩,rfl⟩ (he:=t45)⟩
   try simp only[e2]
   have qe2:=fact e2;refine .k 8 [(2,147),(7,152)] ?_;refine .k 8 [(2,147),(7,152),(14,159)] ?_;refine .k 2 [(18,163)] ?_;refine .ca rfl rfl (IW (har.2 (by assumption)).1) ?_;refine .k 4 [(18,163),(23,168)] ?_;refine .ca rfl rfl (A7 hv (har.2 (by assumption)).2) ?_;refine c191z ?_;refine .rz ?_;exact ⟨_,by omega,.v ⟨(t+1),⟨rfl,by omega⟩,rfl⟩ (he:=t45)⟩
  intro e1 qe1;refine c6z ?_;refine c184z ?_;refine c203z ?_;exact .mk _ rfl
end
section
attribute [local go_sem] fE
variable {vs:List BA}{deep:Int}{pre rest:Sl}
theorem c_okK4 (hE:tH E)(hR2:rP E)(hv:aE vs)(hd0:0≤deep)(f:BA×List Pm)(hf:f∈E.funcs)(xs:List Ar)(ha:GAs E vs f.2 xs)(hl:(pre.app (.cons 4 f.1 l4 l9 xs .nil .nil rest)).len<100000)(hdp:deep+((Sl.cons 4 f.1 l4 l9 xs .nil .nil rest).dep:Int)≤23):c8 Tryz.prog cfg (rF [1,1,0,1,0,0,1,0] (jT Tryz.f131)) ⟨mkS 219 [(0,AV.vec (Go.Un.Sl.len (pre.app (.cons 4 f.1 l4 l9 xs .nil .nil rest))) (o5 (pre.app (.cons 4 f.1 l4 l9 xs .nil .nil rest)))),(1,AV.int .i64 deep),(5,AV.int .i64 ((pre.len:Nat):Int))],h⟩ (Led 219 [(0,AV.vec (Go.Un.Sl.len (pre.app (.cons 4 f.1 l4 l9 xs .nil .nil rest))) (o5 (pre.app (.cons 4 f.1 l4 l9 xs .nil .nil rest)))),(1,AV.int .i64 deep),(5,AV.int .i64 ((pre.len:Nat):Int))] (h)):=by
  have hlc:=@z6 pre 4 f.1 l4 l9 xs .nil .nil rest;have hdc:=@fA 4 f.1 l4 l9 xs .nil .nil rest;refine c201z ?_;refine .ca rfl rfl (mL _ (hE.fn f hf) (hR2.fn f hf)) ?_;refine c77z ?_;refine .k 8 [(24,85),(26,87),(33,94)] ?_;refine .k 3 [(33,94),(36,97)] ?_;refine c65z ?_;refine c185z ?_;refine c202z ?_;refine c19z ?_;refine .u6 (fun m st=>∃(t:Nat),(m=xs.length-t∧t≤xs.length)∧st=⟨mkS 219 [(0,AV.vec (Go.Un.Sl.len (pre.app (.cons 4 f.1 l4 l9 xs .nil .nil rest))) (o5 (pre.app (.cons 4 f.1 l4 l9 xs .nil .nil rest)))),(1,AV.int .i64 deep),(5,AV.int .i64 ((pre.len:Nat):Int)),(6,AV.ptr h.length 0 0),(7,AV.int .i64 4),(12,AV.int .i64 ((t:Nat):Int))],h++[⟨0,false,190,11,[.int .i64 4,.str f.1,.int .i64 l4.op,.int .i64 l4.num,.str l4.name,.vec l4.args.length (n4 l4.args),.str l9.name,.vec l9.idx.length (n4 l9.idx),.vec xs.length (bE xs),.vec (Go.Un.Sl.len Go.Un.Sl.nil) (o5 Go.Un.Sl.nil),.vec (Go.Un.Sl.len Go.Un.Sl.nil) (o5 Go.Un.Sl.nil)],0⟩]⟩) (.v ⟨0,⟨rfl,by omega⟩,rfl⟩) ?_;rintro m sl h' ⟨t,⟨hm,hti⟩,hst⟩;obtain ⟨rfl,rfl⟩:=St.mk.inj hst;clear hst;have hxl:=(kZ hE hv.n ha).1;have hfl:=hE.fp f hf;refine c0z ?_;refine u2z ?_ ?_
  ·intro e1 qe1;refine c2z ?_;have har:=IU ha (i:=t) (by omega);refine .z ?_;refine .c6 [0,1,5,6,7,12,13] ?_;refine c14z ?_;refine .spl 147 rfl rfl (fun e2=>?_) (fun e2=>?_)
   ·try simp only[e2]
    have qe2:=fact e2;refine .k 2 [(2,147)] ?_;refine .ca rfl rfl (QN hE hR2.toGRes hv (har.1 (by assumption)).1) ?_;refine .k 4 [(2,147),(7,152)] ?_;refine .ca rfl rfl (IV (har.1 (by assumption)).2) ?_;refine .k 8 [(2,147),(7,152),(14,159)] ?_;refine .k 8 [(18,163),(23,168)] ?_;refine c191z ?_;refine .rz ?_;exact ⟨_,by omega,.v ⟨(t+1),⟨rfl,by omega⟩,rfl⟩ (he:=t45)⟩
   try simp only[e2]
   have qe2:=fact e2;refine .k 8 [(2,147),(7,152)] ?_;refine .k 8 [(2,147),(7,152),(14,159)] ?_;refine .k 2 [(18,163)] ?_;refine .ca rfl rfl (IW (har.2 (by assumption)).1) ?_;refine .k 4 [(18,163),(23,168)] ?_;refine .ca rfl rfl (A7 hv (har.2 (by assumption)).2) ?_;refine c191z ?_;refine .rz ?_;exact ⟨_,by omega,.v ⟨(t+1),⟨rfl,by omega⟩,rfl⟩ (he:=t45)⟩
  intro e1 qe1;refine c6z ?_;refine c184z ?_;refine c203z ?_;exact .mk _ rfl
end
section
attribute [local go_sem] fE
variable {vs:List BA}{deep:Int}{pre rest:Sl}
theorem c_okK5 (hE:tH E)(hR2:rP E)(hv:aE vs)(hd0:0≤deep)(r:Rf)(hR:GR E vs r)(hl:(pre.app (.cons 5 ByteArray.empty l4 r [] .nil .nil rest)).len<100000)(hdp:deep+((Sl.cons 5 ByteArray.empty l4 r [] .nil .nil rest).dep:Int)≤23):c8 Tryz.prog cfg (rF [1,1,0,1,0,0,1,0] (jT Tryz.f131)) ⟨mkS 219 [(0,AV.vec (Go.Un.Sl.len (pre.app (.cons 5 ByteArray.empty l4 r [] .nil .nil rest))) (o5 (pre.app (.cons 5 ByteArray.empty l4 r [] .nil .nil rest)))),(1,AV.int .i64 deep),(5,AV.int .i64 ((pre.len:Nat):Int))],h⟩ (Led 219 [(0,AV.vec (Go.Un.Sl.len (pre.app (.cons 5 ByteArray.empty l4 r [] .nil .nil rest))) (o5 (pre.app (.cons 5 ByteArray.empty l4 r [] .nil .nil rest)))),(1,AV.int .i64 deep),(5,AV.int .i64 ((pre.len:Nat):Int))] (h)):=by have hlc:=@z6 pre 5 ByteArray.empty l4 r [] .nil .nil rest;have hdc:=@fA 5 ByteArray.empty l4 r [] .nil .nil rest;refine c174z ?_;refine c99z ?_;refine c195z ?_;refine c65z ?_;refine .ca rfl rfl (QN hE hR2.toGRes hv hR) ?_;refine .k 8 [(43,104),(45,106),(52,113),(55,116)] ?_;refine .k 8 [(52,113),(55,116),(62,123)] ?_;refine .m [(62,123),(65,126)] ?_;refine c81z ?_;refine c194z ?_;refine c203z ?_;exact .mk _ rfl
end
section
attribute [local go_sem] fE
variable {vs:List BA}{deep:Int}{pre rest:Sl}
theorem c_okK6 (hE:tH E)(hR2:rP E)(hv:aE vs)(hd0:0≤deep)(r:Rf)(hR:GR E vs r)(hl:(pre.app (.cons 6 ByteArray.empty l4 r [] .nil .nil rest)).len<100000)(hdp:deep+((Sl.cons 6 ByteArray.empty l4 r [] .nil .nil rest).dep:Int)≤23):c8 Tryz.prog cfg (rF [1,1,0,1,0,0,1,0] (jT Tryz.f131)) ⟨mkS 219 [(0,AV.vec (Go.Un.Sl.len (pre.app (.cons 6 ByteArray.empty l4 r [] .nil .nil rest))) (o5 (pre.app (.cons 6 ByteArray.empty l4 r [] .nil .nil rest)))),(1,AV.int .i64 deep),(5,AV.int .i64 ((pre.len:Nat):Int))],h⟩ (Led 219 [(0,AV.vec (Go.Un.Sl.len (pre.app (.cons 6 ByteArray.empty l4 r [] .nil .nil rest))) (o5 (pre.app (.cons 6 ByteArray.empty l4 r [] .nil .nil rest)))),(1,AV.int .i64 deep),(5,AV.int .i64 ((pre.len:Nat):Int))] (h)):=by have hlc:=@z6 pre 6 ByteArray.empty l4 r [] .nil .nil rest;have hdc:=@fA 6 ByteArray.empty l4 r [] .nil .nil rest;refine c174z ?_;refine c99z ?_;refine c195z ?_;refine c65z ?_;refine .ca rfl rfl (QN hE hR2.toGRes hv hR) ?_;refine .k 8 [(43,104),(45,106),(52,113),(55,116)] ?_;refine .k 8 [(52,113),(55,116),(62,123)] ?_;refine .m [(62,123),(65,126)] ?_;refine c81z ?_;refine c194z ?_;refine c203z ?_;exact .mk _ rfl
end
section
attribute [local go_sem] fE
variable {vs:List BA}{deep:Int}{pre rest:Sl}
theorem c_okK7 (hE:tH E)(hR2:rP E)(hv:aE vs)(hd0:0≤deep)(e:Ex)(he:GE vs 2 e)(th el:Sl)(hth:GS E th vs)(hel:GS E el vs)(ith:(∀(vars:List BA) (deep:Int),aE vars→GS E th vars→0≤deep→deep+(th.dep:Int)≤23→∀h:c5,CB 131 [.vec th.len (o5 th),.int .i64 deep] h (.bool true)))(iel:(∀(vars:List BA) (deep:Int),aE vars→GS E el vars→0≤deep→deep+(el.dep:Int)≤23→∀h:c5,CB 131 [.vec el.len (o5 el),.int .i64 deep] h (.bool true)))(hl:(pre.app (.cons 7 ByteArray.empty e l9 [] th el rest)).len<100000)(hdp:deep+((Sl.cons 7 ByteArray.empty e l9 [] th el rest).dep:Int)≤23):c8 Tryz.prog cfg (rF [1,1,0,1,0,0,1,0] (jT Tryz.f131)) ⟨mkS 219 [(0,AV.vec (Go.Un.Sl.len (pre.app (.cons 7 ByteArray.empty e l9 [] th el rest))) (o5 (pre.app (.cons 7 ByteArray.empty e l9 [] th el rest)))),(1,AV.int .i64 deep),(5,AV.int .i64 ((pre.len:Nat):Int))],h⟩ (Led 219 [(0,AV.vec (Go.Un.Sl.len (pre.app (.cons 7 ByteArray.empty e l9 [] th el rest))) (o5 (pre.app (.cons 7 ByteArray.empty e l9 [] th el rest)))),(1,AV.int .i64 deep),(5,AV.int .i64 ((pre.len:Nat):Int))] (h)):=by
  have hlc:=@z6 pre 7 ByteArray.empty e l9 [] th el rest;have hdc:=@fA 7 ByteArray.empty e l9 [] th el rest;refine c174z ?_;refine c99z ?_;refine .k 5 [(24,85),(26,87)] ?_;refine c190z ?_;refine c103z ?_;refine c202z ?_;refine c194z ?_;refine .k 6 [(1,183)] ?_;refine .ca rfl rfl (ith vs (deep+1) hv hth (by omega) (by omega) _) ?_;refine .k 8 [(1,183),(9,191),(12,194)] ?_;refine .k 8 [(9,191),(12,194),(19,201)] ?_;refine .k 2 [(19,201)] ?_;refine .spl 206 rfl rfl (fun e1=>?_) (fun e1=>?_)
  ·try simp only[e1]
   have qe1:=fact e1;refine .k 7 [(24,206),(27,209)] ?_;refine .ca rfl rfl (iel vs (deep+1) hv hel (by omega) (by omega) _) ?_;refine c137z ?_;exact .mk _ rfl
  try simp only[e1]
  have qe1:=fact e1;refine .k 8 [(24,206),(27,209)] ?_;refine c137z ?_;exact .mk _ rfl
end
section
attribute [local go_sem] fE
variable {vs:List BA}{deep:Int}{pre rest:Sl}
theorem c_okK8 (hE:tH E)(hR2:rP E)(hv:aE vs)(hd0:0≤deep)(e:Ex)(he:GE vs 2 e)(th:Sl)(hth:GS E th vs)(ith:(∀(vars:List BA) (deep:Int),aE vars→GS E th vars→0≤deep→deep+(th.dep:Int)≤23→∀h:c5,CB 131 [.vec th.len (o5 th),.int .i64 deep] h (.bool true)))(hl:(pre.app (.cons 8 ByteArray.empty e l9 [] th .nil rest)).len<100000)(hdp:deep+((Sl.cons 8 ByteArray.empty e l9 [] th .nil rest).dep:Int)≤23):c8 Tryz.prog cfg (rF [1,1,0,1,0,0,1,0] (jT Tryz.f131)) ⟨mkS 219 [(0,AV.vec (Go.Un.Sl.len (pre.app (.cons 8 ByteArray.empty e l9 [] th .nil rest))) (o5 (pre.app (.cons 8 ByteArray.empty e l9 [] th .nil rest)))),(1,AV.int .i64 deep),(5,AV.int .i64 ((pre.len:Nat):Int))],h⟩ (Led 219 [(0,AV.vec (Go.Un.Sl.len (pre.app (.cons 8 ByteArray.empty e l9 [] th .nil rest))) (o5 (pre.app (.cons 8 ByteArray.empty e l9 [] th .nil rest)))),(1,AV.int .i64 deep),(5,AV.int .i64 ((pre.len:Nat):Int))] (h)):=by have hlc:=@z6 pre 8 ByteArray.empty e l9 [] th .nil rest;have hdc:=@fA 8 ByteArray.empty e l9 [] th .nil rest;refine c174z ?_;refine c99z ?_;refine .k 5 [(24,85),(26,87)] ?_;refine c190z ?_;refine c103z ?_;refine c202z ?_;refine c194z ?_;refine .k 6 [(1,183)] ?_;refine .ca rfl rfl (ith vs (deep+1) hv hth (by omega) (by omega) _) ?_;refine .k 8 [(1,183),(9,191),(12,194)] ?_;refine c177z ?_;exact .mk _ rfl
end
section
attribute [local go_sem] fE
variable {vs:List BA}{deep:Int}{pre rest:Sl}
theorem c_okK9 (hE:tH E)(hR2:rP E)(hv:aE vs)(hd0:0≤deep)  (hl:(pre.app (.cons 9 ByteArray.empty l4 l9 [] .nil .nil rest)).len<100000)(hdp:deep+((Sl.cons 9 ByteArray.empty l4 l9 [] .nil .nil rest).dep:Int)≤23):c8 Tryz.prog cfg (rF [1,1,0,1,0,0,1,0] (jT Tryz.f131)) ⟨mkS 219 [(0,AV.vec (Go.Un.Sl.len (pre.app (.cons 9 ByteArray.empty l4 l9 [] .nil .nil rest))) (o5 (pre.app (.cons 9 ByteArray.empty l4 l9 [] .nil .nil rest)))),(1,AV.int .i64 deep),(5,AV.int .i64 ((pre.len:Nat):Int))],h⟩ (Led 219 [(0,AV.vec (Go.Un.Sl.len (pre.app (.cons 9 ByteArray.empty l4 l9 [] .nil .nil rest))) (o5 (pre.app (.cons 9 ByteArray.empty l4 l9 [] .nil .nil rest)))),(1,AV.int .i64 deep),(5,AV.int .i64 ((pre.len:Nat):Int))] (h)):=by have hlc:=@z6 pre 9 ByteArray.empty l4 l9 [] .nil .nil rest;have hdc:=@fA 9 ByteArray.empty l4 l9 [] .nil .nil rest;refine c174z ?_;refine c99z ?_;refine c195z ?_;refine c65z ?_;refine c185z ?_;refine c202z ?_;refine c194z ?_;refine c203z ?_;exact .mk _ rfl
end
variable {vs:List BA}{deep:Int}{pre rest:Sl}
theorem c_okRow (hE:tH E)(hR2:rP E)(hv:aE vs)(hd0:0≤deep){k:Int}{n:BA}{th el:Sl}(hG:GS E (.cons k n e r xs th el rest) vs)(hl:(pre.app (.cons k n e r xs th el rest)).len<100000)(hdp:deep+((Sl.cons k n e r xs th el rest).dep:Int)≤23)(ih:∀T:Sl,(T=th∨T=el)→(∀(vars:List BA) (deep:Int),aE vars→GS E T vars→0≤deep→deep+(T.dep:Int)≤23→∀h:c5,CB 131 [.vec T.len (o5 T),.int .i64 deep] h (.bool true))):c8 Tryz.prog cfg (rF [1,1,0,1,0,0,1,0] (jT Tryz.f131)) ⟨mkS 219 [(0,AV.vec (Go.Un.Sl.len (pre.app (.cons k n e r xs th el rest))) (o5 (pre.app (.cons k n e r xs th el rest)))),(1,AV.int .i64 deep),(5,AV.int .i64 ((pre.len:Nat):Int))],h⟩ (Led 219 [(0,AV.vec (Go.Un.Sl.len (pre.app (.cons k n e r xs th el rest))) (o5 (pre.app (.cons k n e r xs th el rest)))),(1,AV.int .i64 deep),(5,AV.int .i64 ((pre.len:Nat):Int))] h):=by
  rcases hG with ⟨rfl,⟨j,hj,rfl⟩,hn,he,rfl,rfl,rfl,rfl,hr⟩ | ⟨rfl,hn,he,rfl,rfl,rfl,rfl,hr⟩ | ⟨rfl | rfl,⟨f,hf,rfl,ha⟩,rfl,rfl,rfl,rfl,hr⟩ | ⟨rfl | rfl,rfl,rfl,hR,rfl,rfl,rfl,hr⟩ | ⟨rfl,rfl,he,rfl,rfl,hth,hel,hr⟩ | ⟨rfl,rfl,he,rfl,rfl,hth,rfl,hr⟩ | ⟨rfl,rfl,rfl,rfl,rfl,rfl,rfl,hr⟩
  · exact c_okK1 hE hR2 hv hd0 j hj e he hl hdp
  · exact c_okK2 hE hR2 hv hd0 n hn e he hl hdp
  · exact c_okK3 hE hR2 hv hd0 f hf xs ha hl hdp
  · exact c_okK4 hE hR2 hv hd0 f hf xs ha hl hdp
  · exact c_okK5 hE hR2 hv hd0 r hR hl hdp
  · exact c_okK6 hE hR2 hv hd0 r hR hl hdp
  · exact c_okK7 hE hR2 hv hd0 e he th el hth hel (ih _ (.inl rfl)) (ih _ (.inr rfl)) hl hdp
  · exact c_okK8 hE hR2 hv hd0 e he th hth (ih _ (.inl rfl)) hl hdp
  · exact c_okK9 hE hR2 hv hd0  hl hdp
theorem GS.next (hv:aE vs){k:Int}{n:BA}{th el:Sl}(hG:GS E (.cons k n e r xs th el rest) vs):∃vs2,aE vs2∧GS E rest vs2:=by
  rcases hG with ⟨rfl,⟨j,hj,rfl⟩,hn,he,rfl,rfl,rfl,rfl,hr⟩ | ⟨rfl,hn,he,rfl,rfl,rfl,rfl,hr⟩ | ⟨_,⟨f,hf,rfl,ha⟩,rfl,rfl,rfl,rfl,hr⟩ | ⟨_,rfl,rfl,hR,rfl,rfl,rfl,hr⟩ | ⟨rfl,rfl,he,rfl,rfl,hth,hel,hr⟩ | ⟨rfl,rfl,he,rfl,rfl,hth,rfl,hr⟩ | ⟨rfl,rfl,rfl,rfl,rfl,rfl,rfl,hr⟩
  · exact ⟨_,hv.snoc hj,hr⟩
  all_goals exact ⟨_,hv,hr⟩
theorem c_okSS (hE:tH E)(hR2:rP E)(S:Sl)(ih:∀S':Sl,S'.wt<S.wt→(∀(vars:List BA) (deep:Int),aE vars→GS E S' vars→0≤deep→deep+(S'.dep:Int)≤23→∀h:c5,CB 131 [.vec S'.len (o5 S'),.int .i64 deep] h (.bool true)))(vars:List BA)(deep:Int)(hv0:aE vars)(hG0:GS E S vars)(hd0:0≤deep)(hd:deep+(S.dep:Int)≤23)(hw:S.wt≤1000):CB 131 [.vec S.len (o5 S),.int .i64 deep] h (.bool true):=by
  refine .bz Tryz.f131 219 ?_;have hlw:=dC S;refine c69z ?_;refine uFbz ?_;intro e1 qe1;refine .sk ?_;refine c5z ?_;refine .u6 (fun m st=>∃(Z:Sl) (pre:Sl) (rst:Sl) (vs:List BA),(m=rst.len∧(Z=S∧S=pre.app rst∧GS E rst vs∧aE vs∧deep+(rst.dep:Int)≤23))∧st=⟨mkS 219 [(0,AV.vec (Go.Un.Sl.len Z) (o5 Z)),(1,AV.int .i64 deep),(5,AV.int .i64 ((pre.len:Nat):Int))],h⟩) (.v ⟨S,Sl.nil,S,vars,⟨rfl,⟨rfl,rfl,hG0,hv0,by omega⟩⟩,rfl⟩ (hs:=t10)) ?_;rintro m sl h' ⟨Z,pre,rst,vs,⟨hm,⟨hZ,hS,hG,hv,hdp⟩⟩,hst⟩;obtain ⟨rfl,rfl⟩:=St.mk.inj hst;clear hst;subst hZ;have hlen:=congrArg Go.Un.Sl.len hS;rw[Go.Un.Sl.bZ]at hlen;refine c0z ?_;refine u2z ?_ ?_
  ·intro e2 qe2;refine c197z ?_;obtain ⟨k,n,e,r,xs,th,el,rest,rfl⟩:=Go.Un.Sl.oP (s:=rst) (by omega);subst hS;have hwc:=@Q8 pre k n e r xs th el rest;have hlc:=@z6 pre k n e r xs th el rest;have hdc:=@fA k n e r xs th el rest;obtain ⟨vs2,hv2,hr2⟩:=GS.next hv hG;refine c8.fitS [(0,AV.vec (Go.Un.Sl.len (pre.app (.cons k n e r xs th el rest))) (o5 (pre.app (.cons k n e r xs th el rest)))),(1,AV.int .i64 deep),(5,AV.int .i64 ((pre.len:Nat):Int))] ?_;refine c8.led (c_okRow hE hR2 hv hd0 (pre:=pre) hG (by omega) hdp (fun T hT=>ih T (by rcases hT with rfl | rfl<;>omega))) ?_;intro lq hq haq;change c8 ..;refine c8.fitS [(0,AV.vec (Go.Un.Sl.len (pre.app (.cons k n e r xs th el rest))) (o5 (pre.app (.cons k n e r xs th el rest)))),(1,AV.int .i64 deep),(5,AV.int .i64 ((pre.len:Nat):Int))] ?_ haq;refine .rz ?_;exact ⟨_,by omega,.v ⟨_,(pre.app (.cons k n e r xs th el .nil)),rest,vs2,⟨rfl,⟨rfl,eG,hr2,hv2,by omega⟩⟩,rfl⟩ (he:=by rfl) (hs:=t10)⟩
  intro e2 qe2;refine c6z ?_;refine .z ?_;exact .ret (.ex (hq:=by rfl))
theorem c_okS {E:Env}(hE:tH E)(hR2:rP E):∀(n:Nat) (S:Sl),S.wt≤n→n≤1000→∀(vars:List BA) (deep:Int),aE vars→GS E S vars→0≤deep→deep+(S.dep:Int)≤23→∀h:c5,CB 131 [.vec S.len (o5 S),.int .i64 deep] h (.bool true)
  | n,S,hn,h1,vars,deep,hv,hG,hd0,hd,h=>by
    refine c_okSS hE hR2 S (fun S' hS'=>?_) vars deep hv hG hd0 hd (by omega);cases n with
    | zero=>omega
    | succ n=>exact c_okS hE hR2 n S' (by omega) (by omega)
end Go.Proofs.YtonbocmibeikmaaGreat
end
