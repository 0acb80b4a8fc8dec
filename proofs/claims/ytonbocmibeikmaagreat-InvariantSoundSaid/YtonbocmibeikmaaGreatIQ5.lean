/- My own texts, put together by a program of mine. -/
import Derived.Test.YtonbocmibeikmaaGreatIQ4
set_option linter.unusedSimpArgs false
set_option linter.unusedVariables false
set_option maxRecDepth 100000
set_option maxHeartbeats 4000000
section
namespace Go.Proofs.YtonbocmibeikmaaGreat
open Go.Ab Go.Un
attribute [local go_sem] nM aI o6 bD cO bF l7 Int.natCast_nonneg Int.natCast_inj List.length_map wrap64 EL mN B4 aH mZ eq_mk nA B5 Nat.reduceMul
structure rX (E:Env):Prop extends GRes E where
  fn:∀f∈E.funcs,uA f.1=false
theorem fM {l:List Ar}{i:Nat}(h:i<l.length):List.take 7 (List.drop (i*7) (bE l))=[.bool (l.getD i dU).mu,.str (l.getD i dU).r.name,.vec (l.getD i dU).r.idx.length (n9 (l.getD i dU).r.idx),.int .i64 (l.getD i dU).e.op,.int .i64 (l.getD i dU).e.num,.str (l.getD i dU).e.name,.vec (l.getD i dU).e.args.length (n9 (l.getD i dU).e.args)]:=by rw[vI h,vY]
variable {E:Env}{xs:List Ar}
theorem KA {vars:List BA}{ps:List Pm}(h:GAs E vars ps xs){i:Nat}(hi:i<xs.length):((xs.getD i dU).mu=true→GR E vars (xs.getD i dU).r∧(xs.getD i dU).e=l6)∧((xs.getD i dU).mu=false→(xs.getD i dU).r=n5∧GE vars 2 (xs.getD i dU).e):=by
  induction ps generalizing xs i with
  | nil=>
    cases xs with
    | nil=>simp at hi
    | cons=>exact h.elim
  | cons p ps ih=>
    cases xs with
    | nil=>exact h.elim
    | cons a xs=>
      obtain ⟨⟨h1,h2⟩,h3⟩:=h;cases i with
      | succ i=>exact ih h3 (by simpa using hi)
      | zero=>
        simp only[List.getD_cons_zero];rcases h2 with ⟨q1,q2,q3⟩ | ⟨q1,q2,q3⟩
        · exact ⟨fun _=>⟨q2,q3⟩,fun h=>absurd ((h1.trans q1).symm.trans h) (by decide)⟩
        · exact ⟨fun h=>absurd ((h1.trans q1).symm.trans h) (by decide),fun _=>⟨q2,q3⟩⟩
variable {h:c7}{e:Ex}
theorem KB (he:e=l6):CB 160 [.agg [.int .i64 e.op,.int .i64 e.num,.str e.name,.vec e.args.length (n9 e.args)]] h (.bool true):=by subst he;exact c_noE
variable {r:Rf}
theorem KC (hr:r=n5):CB 162 [.agg [.str r.name,.vec r.idx.length (n9 r.idx)]] h (.bool true):=by subst hr;exact c_noR
section
attribute [local go_sem] fM
variable {vs:List BA}{deep:Int}{pre rest:Sl}
theorem c_okK1 (hE:tS E)(hR2:rX E)(hv:z8 vs)(hd0:0≤deep)(j:Nat)(hj:j<24)(e:Ex)(he:GE vs 2 e)(hl:(pre.app (.cons 1 (vnm j) e n5 [] .nil .nil rest)).len<100000)(hdp:deep+((Sl.cons 1 (vnm j) e n5 [] .nil .nil rest).dep:Int)≤23):c9 Tryz.prog cfg (rM [1,1,0,1,0,0,1,0] (kD Tryz.f131)) ⟨mkS 219 [(0,AV.vec (Go.Un.Sl.len (pre.app (.cons 1 (vnm j) e n5 [] .nil .nil rest))) (p5 (pre.app (.cons 1 (vnm j) e n5 [] .nil .nil rest)))),(1,AV.int .i64 deep),(5,AV.int .i64 ((pre.len:Nat):Int))],h⟩ (Led 219 [(0,AV.vec (Go.Un.Sl.len (pre.app (.cons 1 (vnm j) e n5 [] .nil .nil rest))) (p5 (pre.app (.cons 1 (vnm j) e n5 [] .nil .nil rest)))),(1,AV.int .i64 deep),(5,AV.int .i64 ((pre.len:Nat):Int))] (h)):=by have hlc:=@w9 pre 1 (vnm j) e n5 [] .nil .nil rest;have hdc:=@fJ 1 (vnm j) e n5 [] .nil .nil rest;refine c209z ?_;refine .ca rfl rfl (mY _ tT (JK j hj)) ?_;refine c77z ?_;refine .k 1 [(26,87)] ?_;refine c198z ?_;refine c104z ?_;refine c210z ?_;refine c201z ?_;refine c211z ?_;exact .mk _ rfl
end
section
attribute [local go_sem] fM
variable {vs:List BA}{deep:Int}{pre rest:Sl}
theorem c_okK2 (hE:tS E)(hR2:rX E)(hv:z8 vs)(hd0:0≤deep)(n:BA)(hn:n∈vs)(e:Ex)(he:GE vs 2 e)(hl:(pre.app (.cons 2 n e n5 [] .nil .nil rest)).len<100000)(hdp:deep+((Sl.cons 2 n e n5 [] .nil .nil rest).dep:Int)≤23):c9 Tryz.prog cfg (rM [1,1,0,1,0,0,1,0] (kD Tryz.f131)) ⟨mkS 219 [(0,AV.vec (Go.Un.Sl.len (pre.app (.cons 2 n e n5 [] .nil .nil rest))) (p5 (pre.app (.cons 2 n e n5 [] .nil .nil rest)))),(1,AV.int .i64 deep),(5,AV.int .i64 ((pre.len:Nat):Int))],h⟩ (Led 219 [(0,AV.vec (Go.Un.Sl.len (pre.app (.cons 2 n e n5 [] .nil .nil rest))) (p5 (pre.app (.cons 2 n e n5 [] .nil .nil rest)))),(1,AV.int .i64 deep),(5,AV.int .i64 ((pre.len:Nat):Int))] (h)):=by have hlc:=@w9 pre 2 n e n5 [] .nil .nil rest;have hdc:=@fJ 2 n e n5 [] .nil .nil rest;refine c209z ?_;refine .ca rfl rfl (mY _ (hv _ hn).1 (hv _ hn).2) ?_;refine c77z ?_;refine .k 1 [(26,87)] ?_;refine c198z ?_;refine c104z ?_;refine c210z ?_;refine c201z ?_;refine c211z ?_;exact .mk _ rfl
end
section
attribute [local go_sem] fM
variable {vs:List BA}{deep:Int}{pre rest:Sl}
theorem c_okK3 (hE:tS E)(hR2:rX E)(hv:z8 vs)(hd0:0≤deep)(f:BA×List Pm)(hf:f∈E.funcs)(xs:List Ar)(ha:GAs E vs f.2 xs)(hl:(pre.app (.cons 3 f.1 l6 n5 xs .nil .nil rest)).len<100000)(hdp:deep+((Sl.cons 3 f.1 l6 n5 xs .nil .nil rest).dep:Int)≤23):c9 Tryz.prog cfg (rM [1,1,0,1,0,0,1,0] (kD Tryz.f131)) ⟨mkS 219 [(0,AV.vec (Go.Un.Sl.len (pre.app (.cons 3 f.1 l6 n5 xs .nil .nil rest))) (p5 (pre.app (.cons 3 f.1 l6 n5 xs .nil .nil rest)))),(1,AV.int .i64 deep),(5,AV.int .i64 ((pre.len:Nat):Int))],h⟩ (Led 219 [(0,AV.vec (Go.Un.Sl.len (pre.app (.cons 3 f.1 l6 n5 xs .nil .nil rest))) (p5 (pre.app (.cons 3 f.1 l6 n5 xs .nil .nil rest)))),(1,AV.int .i64 deep),(5,AV.int .i64 ((pre.len:Nat):Int))] (h)):=by
  have hlc:=@w9 pre 3 f.1 l6 n5 xs .nil .nil rest;have hdc:=@fJ 3 f.1 l6 n5 xs .nil .nil rest;refine c209z ?_;refine .ca rfl rfl (mY _ (hE.fn f hf) (hR2.fn f hf)) ?_;refine c77z ?_;refine .k 8 [(24,85),(26,87),(33,94)] ?_;refine .k 3 [(33,94),(36,97)] ?_;refine c64z ?_;refine c193z ?_;refine c210z ?_;refine c14z ?_;refine .aB (fun m st=>∃(t:Nat),(m=xs.length-t∧t≤xs.length)∧st=⟨mkS 219 [(0,AV.vec (Go.Un.Sl.len (pre.app (.cons 3 f.1 l6 n5 xs .nil .nil rest))) (p5 (pre.app (.cons 3 f.1 l6 n5 xs .nil .nil rest)))),(1,AV.int .i64 deep),(5,AV.int .i64 ((pre.len:Nat):Int)),(6,AV.ptr h.length 0 0),(7,AV.int .i64 3),(12,AV.int .i64 ((t:Nat):Int))],h++[⟨0,false,190,11,[.int .i64 3,.str f.1,.int .i64 l6.op,.int .i64 l6.num,.str l6.name,.vec l6.args.length (n9 l6.args),.str n5.name,.vec n5.idx.length (n9 n5.idx),.vec xs.length (bE xs),.vec (Go.Un.Sl.len Go.Un.Sl.nil) (p5 Go.Un.Sl.nil),.vec (Go.Un.Sl.len Go.Un.Sl.nil) (p5 Go.Un.Sl.nil)],0⟩]⟩) (.v ⟨0,⟨rfl,by omega⟩,rfl⟩) ?_;rintro m sl h' ⟨t,⟨hm,hti⟩,hst⟩;obtain ⟨rfl,rfl⟩:=St.mk.inj hst;clear hst;have hxl:=(lM hE hv.n ha).1;have hfl:=hE.fp f hf;refine c1z ?_;refine u2z ?_ ?_
  ·intro e1 qe1;refine c3z ?_;have har:=KA ha (i:=t) (by omega);refine .z ?_;refine .c6 [0,1,5,6,7,12,13] ?_;refine c15z ?_;refine .spl 147 rfl rfl (fun e2=>?_) (fun e2=>?_)
   ·try simp only[e2]
    have qe2:=fact e2;refine .k 2 [(2,147)] ?_;refine .ca rfl rfl (RX hE hR2.toGRes hv (har.1 (by assumption)).1) ?_;refine .k 4 [(2,147),(7,152)] ?_;refine .ca rfl rfl (KB (har.1 (by assumption)).2) ?_;refine .k 8 [(2,147),(7,152),(14,159)] ?_;refine .k 8 [(18,163),(23,168)] ?_;refine c199z ?_;refine .rz ?_;exact ⟨_,by omega,.v ⟨(t+1),⟨rfl,by omega⟩,rfl⟩ (he:=t47)⟩
   try simp only[e2]
   have qe2:=fact e2;refine .k 8 [(2,147),(7,152)] ?_;refine .k 8 [(2,147),(7,152),(14,159)] ?_;refine .k 2 [(18,163)] ?_;refine .ca rfl rfl (KC (har.2 (by assumption)).1) ?_;refine .k 4 [(18,163),(23,168)] ?_;refine .ca rfl rfl (B7 hv (har.2 (by assumption)).2) ?_;refine c199z ?_;refine .rz ?_;exact ⟨_,by omega,.v ⟨(t+1),⟨rfl,by omega⟩,rfl⟩ (he:=t47)⟩
  intro e1 qe1;refine c6z ?_;refine c192z ?_;refine c211z ?_;exact .mk _ rfl
end
section
attribute [local go_sem] fM
variable {vs:List BA}{deep:Int}{pre rest:Sl}
theorem c_okK4 (hE:tS E)(hR2:rX E)(hv:z8 vs)(hd0:0≤deep)(f:BA×List Pm)(hf:f∈E.funcs)(xs:List Ar)(ha:GAs E vs f.2 xs)(hl:(pre.app (.cons 4 f.1 l6 n5 xs .nil .nil rest)).len<100000)(hdp:deep+((Sl.cons 4 f.1 l6 n5 xs .nil .nil rest).dep:Int)≤23):c9 Tryz.prog cfg (rM [1,1,0,1,0,0,1,0] (kD Tryz.f131)) ⟨mkS 219 [(0,AV.vec (Go.Un.Sl.len (pre.app (.cons 4 f.1 l6 n5 xs .nil .nil rest))) (p5 (pre.app (.cons 4 f.1 l6 n5 xs .nil .nil rest)))),(1,AV.int .i64 deep),(5,AV.int .i64 ((pre.len:Nat):Int))],h⟩ (Led 219 [(0,AV.vec (Go.Un.Sl.len (pre.app (.cons 4 f.1 l6 n5 xs .nil .nil rest))) (p5 (pre.app (.cons 4 f.1 l6 n5 xs .nil .nil rest)))),(1,AV.int .i64 deep),(5,AV.int .i64 ((pre.len:Nat):Int))] (h)):=by
  have hlc:=@w9 pre 4 f.1 l6 n5 xs .nil .nil rest;have hdc:=@fJ 4 f.1 l6 n5 xs .nil .nil rest;refine c209z ?_;refine .ca rfl rfl (mY _ (hE.fn f hf) (hR2.fn f hf)) ?_;refine c77z ?_;refine .k 8 [(24,85),(26,87),(33,94)] ?_;refine .k 3 [(33,94),(36,97)] ?_;refine c64z ?_;refine c193z ?_;refine c210z ?_;refine c14z ?_;refine .aB (fun m st=>∃(t:Nat),(m=xs.length-t∧t≤xs.length)∧st=⟨mkS 219 [(0,AV.vec (Go.Un.Sl.len (pre.app (.cons 4 f.1 l6 n5 xs .nil .nil rest))) (p5 (pre.app (.cons 4 f.1 l6 n5 xs .nil .nil rest)))),(1,AV.int .i64 deep),(5,AV.int .i64 ((pre.len:Nat):Int)),(6,AV.ptr h.length 0 0),(7,AV.int .i64 4),(12,AV.int .i64 ((t:Nat):Int))],h++[⟨0,false,190,11,[.int .i64 4,.str f.1,.int .i64 l6.op,.int .i64 l6.num,.str l6.name,.vec l6.args.length (n9 l6.args),.str n5.name,.vec n5.idx.length (n9 n5.idx),.vec xs.length (bE xs),.vec (Go.Un.Sl.len Go.Un.Sl.nil) (p5 Go.Un.Sl.nil),.vec (Go.Un.Sl.len Go.Un.Sl.nil) (p5 Go.Un.Sl.nil)],0⟩]⟩) (.v ⟨0,⟨rfl,by omega⟩,rfl⟩) ?_;rintro m sl h' ⟨t,⟨hm,hti⟩,hst⟩;obtain ⟨rfl,rfl⟩:=St.mk.inj hst;clear hst;have hxl:=(lM hE hv.n ha).1;have hfl:=hE.fp f hf;refine c1z ?_;refine u2z ?_ ?_
  ·intro e1 qe1;refine c3z ?_;have har:=KA ha (i:=t) (by omega);refine .z ?_;refine .c6 [0,1,5,6,7,12,13] ?_;refine c15z ?_;refine .spl 147 rfl rfl (fun e2=>?_) (fun e2=>?_)
   ·try simp only[e2]
    have qe2:=fact e2;refine .k 2 [(2,147)] ?_;refine .ca rfl rfl (RX hE hR2.toGRes hv (har.1 (by assumption)).1) ?_;refine .k 4 [(2,147),(7,152)] ?_;refine .ca rfl rfl (KB (har.1 (by assumption)).2) ?_;refine .k 8 [(2,147),(7,152),(14,159)] ?_;refine .k 8 [(18,163),(23,168)] ?_;refine c199z ?_;refine .rz ?_;exact ⟨_,by omega,.v ⟨(t+1),⟨rfl,by omega⟩,rfl⟩ (he:=t47)⟩
   try simp only[e2]
   have qe2:=fact e2;refine .k 8 [(2,147),(7,152)] ?_;refine .k 8 [(2,147),(7,152),(14,159)] ?_;refine .k 2 [(18,163)] ?_;refine .ca rfl rfl (KC (har.2 (by assumption)).1) ?_;refine .k 4 [(18,163),(23,168)] ?_;refine .ca rfl rfl (B7 hv (har.2 (by assumption)).2) ?_;refine c199z ?_;refine .rz ?_;exact ⟨_,by omega,.v ⟨(t+1),⟨rfl,by omega⟩,rfl⟩ (he:=t47)⟩
  intro e1 qe1;refine c6z ?_;refine c192z ?_;refine c211z ?_;exact .mk _ rfl
end
section
attribute [local go_sem] fM
variable {vs:List BA}{deep:Int}{pre rest:Sl}
theorem c_okK5 (hE:tS E)(hR2:rX E)(hv:z8 vs)(hd0:0≤deep)(r:Rf)(hR:GR E vs r)(hl:(pre.app (.cons 5 ByteArray.empty l6 r [] .nil .nil rest)).len<100000)(hdp:deep+((Sl.cons 5 ByteArray.empty l6 r [] .nil .nil rest).dep:Int)≤23):c9 Tryz.prog cfg (rM [1,1,0,1,0,0,1,0] (kD Tryz.f131)) ⟨mkS 219 [(0,AV.vec (Go.Un.Sl.len (pre.app (.cons 5 ByteArray.empty l6 r [] .nil .nil rest))) (p5 (pre.app (.cons 5 ByteArray.empty l6 r [] .nil .nil rest)))),(1,AV.int .i64 deep),(5,AV.int .i64 ((pre.len:Nat):Int))],h⟩ (Led 219 [(0,AV.vec (Go.Un.Sl.len (pre.app (.cons 5 ByteArray.empty l6 r [] .nil .nil rest))) (p5 (pre.app (.cons 5 ByteArray.empty l6 r [] .nil .nil rest)))),(1,AV.int .i64 deep),(5,AV.int .i64 ((pre.len:Nat):Int))] (h)):=by have hlc:=@w9 pre 5 ByteArray.empty l6 r [] .nil .nil rest;have hdc:=@fJ 5 ByteArray.empty l6 r [] .nil .nil rest;refine c182z ?_;refine c101z ?_;refine c202z ?_;refine c64z ?_;refine .ca rfl rfl (RX hE hR2.toGRes hv hR) ?_;refine .k 8 [(43,104),(45,106),(52,113),(55,116)] ?_;refine .k 8 [(52,113),(55,116),(62,123)] ?_;refine .m [(62,123),(65,126)] ?_;refine c81z ?_;refine c201z ?_;refine c211z ?_;exact .mk _ rfl
end
section
attribute [local go_sem] fM
variable {vs:List BA}{deep:Int}{pre rest:Sl}
theorem c_okK6 (hE:tS E)(hR2:rX E)(hv:z8 vs)(hd0:0≤deep)(r:Rf)(hR:GR E vs r)(hl:(pre.app (.cons 6 ByteArray.empty l6 r [] .nil .nil rest)).len<100000)(hdp:deep+((Sl.cons 6 ByteArray.empty l6 r [] .nil .nil rest).dep:Int)≤23):c9 Tryz.prog cfg (rM [1,1,0,1,0,0,1,0] (kD Tryz.f131)) ⟨mkS 219 [(0,AV.vec (Go.Un.Sl.len (pre.app (.cons 6 ByteArray.empty l6 r [] .nil .nil rest))) (p5 (pre.app (.cons 6 ByteArray.empty l6 r [] .nil .nil rest)))),(1,AV.int .i64 deep),(5,AV.int .i64 ((pre.len:Nat):Int))],h⟩ (Led 219 [(0,AV.vec (Go.Un.Sl.len (pre.app (.cons 6 ByteArray.empty l6 r [] .nil .nil rest))) (p5 (pre.app (.cons 6 ByteArray.empty l6 r [] .nil .nil rest)))),(1,AV.int .i64 deep),(5,AV.int .i64 ((pre.len:Nat):Int))] (h)):=by have hlc:=@w9 pre 6 ByteArray.empty l6 r [] .nil .nil rest;have hdc:=@fJ 6 ByteArray.empty l6 r [] .nil .nil rest;refine c182z ?_;refine c101z ?_;refine c202z ?_;refine c64z ?_;refine .ca rfl rfl (RX hE hR2.toGRes hv hR) ?_;refine .k 8 [(43,104),(45,106),(52,113),(55,116)] ?_;refine .k 8 [(52,113),(55,116),(62,123)] ?_;refine .m [(62,123),(65,126)] ?_;refine c81z ?_;refine c201z ?_;refine c211z ?_;exact .mk _ rfl
end
section
attribute [local go_sem] fM
variable {vs:List BA}{deep:Int}{pre rest:Sl}
theorem c_okK7 (hE:tS E)(hR2:rX E)(hv:z8 vs)(hd0:0≤deep)(e:Ex)(he:GE vs 2 e)(th el:Sl)(hth:GS E th vs)(hel:GS E el vs)(ith:(∀(vars:List BA) (deep:Int),z8 vars→GS E th vars→0≤deep→deep+(th.dep:Int)≤23→∀h:c7,CB 131 [.vec th.len (p5 th),.int .i64 deep] h (.bool true)))(iel:(∀(vars:List BA) (deep:Int),z8 vars→GS E el vars→0≤deep→deep+(el.dep:Int)≤23→∀h:c7,CB 131 [.vec el.len (p5 el),.int .i64 deep] h (.bool true)))(hl:(pre.app (.cons 7 ByteArray.empty e n5 [] th el rest)).len<100000)(hdp:deep+((Sl.cons 7 ByteArray.empty e n5 [] th el rest).dep:Int)≤23):c9 Tryz.prog cfg (rM [1,1,0,1,0,0,1,0] (kD Tryz.f131)) ⟨mkS 219 [(0,AV.vec (Go.Un.Sl.len (pre.app (.cons 7 ByteArray.empty e n5 [] th el rest))) (p5 (pre.app (.cons 7 ByteArray.empty e n5 [] th el rest)))),(1,AV.int .i64 deep),(5,AV.int .i64 ((pre.len:Nat):Int))],h⟩ (Led 219 [(0,AV.vec (Go.Un.Sl.len (pre.app (.cons 7 ByteArray.empty e n5 [] th el rest))) (p5 (pre.app (.cons 7 ByteArray.empty e n5 [] th el rest)))),(1,AV.int .i64 deep),(5,AV.int .i64 ((pre.len:Nat):Int))] (h)):=by
  have hlc:=@w9 pre 7 ByteArray.empty e n5 [] th el rest;have hdc:=@fJ 7 ByteArray.empty e n5 [] th el rest;refine c182z ?_;refine c101z ?_;refine .k 5 [(24,85),(26,87)] ?_;refine c198z ?_;refine c104z ?_;refine c210z ?_;refine c201z ?_;refine .k 6 [(1,183)] ?_;refine .ca rfl rfl (ith vs (deep+1) hv hth (by omega) (by omega) _) ?_;refine .k 8 [(1,183),(9,191),(12,194)] ?_;refine .k 8 [(9,191),(12,194),(19,201)] ?_;refine .k 2 [(19,201)] ?_;refine .spl 206 rfl rfl (fun e1=>?_) (fun e1=>?_)
  ·try simp only[e1]
   have qe1:=fact e1;refine .k 7 [(24,206),(27,209)] ?_;refine .ca rfl rfl (iel vs (deep+1) hv hel (by omega) (by omega) _) ?_;refine c136z ?_;exact .mk _ rfl
  try simp only[e1]
  have qe1:=fact e1;refine .k 8 [(24,206),(27,209)] ?_;refine c136z ?_;exact .mk _ rfl
end
section
attribute [local go_sem] fM
variable {vs:List BA}{deep:Int}{pre rest:Sl}
theorem c_okK8 (hE:tS E)(hR2:rX E)(hv:z8 vs)(hd0:0≤deep)(e:Ex)(he:GE vs 2 e)(th:Sl)(hth:GS E th vs)(ith:(∀(vars:List BA) (deep:Int),z8 vars→GS E th vars→0≤deep→deep+(th.dep:Int)≤23→∀h:c7,CB 131 [.vec th.len (p5 th),.int .i64 deep] h (.bool true)))(hl:(pre.app (.cons 8 ByteArray.empty e n5 [] th .nil rest)).len<100000)(hdp:deep+((Sl.cons 8 ByteArray.empty e n5 [] th .nil rest).dep:Int)≤23):c9 Tryz.prog cfg (rM [1,1,0,1,0,0,1,0] (kD Tryz.f131)) ⟨mkS 219 [(0,AV.vec (Go.Un.Sl.len (pre.app (.cons 8 ByteArray.empty e n5 [] th .nil rest))) (p5 (pre.app (.cons 8 ByteArray.empty e n5 [] th .nil rest)))),(1,AV.int .i64 deep),(5,AV.int .i64 ((pre.len:Nat):Int))],h⟩ (Led 219 [(0,AV.vec (Go.Un.Sl.len (pre.app (.cons 8 ByteArray.empty e n5 [] th .nil rest))) (p5 (pre.app (.cons 8 ByteArray.empty e n5 [] th .nil rest)))),(1,AV.int .i64 deep),(5,AV.int .i64 ((pre.len:Nat):Int))] (h)):=by have hlc:=@w9 pre 8 ByteArray.empty e n5 [] th .nil rest;have hdc:=@fJ 8 ByteArray.empty e n5 [] th .nil rest;refine c182z ?_;refine c101z ?_;refine .k 5 [(24,85),(26,87)] ?_;refine c198z ?_;refine c104z ?_;refine c210z ?_;refine c201z ?_;refine .k 6 [(1,183)] ?_;refine .ca rfl rfl (ith vs (deep+1) hv hth (by omega) (by omega) _) ?_;refine .k 8 [(1,183),(9,191),(12,194)] ?_;refine c186z ?_;exact .mk _ rfl
end
section
attribute [local go_sem] fM
variable {vs:List BA}{deep:Int}{pre rest:Sl}
theorem c_okK9 (hE:tS E)(hR2:rX E)(hv:z8 vs)(hd0:0≤deep)  (hl:(pre.app (.cons 9 ByteArray.empty l6 n5 [] .nil .nil rest)).len<100000)(hdp:deep+((Sl.cons 9 ByteArray.empty l6 n5 [] .nil .nil rest).dep:Int)≤23):c9 Tryz.prog cfg (rM [1,1,0,1,0,0,1,0] (kD Tryz.f131)) ⟨mkS 219 [(0,AV.vec (Go.Un.Sl.len (pre.app (.cons 9 ByteArray.empty l6 n5 [] .nil .nil rest))) (p5 (pre.app (.cons 9 ByteArray.empty l6 n5 [] .nil .nil rest)))),(1,AV.int .i64 deep),(5,AV.int .i64 ((pre.len:Nat):Int))],h⟩ (Led 219 [(0,AV.vec (Go.Un.Sl.len (pre.app (.cons 9 ByteArray.empty l6 n5 [] .nil .nil rest))) (p5 (pre.app (.cons 9 ByteArray.empty l6 n5 [] .nil .nil rest)))),(1,AV.int .i64 deep),(5,AV.int .i64 ((pre.len:Nat):Int))] (h)):=by have hlc:=@w9 pre 9 ByteArray.empty l6 n5 [] .nil .nil rest;have hdc:=@fJ 9 ByteArray.empty l6 n5 [] .nil .nil rest;refine c182z ?_;refine c101z ?_;refine c202z ?_;refine c64z ?_;refine c193z ?_;refine c210z ?_;refine c201z ?_;refine c211z ?_;exact .mk _ rfl
end
variable {vs:List BA}{deep:Int}{pre rest:Sl}
theorem c_okRow (hE:tS E)(hR2:rX E)(hv:z8 vs)(hd0:0≤deep){k:Int}{n:BA}{th el:Sl}(hG:GS E (.cons k n e r xs th el rest) vs)(hl:(pre.app (.cons k n e r xs th el rest)).len<100000)(hdp:deep+((Sl.cons k n e r xs th el rest).dep:Int)≤23)(ih:∀T:Sl,(T=th∨T=el)→(∀(vars:List BA) (deep:Int),z8 vars→GS E T vars→0≤deep→deep+(T.dep:Int)≤23→∀h:c7,CB 131 [.vec T.len (p5 T),.int .i64 deep] h (.bool true))):c9 Tryz.prog cfg (rM [1,1,0,1,0,0,1,0] (kD Tryz.f131)) ⟨mkS 219 [(0,AV.vec (Go.Un.Sl.len (pre.app (.cons k n e r xs th el rest))) (p5 (pre.app (.cons k n e r xs th el rest)))),(1,AV.int .i64 deep),(5,AV.int .i64 ((pre.len:Nat):Int))],h⟩ (Led 219 [(0,AV.vec (Go.Un.Sl.len (pre.app (.cons k n e r xs th el rest))) (p5 (pre.app (.cons k n e r xs th el rest)))),(1,AV.int .i64 deep),(5,AV.int .i64 ((pre.len:Nat):Int))] h):=by
  rcases hG with ⟨rfl,⟨j,hj,rfl⟩,hn,he,rfl,rfl,rfl,rfl,hr⟩ | ⟨rfl,hn,he,rfl,rfl,rfl,rfl,hr⟩ | ⟨rfl | rfl,⟨f,hf,rfl,ha⟩,rfl,rfl,rfl,rfl,hr⟩ | ⟨rfl | rfl,rfl,rfl,hR,rfl,rfl,rfl,hr⟩ | ⟨rfl,rfl,he,rfl,rfl,hth,hel,hr⟩ | ⟨rfl,rfl,he,rfl,rfl,hth,rfl,hr⟩ | ⟨rfl,rfl,rfl,rfl,rfl,rfl,rfl,hr⟩
  · exact c_okK1 hE hR2 hv hd0 j hj e he hl hdp
  · exact c_okK2 hE hR2 hv hd0 n hn e he hl hdp
  · exact c_okK3 hE hR2 hv hd0 f hf xs ha hl hdp
  · exact c_okK4 hE hR2 hv hd0 f hf xs ha hl hdp
  · exact c_okK5 hE hR2 hv hd0 r hR hl hdp
  · exact c_okK6 hE hR2 hv hd0 r hR hl hdp
  · exact c_okK7 hE hR2 hv hd0 e he th el hth hel (ih _ (.inl rfl)) (ih _ (.inr rfl)) hl hdp
  · exact c_okK8 hE hR2 hv hd0 e he th hth (ih _ (.inl rfl)) hl hdp
  · exact c_okK9 hE hR2 hv hd0  hl hdp
theorem GS.next (hv:z8 vs){k:Int}{n:BA}{th el:Sl}(hG:GS E (.cons k n e r xs th el rest) vs):∃vs2,z8 vs2∧GS E rest vs2:=by
  rcases hG with ⟨rfl,⟨j,hj,rfl⟩,hn,he,rfl,rfl,rfl,rfl,hr⟩ | ⟨rfl,hn,he,rfl,rfl,rfl,rfl,hr⟩ | ⟨_,⟨f,hf,rfl,ha⟩,rfl,rfl,rfl,rfl,hr⟩ | ⟨_,rfl,rfl,hR,rfl,rfl,rfl,hr⟩ | ⟨rfl,rfl,he,rfl,rfl,hth,hel,hr⟩ | ⟨rfl,rfl,he,rfl,rfl,hth,rfl,hr⟩ | ⟨rfl,rfl,rfl,rfl,rfl,rfl,rfl,hr⟩
  · exact ⟨_,hv.snoc hj,hr⟩
  all_goals exact ⟨_,hv,hr⟩
theorem c_okSS (hE:tS E)(hR2:rX E)(S:Sl)(ih:∀S':Sl,S'.wt<S.wt→(∀(vars:List BA) (deep:Int),z8 vars→GS E S' vars→0≤deep→deep+(S'.dep:Int)≤23→∀h:c7,CB 131 [.vec S'.len (p5 S'),.int .i64 deep] h (.bool true)))(vars:List BA)(deep:Int)(hv0:z8 vars)(hG0:GS E S vars)(hd0:0≤deep)(hd:deep+(S.dep:Int)≤23)(hw:S.wt≤1000):CB 131 [.vec S.len (p5 S),.int .i64 deep] h (.bool true):=by
  refine .bz Tryz.f131 219 ?_;have hlw:=dG S;refine c89z ?_;refine uFbz ?_;intro e1 qe1;refine .sk ?_;refine c7z ?_;refine .aB (fun m st=>∃(Z:Sl) (pre:Sl) (rst:Sl) (vs:List BA),(m=rst.len∧(Z=S∧S=pre.app rst∧GS E rst vs∧z8 vs∧deep+(rst.dep:Int)≤23))∧st=⟨mkS 219 [(0,AV.vec (Go.Un.Sl.len Z) (p5 Z)),(1,AV.int .i64 deep),(5,AV.int .i64 ((pre.len:Nat):Int))],h⟩) (.v ⟨S,Sl.nil,S,vars,⟨rfl,⟨rfl,rfl,hG0,hv0,by omega⟩⟩,rfl⟩ (hs:=t10)) ?_;rintro m sl h' ⟨Z,pre,rst,vs,⟨hm,⟨hZ,hS,hG,hv,hdp⟩⟩,hst⟩;obtain ⟨rfl,rfl⟩:=St.mk.inj hst;clear hst;subst hZ;have hlen:=congrArg Go.Un.Sl.len hS;rw[Go.Un.Sl.bZ]at hlen;refine c1z ?_;refine u2z ?_ ?_
  ·intro e2 qe2;refine c117z ?_;obtain ⟨k,n,e,r,xs,th,el,rest,rfl⟩:=Go.Un.Sl.oV (s:=rst) (by omega);subst hS;have hwc:=@T9 pre k n e r xs th el rest;have hlc:=@w9 pre k n e r xs th el rest;have hdc:=@fJ k n e r xs th el rest;obtain ⟨vs2,hv2,hr2⟩:=GS.next hv hG;refine c9.fitS [(0,AV.vec (Go.Un.Sl.len (pre.app (.cons k n e r xs th el rest))) (p5 (pre.app (.cons k n e r xs th el rest)))),(1,AV.int .i64 deep),(5,AV.int .i64 ((pre.len:Nat):Int))] ?_;refine c9.led (c_okRow hE hR2 hv hd0 (pre:=pre) hG (by omega) hdp (fun T hT=>ih T (by rcases hT with rfl | rfl<;>omega))) ?_;intro lq hq haq;change c9 ..;refine c9.fitS [(0,AV.vec (Go.Un.Sl.len (pre.app (.cons k n e r xs th el rest))) (p5 (pre.app (.cons k n e r xs th el rest)))),(1,AV.int .i64 deep),(5,AV.int .i64 ((pre.len:Nat):Int))] ?_ haq;refine .rz ?_;exact ⟨_,by omega,.v ⟨_,(pre.app (.cons k n e r xs th el .nil)),rest,vs2,⟨rfl,⟨rfl,eL,hr2,hv2,by omega⟩⟩,rfl⟩ (he:=by rfl) (hs:=t10)⟩
  intro e2 qe2;refine c6z ?_;refine .z ?_;exact .ret (.ex (hq:=by rfl))
theorem c_okS {E:Env}(hE:tS E)(hR2:rX E):∀(n:Nat) (S:Sl),S.wt≤n→n≤1000→∀(vars:List BA) (deep:Int),z8 vars→GS E S vars→0≤deep→deep+(S.dep:Int)≤23→∀h:c7,CB 131 [.vec S.len (p5 S),.int .i64 deep] h (.bool true)
  | n,S,hn,h1,vars,deep,hv,hG,hd0,hd,h=>by
    refine c_okSS hE hR2 S (fun S' hS'=>?_) vars deep hv hG hd0 hd (by omega);cases n with
    | zero=>omega
    | succ n=>exact c_okS hE hR2 n S' (by omega) (by omega)
end Go.Proofs.YtonbocmibeikmaaGreat
end
