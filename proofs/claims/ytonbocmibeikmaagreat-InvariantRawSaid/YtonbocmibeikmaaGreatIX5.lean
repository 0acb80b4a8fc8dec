/- My own texts, put together by a program of mine. -/
import Derived.Test.YtonbocmibeikmaaGreatIX4
set_option linter.unusedSimpArgs false
set_option linter.unusedVariables false
set_option maxRecDepth 100000
set_option maxHeartbeats 4000000
section
namespace Go.Proofs.YtonbocmibeikmaaGreat
open Go.Ab Go.Un
attribute [local go_sem] oH bE o7 cB dQ cD l8 Int.natCast_nonneg Int.natCast_inj List.length_map wrap64 EL nF D7 bD nR eq_mk nS D8 Nat.reduceMul
structure sK (E:Env):Prop extends GRes E where
  fn:∀f∈E.funcs,uR f.1=false
theorem gQ {l:List Ar}{i:Nat}(h:i<l.length):List.take 7 (List.drop (i*7) (cC l))=[.bool (l.getD i eR).mu,.str (l.getD i eR).r.name,.vec (l.getD i eR).r.idx.length (o2 (l.getD i eR).r.idx),.int .i64 (l.getD i eR).e.op,.int .i64 (l.getD i eR).e.num,.str (l.getD i eR).e.name,.vec (l.getD i eR).e.args.length (o2 (l.getD i eR).e.args)]:=by rw[wD h,wV]
variable {E:Env}{xs:List Ar}
theorem KC {vars:List BA}{ps:List Pm}(h:GAs E vars ps xs){i:Nat}(hi:i<xs.length):((xs.getD i eR).mu=true→GR E vars (xs.getD i eR).r∧(xs.getD i eR).e=l9)∧((xs.getD i eR).mu=false→(xs.getD i eR).r=o1∧GE vars 2 (xs.getD i eR).e):=by
  induction ps generalizing xs i with
  | nil=>
    cases xs with
    | nil=>simp at hi
    | cons=>exact h.elim
  | cons p ps ih=>
    cases xs with
    | nil=>exact h.elim
    | cons a xs=>
      obtain ⟨⟨h1,h2⟩,h3⟩:=h;cases i with
      | succ i=>exact ih h3 (by simpa using hi)
      | zero=>
        simp only[List.getD_cons_zero];rcases h2 with ⟨q1,q2,q3⟩ | ⟨q1,q2,q3⟩
        · exact ⟨fun _=>⟨q2,q3⟩,fun h=>absurd ((h1.trans q1).symm.trans h) (by decide)⟩
        · exact ⟨fun h=>absurd ((h1.trans q1).symm.trans h) (by decide),fun _=>⟨q2,q3⟩⟩
variable {h:c6}{e:Ex}
theorem KD (he:e=l9):CB 160 [.agg [.int .i64 e.op,.int .i64 e.num,.str e.name,.vec e.args.length (o2 e.args)]] h (.bool true):=by subst he;exact c_noE
variable {r:Rf}
theorem KE (hr:r=o1):CB 162 [.agg [.str r.name,.vec r.idx.length (o2 r.idx)]] h (.bool true):=by subst hr;exact c_noR
section
attribute [local go_sem] gQ
variable {vs:List BA}{deep:Int}{pre rest:Sl}
theorem c_okK1 (hE:uI E)(hR2:sK E)(hv:aV vs)(hd0:0≤deep)(j:Nat)(hj:j<24)(e:Ex)(he:GE vs 2 e)(hl:(pre.app (.cons 1 (vnm j) e o1 [] .nil .nil rest)).len<100000)(hdp:deep+((Sl.cons 1 (vnm j) e o1 [] .nil .nil rest).dep:Int)≤23):c9 Tryz.prog cfg (sA [1,1,0,1,0,0,1,0] (kU Tryz.f131)) ⟨mkS 219 [(0,AV.vec (Go.Un.Sl.len (pre.app (.cons 1 (vnm j) e o1 [] .nil .nil rest))) (s4 (pre.app (.cons 1 (vnm j) e o1 [] .nil .nil rest)))),(1,AV.int .i64 deep),(5,AV.int .i64 ((pre.len:Nat):Int))],h⟩ (Led 219 [(0,AV.vec (Go.Un.Sl.len (pre.app (.cons 1 (vnm j) e o1 [] .nil .nil rest))) (s4 (pre.app (.cons 1 (vnm j) e o1 [] .nil .nil rest)))),(1,AV.int .i64 deep),(5,AV.int .i64 ((pre.len:Nat):Int))] (h)):=by have hlc:=@aK pre 1 (vnm j) e o1 [] .nil .nil rest;have hdc:=@gN 1 (vnm j) e o1 [] .nil .nil rest;refine c232z ?_;refine .ca rfl rfl (nQ _ uJ (JM j hj)) ?_;refine c83z ?_;refine .k 1 [(26,87)] ?_;refine c217z ?_;refine c120z ?_;refine c233z ?_;refine c222z ?_;refine c234z ?_;exact .mk _ rfl
end
section
attribute [local go_sem] gQ
variable {vs:List BA}{deep:Int}{pre rest:Sl}
theorem c_okK2 (hE:uI E)(hR2:sK E)(hv:aV vs)(hd0:0≤deep)(n:BA)(hn:n∈vs)(e:Ex)(he:GE vs 2 e)(hl:(pre.app (.cons 2 n e o1 [] .nil .nil rest)).len<100000)(hdp:deep+((Sl.cons 2 n e o1 [] .nil .nil rest).dep:Int)≤23):c9 Tryz.prog cfg (sA [1,1,0,1,0,0,1,0] (kU Tryz.f131)) ⟨mkS 219 [(0,AV.vec (Go.Un.Sl.len (pre.app (.cons 2 n e o1 [] .nil .nil rest))) (s4 (pre.app (.cons 2 n e o1 [] .nil .nil rest)))),(1,AV.int .i64 deep),(5,AV.int .i64 ((pre.len:Nat):Int))],h⟩ (Led 219 [(0,AV.vec (Go.Un.Sl.len (pre.app (.cons 2 n e o1 [] .nil .nil rest))) (s4 (pre.app (.cons 2 n e o1 [] .nil .nil rest)))),(1,AV.int .i64 deep),(5,AV.int .i64 ((pre.len:Nat):Int))] (h)):=by have hlc:=@aK pre 2 n e o1 [] .nil .nil rest;have hdc:=@gN 2 n e o1 [] .nil .nil rest;refine c232z ?_;refine .ca rfl rfl (nQ _ (hv _ hn).1 (hv _ hn).2) ?_;refine c83z ?_;refine .k 1 [(26,87)] ?_;refine c217z ?_;refine c120z ?_;refine c233z ?_;refine c222z ?_;refine c234z ?_;exact .mk _ rfl
end
section
attribute [local go_sem] gQ
variable {vs:List BA}{deep:Int}{pre rest:Sl}
theorem c_okK3 (hE:uI E)(hR2:sK E)(hv:aV vs)(hd0:0≤deep)(f:BA×List Pm)(hf:f∈E.funcs)(xs:List Ar)(ha:GAs E vs f.2 xs)(hl:(pre.app (.cons 3 f.1 l9 o1 xs .nil .nil rest)).len<100000)(hdp:deep+((Sl.cons 3 f.1 l9 o1 xs .nil .nil rest).dep:Int)≤23):c9 Tryz.prog cfg (sA [1,1,0,1,0,0,1,0] (kU Tryz.f131)) ⟨mkS 219 [(0,AV.vec (Go.Un.Sl.len (pre.app (.cons 3 f.1 l9 o1 xs .nil .nil rest))) (s4 (pre.app (.cons 3 f.1 l9 o1 xs .nil .nil rest)))),(1,AV.int .i64 deep),(5,AV.int .i64 ((pre.len:Nat):Int))],h⟩ (Led 219 [(0,AV.vec (Go.Un.Sl.len (pre.app (.cons 3 f.1 l9 o1 xs .nil .nil rest))) (s4 (pre.app (.cons 3 f.1 l9 o1 xs .nil .nil rest)))),(1,AV.int .i64 deep),(5,AV.int .i64 ((pre.len:Nat):Int))] (h)):=by
  have hlc:=@aK pre 3 f.1 l9 o1 xs .nil .nil rest;have hdc:=@gN 3 f.1 l9 o1 xs .nil .nil rest;refine c232z ?_;refine .ca rfl rfl (nQ _ (hE.fn f hf) (hR2.fn f hf)) ?_;refine c83z ?_;refine .k 8 [(24,85),(26,87),(33,94)] ?_;refine .k 3 [(33,94),(36,97)] ?_;refine c73z ?_;refine c213z ?_;refine c233z ?_;refine c15z ?_;refine .aN (fun m st=>∃(t:Nat),(m=xs.length-t∧t≤xs.length)∧st=⟨mkS 219 [(0,AV.vec (Go.Un.Sl.len (pre.app (.cons 3 f.1 l9 o1 xs .nil .nil rest))) (s4 (pre.app (.cons 3 f.1 l9 o1 xs .nil .nil rest)))),(1,AV.int .i64 deep),(5,AV.int .i64 ((pre.len:Nat):Int)),(6,AV.ptr h.length 0 0),(7,AV.int .i64 3),(12,AV.int .i64 ((t:Nat):Int))],h++[⟨0,false,190,11,[.int .i64 3,.str f.1,.int .i64 l9.op,.int .i64 l9.num,.str l9.name,.vec l9.args.length (o2 l9.args),.str o1.name,.vec o1.idx.length (o2 o1.idx),.vec xs.length (cC xs),.vec (Go.Un.Sl.len Go.Un.Sl.nil) (s4 Go.Un.Sl.nil),.vec (Go.Un.Sl.len Go.Un.Sl.nil) (s4 Go.Un.Sl.nil)],0⟩]⟩) (.v ⟨0,⟨rfl,by omega⟩,rfl⟩) ?_;rintro m sl h' ⟨t,⟨hm,hti⟩,hst⟩;obtain ⟨rfl,rfl⟩:=St.mk.inj hst;clear hst;have hxl:=(mE hE hv.n ha).1;have hfl:=hE.fp f hf;refine c1z ?_;refine u2z ?_ ?_
  ·intro e1 qe1;refine c3z ?_;have har:=KC ha (i:=t) (by omega);refine .z ?_;refine .c7 [0,1,5,6,7,12,13] ?_;refine c12z ?_;refine .spl 147 rfl rfl (fun e2=>?_) (fun e2=>?_)
   ·try simp only[e2]
    have qe2:=fact e2;refine .k 2 [(2,147)] ?_;refine .ca rfl rfl (SJ hE hR2.toGRes hv (har.1 (by assumption)).1) ?_;refine .k 4 [(2,147),(7,152)] ?_;refine .ca rfl rfl (KD (har.1 (by assumption)).2) ?_;refine .k 8 [(2,147),(7,152),(14,159)] ?_;refine .k 8 [(18,163),(23,168)] ?_;refine c218z ?_;refine .rz ?_;exact ⟨_,by omega,.v ⟨(t+1),⟨rfl,by omega⟩,rfl⟩ (he:=t44)⟩
   try simp only[e2]
   have qe2:=fact e2;refine .k 8 [(2,147),(7,152)] ?_;refine .k 8 [(2,147),(7,152),(14,159)] ?_;refine .k 2 [(18,163)] ?_;refine .ca rfl rfl (KE (har.2 (by assumption)).1) ?_;refine .k 4 [(18,163),(23,168)] ?_;refine .ca rfl rfl (E4 hv (har.2 (by assumption)).2) ?_;refine c218z ?_;refine .rz ?_;exact ⟨_,by omega,.v ⟨(t+1),⟨rfl,by omega⟩,rfl⟩ (he:=t44)⟩
  intro e1 qe1;refine c8z ?_;refine c212z ?_;refine c234z ?_;exact .mk _ rfl
end
section
attribute [local go_sem] gQ
variable {vs:List BA}{deep:Int}{pre rest:Sl}
theorem c_okK4 (hE:uI E)(hR2:sK E)(hv:aV vs)(hd0:0≤deep)(f:BA×List Pm)(hf:f∈E.funcs)(xs:List Ar)(ha:GAs E vs f.2 xs)(hl:(pre.app (.cons 4 f.1 l9 o1 xs .nil .nil rest)).len<100000)(hdp:deep+((Sl.cons 4 f.1 l9 o1 xs .nil .nil rest).dep:Int)≤23):c9 Tryz.prog cfg (sA [1,1,0,1,0,0,1,0] (kU Tryz.f131)) ⟨mkS 219 [(0,AV.vec (Go.Un.Sl.len (pre.app (.cons 4 f.1 l9 o1 xs .nil .nil rest))) (s4 (pre.app (.cons 4 f.1 l9 o1 xs .nil .nil rest)))),(1,AV.int .i64 deep),(5,AV.int .i64 ((pre.len:Nat):Int))],h⟩ (Led 219 [(0,AV.vec (Go.Un.Sl.len (pre.app (.cons 4 f.1 l9 o1 xs .nil .nil rest))) (s4 (pre.app (.cons 4 f.1 l9 o1 xs .nil .nil rest)))),(1,AV.int .i64 deep),(5,AV.int .i64 ((pre.len:Nat):Int))] (h)):=by
  have hlc:=@aK pre 4 f.1 l9 o1 xs .nil .nil rest;have hdc:=@gN 4 f.1 l9 o1 xs .nil .nil rest;refine c232z ?_;refine .ca rfl rfl (nQ _ (hE.fn f hf) (hR2.fn f hf)) ?_;refine c83z ?_;refine .k 8 [(24,85),(26,87),(33,94)] ?_;refine .k 3 [(33,94),(36,97)] ?_;refine c73z ?_;refine c213z ?_;refine c233z ?_;refine c15z ?_;refine .aN (fun m st=>∃(t:Nat),(m=xs.length-t∧t≤xs.length)∧st=⟨mkS 219 [(0,AV.vec (Go.Un.Sl.len (pre.app (.cons 4 f.1 l9 o1 xs .nil .nil rest))) (s4 (pre.app (.cons 4 f.1 l9 o1 xs .nil .nil rest)))),(1,AV.int .i64 deep),(5,AV.int .i64 ((pre.len:Nat):Int)),(6,AV.ptr h.length 0 0),(7,AV.int .i64 4),(12,AV.int .i64 ((t:Nat):Int))],h++[⟨0,false,190,11,[.int .i64 4,.str f.1,.int .i64 l9.op,.int .i64 l9.num,.str l9.name,.vec l9.args.length (o2 l9.args),.str o1.name,.vec o1.idx.length (o2 o1.idx),.vec xs.length (cC xs),.vec (Go.Un.Sl.len Go.Un.Sl.nil) (s4 Go.Un.Sl.nil),.vec (Go.Un.Sl.len Go.Un.Sl.nil) (s4 Go.Un.Sl.nil)],0⟩]⟩) (.v ⟨0,⟨rfl,by omega⟩,rfl⟩) ?_;rintro m sl h' ⟨t,⟨hm,hti⟩,hst⟩;obtain ⟨rfl,rfl⟩:=St.mk.inj hst;clear hst;have hxl:=(mE hE hv.n ha).1;have hfl:=hE.fp f hf;refine c1z ?_;refine u2z ?_ ?_
  ·intro e1 qe1;refine c3z ?_;have har:=KC ha (i:=t) (by omega);refine .z ?_;refine .c7 [0,1,5,6,7,12,13] ?_;refine c12z ?_;refine .spl 147 rfl rfl (fun e2=>?_) (fun e2=>?_)
   ·try simp only[e2]
    have qe2:=fact e2;refine .k 2 [(2,147)] ?_;refine .ca rfl rfl (SJ hE hR2.toGRes hv (har.1 (by assumption)).1) ?_;refine .k 4 [(2,147),(7,152)] ?_;refine .ca rfl rfl (KD (har.1 (by assumption)).2) ?_;refine .k 8 [(2,147),(7,152),(14,159)] ?_;refine .k 8 [(18,163),(23,168)] ?_;refine c218z ?_;refine .rz ?_;exact ⟨_,by omega,.v ⟨(t+1),⟨rfl,by omega⟩,rfl⟩ (he:=t44)⟩
   try simp only[e2]
   have qe2:=fact e2;refine .k 8 [(2,147),(7,152)] ?_;refine .k 8 [(2,147),(7,152),(14,159)] ?_;refine .k 2 [(18,163)] ?_;refine .ca rfl rfl (KE (har.2 (by assumption)).1) ?_;refine .k 4 [(18,163),(23,168)] ?_;refine .ca rfl rfl (E4 hv (har.2 (by assumption)).2) ?_;refine c218z ?_;refine .rz ?_;exact ⟨_,by omega,.v ⟨(t+1),⟨rfl,by omega⟩,rfl⟩ (he:=t44)⟩
  intro e1 qe1;refine c8z ?_;refine c212z ?_;refine c234z ?_;exact .mk _ rfl
end
section
attribute [local go_sem] gQ
variable {vs:List BA}{deep:Int}{pre rest:Sl}
theorem c_okK5 (hE:uI E)(hR2:sK E)(hv:aV vs)(hd0:0≤deep)(r:Rf)(hR:GR E vs r)(hl:(pre.app (.cons 5 ByteArray.empty l9 r [] .nil .nil rest)).len<100000)(hdp:deep+((Sl.cons 5 ByteArray.empty l9 r [] .nil .nil rest).dep:Int)≤23):c9 Tryz.prog cfg (sA [1,1,0,1,0,0,1,0] (kU Tryz.f131)) ⟨mkS 219 [(0,AV.vec (Go.Un.Sl.len (pre.app (.cons 5 ByteArray.empty l9 r [] .nil .nil rest))) (s4 (pre.app (.cons 5 ByteArray.empty l9 r [] .nil .nil rest)))),(1,AV.int .i64 deep),(5,AV.int .i64 ((pre.len:Nat):Int))],h⟩ (Led 219 [(0,AV.vec (Go.Un.Sl.len (pre.app (.cons 5 ByteArray.empty l9 r [] .nil .nil rest))) (s4 (pre.app (.cons 5 ByteArray.empty l9 r [] .nil .nil rest)))),(1,AV.int .i64 deep),(5,AV.int .i64 ((pre.len:Nat):Int))] (h)):=by have hlc:=@aK pre 5 ByteArray.empty l9 r [] .nil .nil rest;have hdc:=@gN 5 ByteArray.empty l9 r [] .nil .nil rest;refine c199z ?_;refine c117z ?_;refine c223z ?_;refine c73z ?_;refine .ca rfl rfl (SJ hE hR2.toGRes hv hR) ?_;refine .k 8 [(43,104),(45,106),(52,113),(55,116)] ?_;refine .k 8 [(52,113),(55,116),(62,123)] ?_;refine .m [(62,123),(65,126)] ?_;refine c90z ?_;refine c222z ?_;refine c234z ?_;exact .mk _ rfl
end
section
attribute [local go_sem] gQ
variable {vs:List BA}{deep:Int}{pre rest:Sl}
theorem c_okK6 (hE:uI E)(hR2:sK E)(hv:aV vs)(hd0:0≤deep)(r:Rf)(hR:GR E vs r)(hl:(pre.app (.cons 6 ByteArray.empty l9 r [] .nil .nil rest)).len<100000)(hdp:deep+((Sl.cons 6 ByteArray.empty l9 r [] .nil .nil rest).dep:Int)≤23):c9 Tryz.prog cfg (sA [1,1,0,1,0,0,1,0] (kU Tryz.f131)) ⟨mkS 219 [(0,AV.vec (Go.Un.Sl.len (pre.app (.cons 6 ByteArray.empty l9 r [] .nil .nil rest))) (s4 (pre.app (.cons 6 ByteArray.empty l9 r [] .nil .nil rest)))),(1,AV.int .i64 deep),(5,AV.int .i64 ((pre.len:Nat):Int))],h⟩ (Led 219 [(0,AV.vec (Go.Un.Sl.len (pre.app (.cons 6 ByteArray.empty l9 r [] .nil .nil rest))) (s4 (pre.app (.cons 6 ByteArray.empty l9 r [] .nil .nil rest)))),(1,AV.int .i64 deep),(5,AV.int .i64 ((pre.len:Nat):Int))] (h)):=by have hlc:=@aK pre 6 ByteArray.empty l9 r [] .nil .nil rest;have hdc:=@gN 6 ByteArray.empty l9 r [] .nil .nil rest;refine c199z ?_;refine c117z ?_;refine c223z ?_;refine c73z ?_;refine .ca rfl rfl (SJ hE hR2.toGRes hv hR) ?_;refine .k 8 [(43,104),(45,106),(52,113),(55,116)] ?_;refine .k 8 [(52,113),(55,116),(62,123)] ?_;refine .m [(62,123),(65,126)] ?_;refine c90z ?_;refine c222z ?_;refine c234z ?_;exact .mk _ rfl
end
section
attribute [local go_sem] gQ
variable {vs:List BA}{deep:Int}{pre rest:Sl}
theorem c_okK7 (hE:uI E)(hR2:sK E)(hv:aV vs)(hd0:0≤deep)(e:Ex)(he:GE vs 2 e)(th el:Sl)(hth:GS E th vs)(hel:GS E el vs)(ith:(∀(vars:List BA) (deep:Int),aV vars→GS E th vars→0≤deep→deep+(th.dep:Int)≤23→∀h:c6,CB 131 [.vec th.len (s4 th),.int .i64 deep] h (.bool true)))(iel:(∀(vars:List BA) (deep:Int),aV vars→GS E el vars→0≤deep→deep+(el.dep:Int)≤23→∀h:c6,CB 131 [.vec el.len (s4 el),.int .i64 deep] h (.bool true)))(hl:(pre.app (.cons 7 ByteArray.empty e o1 [] th el rest)).len<100000)(hdp:deep+((Sl.cons 7 ByteArray.empty e o1 [] th el rest).dep:Int)≤23):c9 Tryz.prog cfg (sA [1,1,0,1,0,0,1,0] (kU Tryz.f131)) ⟨mkS 219 [(0,AV.vec (Go.Un.Sl.len (pre.app (.cons 7 ByteArray.empty e o1 [] th el rest))) (s4 (pre.app (.cons 7 ByteArray.empty e o1 [] th el rest)))),(1,AV.int .i64 deep),(5,AV.int .i64 ((pre.len:Nat):Int))],h⟩ (Led 219 [(0,AV.vec (Go.Un.Sl.len (pre.app (.cons 7 ByteArray.empty e o1 [] th el rest))) (s4 (pre.app (.cons 7 ByteArray.empty e o1 [] th el rest)))),(1,AV.int .i64 deep),(5,AV.int .i64 ((pre.len:Nat):Int))] (h)):=by
  have hlc:=@aK pre 7 ByteArray.empty e o1 [] th el rest;have hdc:=@gN 7 ByteArray.empty e o1 [] th el rest;refine c199z ?_;refine c117z ?_;refine .k 5 [(24,85),(26,87)] ?_;refine c217z ?_;refine c120z ?_;refine c233z ?_;refine c222z ?_;refine .k 6 [(1,183)] ?_;refine .ca rfl rfl (ith vs (deep+1) hv hth (by omega) (by omega) _) ?_;refine .k 8 [(1,183),(9,191),(12,194)] ?_;refine .k 8 [(9,191),(12,194),(19,201)] ?_;refine .k 2 [(19,201)] ?_;refine .spl 206 rfl rfl (fun e1=>?_) (fun e1=>?_)
  ·try simp only[e1]
   have qe1:=fact e1;refine .k 7 [(24,206),(27,209)] ?_;refine .ca rfl rfl (iel vs (deep+1) hv hel (by omega) (by omega) _) ?_;refine c157z ?_;exact .mk _ rfl
  try simp only[e1]
  have qe1:=fact e1;refine .k 8 [(24,206),(27,209)] ?_;refine c157z ?_;exact .mk _ rfl
end
section
attribute [local go_sem] gQ
variable {vs:List BA}{deep:Int}{pre rest:Sl}
theorem c_okK8 (hE:uI E)(hR2:sK E)(hv:aV vs)(hd0:0≤deep)(e:Ex)(he:GE vs 2 e)(th:Sl)(hth:GS E th vs)(ith:(∀(vars:List BA) (deep:Int),aV vars→GS E th vars→0≤deep→deep+(th.dep:Int)≤23→∀h:c6,CB 131 [.vec th.len (s4 th),.int .i64 deep] h (.bool true)))(hl:(pre.app (.cons 8 ByteArray.empty e o1 [] th .nil rest)).len<100000)(hdp:deep+((Sl.cons 8 ByteArray.empty e o1 [] th .nil rest).dep:Int)≤23):c9 Tryz.prog cfg (sA [1,1,0,1,0,0,1,0] (kU Tryz.f131)) ⟨mkS 219 [(0,AV.vec (Go.Un.Sl.len (pre.app (.cons 8 ByteArray.empty e o1 [] th .nil rest))) (s4 (pre.app (.cons 8 ByteArray.empty e o1 [] th .nil rest)))),(1,AV.int .i64 deep),(5,AV.int .i64 ((pre.len:Nat):Int))],h⟩ (Led 219 [(0,AV.vec (Go.Un.Sl.len (pre.app (.cons 8 ByteArray.empty e o1 [] th .nil rest))) (s4 (pre.app (.cons 8 ByteArray.empty e o1 [] th .nil rest)))),(1,AV.int .i64 deep),(5,AV.int .i64 ((pre.len:Nat):Int))] (h)):=by have hlc:=@aK pre 8 ByteArray.empty e o1 [] th .nil rest;have hdc:=@gN 8 ByteArray.empty e o1 [] th .nil rest;refine c199z ?_;refine c117z ?_;refine .k 5 [(24,85),(26,87)] ?_;refine c217z ?_;refine c120z ?_;refine c233z ?_;refine c222z ?_;refine .k 6 [(1,183)] ?_;refine .ca rfl rfl (ith vs (deep+1) hv hth (by omega) (by omega) _) ?_;refine .k 8 [(1,183),(9,191),(12,194)] ?_;refine c203z ?_;exact .mk _ rfl
end
section
attribute [local go_sem] gQ
variable {vs:List BA}{deep:Int}{pre rest:Sl}
theorem c_okK9 (hE:uI E)(hR2:sK E)(hv:aV vs)(hd0:0≤deep)  (hl:(pre.app (.cons 9 ByteArray.empty l9 o1 [] .nil .nil rest)).len<100000)(hdp:deep+((Sl.cons 9 ByteArray.empty l9 o1 [] .nil .nil rest).dep:Int)≤23):c9 Tryz.prog cfg (sA [1,1,0,1,0,0,1,0] (kU Tryz.f131)) ⟨mkS 219 [(0,AV.vec (Go.Un.Sl.len (pre.app (.cons 9 ByteArray.empty l9 o1 [] .nil .nil rest))) (s4 (pre.app (.cons 9 ByteArray.empty l9 o1 [] .nil .nil rest)))),(1,AV.int .i64 deep),(5,AV.int .i64 ((pre.len:Nat):Int))],h⟩ (Led 219 [(0,AV.vec (Go.Un.Sl.len (pre.app (.cons 9 ByteArray.empty l9 o1 [] .nil .nil rest))) (s4 (pre.app (.cons 9 ByteArray.empty l9 o1 [] .nil .nil rest)))),(1,AV.int .i64 deep),(5,AV.int .i64 ((pre.len:Nat):Int))] (h)):=by have hlc:=@aK pre 9 ByteArray.empty l9 o1 [] .nil .nil rest;have hdc:=@gN 9 ByteArray.empty l9 o1 [] .nil .nil rest;refine c199z ?_;refine c117z ?_;refine c223z ?_;refine c73z ?_;refine c213z ?_;refine c233z ?_;refine c222z ?_;refine c234z ?_;exact .mk _ rfl
end
variable {vs:List BA}{deep:Int}{pre rest:Sl}
theorem c_okRow (hE:uI E)(hR2:sK E)(hv:aV vs)(hd0:0≤deep){k:Int}{n:BA}{th el:Sl}(hG:GS E (.cons k n e r xs th el rest) vs)(hl:(pre.app (.cons k n e r xs th el rest)).len<100000)(hdp:deep+((Sl.cons k n e r xs th el rest).dep:Int)≤23)(ih:∀T:Sl,(T=th∨T=el)→(∀(vars:List BA) (deep:Int),aV vars→GS E T vars→0≤deep→deep+(T.dep:Int)≤23→∀h:c6,CB 131 [.vec T.len (s4 T),.int .i64 deep] h (.bool true))):c9 Tryz.prog cfg (sA [1,1,0,1,0,0,1,0] (kU Tryz.f131)) ⟨mkS 219 [(0,AV.vec (Go.Un.Sl.len (pre.app (.cons k n e r xs th el rest))) (s4 (pre.app (.cons k n e r xs th el rest)))),(1,AV.int .i64 deep),(5,AV.int .i64 ((pre.len:Nat):Int))],h⟩ (Led 219 [(0,AV.vec (Go.Un.Sl.len (pre.app (.cons k n e r xs th el rest))) (s4 (pre.app (.cons k n e r xs th el rest)))),(1,AV.int .i64 deep),(5,AV.int .i64 ((pre.len:Nat):Int))] h):=by
  rcases hG with ⟨rfl,⟨j,hj,rfl⟩,hn,he,rfl,rfl,rfl,rfl,hr⟩ | ⟨rfl,hn,he,rfl,rfl,rfl,rfl,hr⟩ | ⟨rfl | rfl,⟨f,hf,rfl,ha⟩,rfl,rfl,rfl,rfl,hr⟩ | ⟨rfl | rfl,rfl,rfl,hR,rfl,rfl,rfl,hr⟩ | ⟨rfl,rfl,he,rfl,rfl,hth,hel,hr⟩ | ⟨rfl,rfl,he,rfl,rfl,hth,rfl,hr⟩ | ⟨rfl,rfl,rfl,rfl,rfl,rfl,rfl,hr⟩
  · exact c_okK1 hE hR2 hv hd0 j hj e he hl hdp
  · exact c_okK2 hE hR2 hv hd0 n hn e he hl hdp
  · exact c_okK3 hE hR2 hv hd0 f hf xs ha hl hdp
  · exact c_okK4 hE hR2 hv hd0 f hf xs ha hl hdp
  · exact c_okK5 hE hR2 hv hd0 r hR hl hdp
  · exact c_okK6 hE hR2 hv hd0 r hR hl hdp
  · exact c_okK7 hE hR2 hv hd0 e he th el hth hel (ih _ (.inl rfl)) (ih _ (.inr rfl)) hl hdp
  · exact c_okK8 hE hR2 hv hd0 e he th hth (ih _ (.inl rfl)) hl hdp
  · exact c_okK9 hE hR2 hv hd0  hl hdp
theorem GS.next (hv:aV vs){k:Int}{n:BA}{th el:Sl}(hG:GS E (.cons k n e r xs th el rest) vs):∃vs2,aV vs2∧GS E rest vs2:=by
  rcases hG with ⟨rfl,⟨j,hj,rfl⟩,hn,he,rfl,rfl,rfl,rfl,hr⟩ | ⟨rfl,hn,he,rfl,rfl,rfl,rfl,hr⟩ | ⟨_,⟨f,hf,rfl,ha⟩,rfl,rfl,rfl,rfl,hr⟩ | ⟨_,rfl,rfl,hR,rfl,rfl,rfl,hr⟩ | ⟨rfl,rfl,he,rfl,rfl,hth,hel,hr⟩ | ⟨rfl,rfl,he,rfl,rfl,hth,rfl,hr⟩ | ⟨rfl,rfl,rfl,rfl,rfl,rfl,rfl,hr⟩
  · exact ⟨_,hv.snoc hj,hr⟩
  all_goals exact ⟨_,hv,hr⟩
theorem c_okSS (hE:uI E)(hR2:sK E)(S:Sl)(ih:∀S':Sl,S'.wt<S.wt→(∀(vars:List BA) (deep:Int),aV vars→GS E S' vars→0≤deep→deep+(S'.dep:Int)≤23→∀h:c6,CB 131 [.vec S'.len (s4 S'),.int .i64 deep] h (.bool true)))(vars:List BA)(deep:Int)(hv0:aV vars)(hG0:GS E S vars)(hd0:0≤deep)(hd:deep+(S.dep:Int)≤23)(hw:S.wt≤1000):CB 131 [.vec S.len (s4 S),.int .i64 deep] h (.bool true):=by
  refine .bz Tryz.f131 219 ?_;have hlw:=eH S;refine c108z ?_;refine uFbz ?_;intro e1 qe1;refine .sk ?_;refine c7z ?_;refine .aN (fun m st=>∃(Z:Sl) (pre:Sl) (rst:Sl) (vs:List BA),(m=rst.len∧(Z=S∧S=pre.app rst∧GS E rst vs∧aV vs∧deep+(rst.dep:Int)≤23))∧st=⟨mkS 219 [(0,AV.vec (Go.Un.Sl.len Z) (s4 Z)),(1,AV.int .i64 deep),(5,AV.int .i64 ((pre.len:Nat):Int))],h⟩) (.v ⟨S,Sl.nil,S,vars,⟨rfl,⟨rfl,rfl,hG0,hv0,by omega⟩⟩,rfl⟩ (hs:=t11)) ?_;rintro m sl h' ⟨Z,pre,rst,vs,⟨hm,⟨hZ,hS,hG,hv,hdp⟩⟩,hst⟩;obtain ⟨rfl,rfl⟩:=St.mk.inj hst;clear hst;subst hZ;have hlen:=congrArg Go.Un.Sl.len hS;rw[Go.Un.Sl.dA]at hlen;refine c1z ?_;refine u2z ?_ ?_
  ·intro e2 qe2;refine c137z ?_;obtain ⟨k,n,e,r,xs,th,el,rest,rfl⟩:=Go.Un.Sl.pL (s:=rst) (by omega);subst hS;have hwc:=@U5 pre k n e r xs th el rest;have hlc:=@aK pre k n e r xs th el rest;have hdc:=@gN k n e r xs th el rest;obtain ⟨vs2,hv2,hr2⟩:=GS.next hv hG;refine c9.fitS [(0,AV.vec (Go.Un.Sl.len (pre.app (.cons k n e r xs th el rest))) (s4 (pre.app (.cons k n e r xs th el rest)))),(1,AV.int .i64 deep),(5,AV.int .i64 ((pre.len:Nat):Int))] ?_;refine c9.led (c_okRow hE hR2 hv hd0 (pre:=pre) hG (by omega) hdp (fun T hT=>ih T (by rcases hT with rfl | rfl<;>omega))) ?_;intro lq hq haq;change c9 ..;refine c9.fitS [(0,AV.vec (Go.Un.Sl.len (pre.app (.cons k n e r xs th el rest))) (s4 (pre.app (.cons k n e r xs th el rest)))),(1,AV.int .i64 deep),(5,AV.int .i64 ((pre.len:Nat):Int))] ?_ haq;refine .rz ?_;exact ⟨_,by omega,.v ⟨_,(pre.app (.cons k n e r xs th el .nil)),rest,vs2,⟨rfl,⟨rfl,fO,hr2,hv2,by omega⟩⟩,rfl⟩ (he:=by rfl) (hs:=t11)⟩
  intro e2 qe2;refine c8z ?_;refine .z ?_;exact .ret (.ex (hq:=by rfl))
theorem c_okS {E:Env}(hE:uI E)(hR2:sK E):∀(n:Nat) (S:Sl),S.wt≤n→n≤1000→∀(vars:List BA) (deep:Int),aV vars→GS E S vars→0≤deep→deep+(S.dep:Int)≤23→∀h:c6,CB 131 [.vec S.len (s4 S),.int .i64 deep] h (.bool true)
  | n,S,hn,h1,vars,deep,hv,hG,hd0,hd,h=>by
    refine c_okSS hE hR2 S (fun S' hS'=>?_) vars deep hv hG hd0 hd (by omega);cases n with
    | zero=>omega
    | succ n=>exact c_okS hE hR2 n S' (by omega) (by omega)
end Go.Proofs.YtonbocmibeikmaaGreat
end
