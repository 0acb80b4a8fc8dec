/- My own texts, put together by a program of mine. -/
import Derived.Test.YtonbocmibeikmaaGreatCW9
set_option linter.unusedSimpArgs false
set_option linter.unusedVariables false
set_option maxRecDepth 100000
set_option maxHeartbeats 4000000
section
namespace Go.Proofs.YtonbocmibeikmaaGreat
open Go.Ab Go.Un
theorem TX {h:c6}{p:Go.Un.Pg}(hp:GP p){u:Un}(hu:cZ p=u):CB 54 [.agg [.vec p.globals.length (r7 p.globals),.vec p.mutexes.length (g6 p.mutexes),.vec p.funcs.length (o9 p.funcs)]] h (.tup [.agg [.vec u.globals.length (g8 u.globals),.vec u.mutexes.length (g6 u.mutexes),.vec u.procs.length (g9 u.procs),.int .i64 u.main],.int .i64 0,.int .i64 0,.int .i64 0]):=by subst hu;exact c_lower hp
attribute [local go_sem] rd u5 z4 Int.natCast_nonneg Int.natCast_inj jA bV jB
theorem c_unit (L:List Int)(hL:L.length<4611686018427387904):CallA Tryz.prog cfg 15 [.vec L.length (g8 L)] [] (fun y' h'=>(∃p u c,GP p∧WU u∧WC u c∧y'=.tup [.agg (PF p),.agg [.vec u.globals.length (g8 u.globals),.vec u.mutexes.length (g6 u.mutexes),.vec u.procs.length (g9 u.procs),.int .i64 u.main],.agg [.vec c.insts.length (j5 c.insts),.vec c.calls.length (j9 c.calls),.vec c.roots.length (g8 c.roots)]])∧h'=[]):=by
 refine .bz Tryz.f15 29 ?_;refine c222z ?_;refine o2.cx rfl rfl hb53 (LM L hL) (fun y1 h1 hq1=>?_);obtain ⟨⟨p,hp,rfl⟩,rfl⟩:=hq1;generalize hup:cZ p=u;have hu:WU u:=by rw[←hup];exact unit_ok hp
 simp only[PF];refine .n ?_;refine c68z ?_;refine .ca rfl rfl (TX hp hup) ?_;refine .e 8 ?_;refine .n ?_;refine .c7 [2,3,4,5,6] ?_;refine c68z ?_;refine o2.cx rfl rfl hb55 (c_close hu) (fun y1 h1 hq1=>?_);obtain ⟨⟨c,wc,rfl⟩,rfl⟩:=hq1;simp only[PG];refine .n ?_;refine .sg u4 (mkH 6 [0,0,0,1,11,31] [3,4,5] [] [0,8,24,56] [1,2]) 0 ?_;refine .rn [true] ?_;refine .rm [true] ?_;refine .rm [true] ?_;refine .en [true] [8,0] [_] ?_;refine .en [true,false] [24,8,0] [_] ?_;refine .en [true,false,false] [56,24,8,0] [_] ?_;refine .po [false,true,true,true] ?_;refine c28z ?_;exact .ret (.ex (hq:=by exact ⟨p,u,c,hp,hu,wc,rfl⟩))
theorem c_site {h:c6}{u:Un}{c:Clo}(hu:WU u)(wc:WC u c)(x y:Int):CB 17 [.agg [.vec u.globals.length (g8 u.globals),.vec u.mutexes.length (g6 u.mutexes),.vec u.procs.length (g9 u.procs),.int .i64 u.main],.agg [.vec c.insts.length (j5 c.insts),.vec c.calls.length (j9 c.calls),.vec c.roots.length (g8 c.roots)],.int .i64 x,.int .i64 y] h (.tup [.int .i64 (within x c.insts.length),.int .i64 (within y (c5 u (c.insts.getD (within x c.insts.length).toNat c9)).length)]):=by refine .bz Tryz.f17 31 ?_;have hl:=wc.len;have hw1:=@mJ x c.insts.length (by omega);have hw2:=@pQ x c.insts.length (by omega);have hwi:WIt u (c.insts.getD (within x c.insts.length).toNat c9):=wc.wi _ (j4 (by omega));have hi1:=hwi.lo;have hi2:=hwi.hi;have hcl:=n8 hu hwi;have hc1:=(fT hu hwi).1;refine .z ?_;refine c26z ?_;refine .ca rfl rfl (nD _ _ (by omega) (by omega)) ?_;refine .n ?_;refine .c7 [3,4,5,10] ?_;refine .ss u4 (mkP 17 [0,0,0,4,0,16,0,112,240,496,1020,2044,4092,8188,16382,32767,65535] []) ?_;refine .k 8 [] ?_;refine .k 6 [] ?_;refine .ca rfl rfl (nD _ _ (by omega) (by omega)) ?_;refine .n [] ?_;exact .ret (.ex (hq:=by rfl))
end Go.Proofs.YtonbocmibeikmaaGreat
end
section
namespace Go.Proofs.YtonbocmibeikmaaGreat
open Go.Ab Go.Un
theorem Sv {a b x y:Int}:eqA cfg 4 91 (.agg [.int .i64 a,.int .i64 b]) (.agg [.int .i64 x,.int .i64 y])=some (decide ((a,b)=(x,y))):=by
  have e:eqA cfg 4 91 (.agg [.int .i64 a,.int .i64 b]) (.agg [.int .i64 x,.int .i64 y])=(match some (a==x) with
    | some true=>(match some (b==y) with
      | some true=>some true
      | some false=>some false
      | none=>none)
    | some false=>some false
    | none=>none):=rfl
  rw[e];rcases Bool.eq_false_or_eq_true (a==x) with h1 | h1<;>rcases Bool.eq_false_or_eq_true (b==y) with h2 | h2<;>simp only[h1,h2]<;>simp_all
theorem T6 (l:List (Int×Int)):v5 (l4 l):=v5.flat fun _=>v5.cons .int (v5.cons .int v5.nil)
theorem LN (l:List Cf):v5 (aB l):=v5.flat fun _=>v5.cons .int (v5.cons .vec v5.nil)
variable {n d β g len:Nat}{H:c6}{a:List (Int×Int)}
theorem LO (hb:H[β]?=some ⟨g,false,91,2,l4 a,0⟩)(hn:n≤β)(hl:a.length=len):gH n H (d+3) (.own β g 0 len)=some (.vec len (l4 a)):=by
  subst hl;rw[aY,if_neg (by omega),dE,hb];have h2:0+a.length*2≤(l4 a).length:=by rw[s7];omega
  simp only[hn,and_self,if_true,Bool.false_eq_true,if_false,h2,List.drop_zero];rw[List.take_of_length_le t176,(T6 a).frz]
theorem LP {k:Nat}{d:Int}(hb:H[β]?=some ⟨g,false,91,2,l4 a,0⟩)(hn:n≤β)(hl:a.length=k):gH n H 6 (.agg [.int .i64 d,.own β g 0 k])=some (.agg [.int .i64 d,.vec k (l4 a)]):=by have e:gH n H 5 (.own β g 0 k)=some (.vec k (l4 a)):=LO (d:=2) hb hn hl;rw[pI];simp only[p5,mZ,e,Option.map_some]
variable {p:Int×Int}
theorem pt_eq {q:Int×Int}(h:(p.1,p.2)=(q.1,q.2)):p=q:=h
variable {b:List (Int×Int)}
theorem ext_P (hl:a.length=b.length)(h:∀d,d<a.length→a.getD d (0,0)=b.getD d (0,0)):a=b:=by refine List.ext_getElem hl fun d k1 k2=>?_;have:=h d k1;simpa [List.getD,k1,k2] using this
theorem ext_C {a b:List Cf}(hl:a.length=b.length)(h:∀d,d<a.length→a.getD d Dr=b.getD d Dr):a=b:=by refine List.ext_getElem hl fun d k1 k2=>?_;have:=h d k1;simpa [List.getD,k1,k2] using this
def ovP (zs:List AV)(k:Nat)(q:List (Int×Int)):List AV:=over zs (k*2) (l4 q)
variable {h:c6}
theorem app_pz {zs:List AV}{q:List (Int×Int)}{k m:Nat}(hm:q.length=m)(hz:(k+m)*2≤zs.length)(hk:k+m<100000):j0 cfg 91 (h++[⟨0,false,91,2,zs,0⟩]) (.own h.length 0 0 k) (.vec m (l4 q))=some (.own h.length 0 0 (k+m),h++[⟨0,false,91,2,ovP zs k q,0⟩]):=by
  subst hm;have e1:cfg.sz 91=2:=rfl;have e2:(cfg.ti 91).bytes=16:=rfl;have h1:k+q.length≤maxLen:=by
    have:(100000:Nat)≤maxLen:=by decide
    omega
  have h2:(k+q.length)*16≤140737488355328:=by omega
  have h3:q.length*2=2*q.length:=by omega
  have h4:k*2≤zs.length:=by omega
  cases q with
  | nil=>
    simp only[List.length_nil,Nat.add_zero]at h1 h2;simp[j0,rd,lenOf,e1,e2,l4,h1,h2,ovP,over,eR]
  | cons x q=>
    simp only[List.length_cons]at h1 h2 h3 hz;simp[j0,rd,lenOf,e1,e2,s7,h1,h2,h3,h4,hz,eR,pA,ovP]
theorem over_pz {zs:List AV}{q:List (Int×Int)}(hz:zs.length=(b.length+q.length)*2):ovP (ovP zs 0 b) b.length q=l4 (b++q):=by
  have e:l4 (b++q)=l4 b++l4 q:=by simp[l4]
  rw[e];unfold ovP over;simp only[Nat.zero_mul,List.take_zero,List.nil_append,Nat.zero_add];have h1:List.take (b.length*2) (l4 b++List.drop (l4 b).length zs)=l4 b:=by rw[show b.length*2=(l4 b).length from by rw[s7];omega,List.take_left]
  rw[h1,List.drop_eq_nil_of_le (by simp only[List.length_append,List.length_drop,s7];omega),List.append_nil]
theorem LQ {n:Nat}:(List.replicate n [AV.int .i64 0,AV.int .i64 0]).flatten.length=n*2:=by
  induction n with
  | zero=>rfl
  | succ n ih=>rw[List.replicate_succ,List.flatten_cons,List.length_append,ih];simp only[List.length_cons,List.length_nil];omega
theorem pln_z (n:Nat):v5 (List.replicate n [AV.int .i64 0,AV.int .i64 0]).flatten:=fun x hx=>by simp only[List.mem_flatten,List.mem_replicate]at hx;obtain ⟨l,⟨_,rfl⟩,hx⟩:=hx;exact v5.cons .int (v5.cons .int v5.nil) x hx
theorem u6.newP {l':c6}(hk:∀b∈l',v5 b.cells):u6 h (h++l'):=fun β b hb=>by
  by_cases h1:β<h.length
  · rw[List.getElem?_append_left h1]at hb;exact .inl hb
  · rw[List.getElem?_append_right (by omega)]at hb
    exact .inr ((hk b (List.mem_of_getElem? hb)).refs _)
theorem BD (hn:b.length=n):List.take (n*2) (l4 (b++[p]))=l4 b:=by subst hn;rw[show l4 (b++[p])=l4 b++l4 [p] from by simp[l4],show b.length*2=(l4 b).length from by rw[s7];omega,List.take_left]
theorem T7 (hn:b.length=n):List.take 2 (List.drop (n*2) (l4 (b++[p])))=[.int .i64 p.1,.int .i64 p.2]:=by subst hn;rw[rR (by simp)];simp[List.getD]
def listN (s:Nat):List Int:=((List.range 9).filter fun i=>s.testBit i).map fun i:Nat=>(i:Int)
def sG (s i:Nat):List Int:=((List.range i).filter fun i=>s.testBit i).map fun i:Nat=>(i:Int)
variable {s:Nat}
theorem listTo_yes {i:Nat}(h:s.testBit i=true):sG s (i+1)=sG s i++[(i:Int)]:=by simp[sG,List.range_succ,h]
theorem listTo_no {i:Nat}(h:s.testBit i=false):sG s (i+1)=sG s i:=by simp[sG,List.range_succ,h]
theorem listTo_len:∀i,(sG s i).length≤i:=fun i=>by unfold sG;rw[List.length_map];exact Nat.le_trans (List.length_filter_le _ _) (by simp)
theorem TY:([1,8].all fun k=>(List.range (k+1)).all fun d=>[(-1:Int),0,1].all fun ch=>listN (applyN (dhN k ch) (2^d))==(if 0≤(d:Int)+ch∧(d:Int)+ch≤(k:Int) then [(d:Int)+ch] else []))=true:=by kernel_rfl
theorem list_apply {m:Mx}{it:w6}{x:Ins}{mx:Int}(hd:d≤gT m):listN (applyN (dhN (gT m) (chI it x mx)) (2^d))=(if 0≤(d:Int)+chI it x mx∧(d:Int)+chI it x mx≤(gT m:Int) then [(d:Int)+chI it x mx] else []):=by
  have hk:gT m∈[1,8]:=by unfold gT;split<;>simp
  have hc:chI it x mx∈[(-1:Int),0,1]:=by rcases oH (it:=it) (x:=x) (m:=mx) with h | h | h<;>rw[h]<;>simp
  have:=List.all_eq_true.1 (List.all_eq_true.1 (List.all_eq_true.1 TY _ hk) d (List.mem_range.2 (by omega))) _ hc;exact eq_of_beq this
theorem apply_small {m:Mx}{ch:Int}:applyN (dhN (gT m) ch) s<512:=kF (sh_lt jP) _ _
theorem pow_small (h:d≤8):2^d<512:=by have:2^d≤2^8:=Nat.pow_le_pow_right (by omega) h;omega
theorem shl1P {m:Nat}(h1:m≤8):IntKind.wrap .i64 (1*2^(min m 64))=((2^m:Nat):Int):=by rw[Cv (by omega)];simp
theorem frz_li {a:List Int}(hb:H[β]?=some (o8 3 1 g (g8 a)))(hn:n≤β)(hl:a.length=len):gH n H 6 (.own β g 0 len)=some (.vec len (g8 a)):=by rw[aY,if_neg (by omega)];exact gL hb hn (by rw[l9,hl,Nat.mul_one]) (by omega) frz_I
theorem app_li {is:List Int}{x:Int}{l:c6}(hn:is.length=n)(hl:n<100000):j0 cfg 3 (h++(o8 3 1 g (g8 is)::⟨0,false,3,1,[.int .i64 x],0⟩::l)) (.own h.length g 0 n) (.own (h.length+1) 0 0 1)=some (.own h.length (g+1) 0 (n+1),h++(o8 3 1 (g+1) (g8 (is++[x]))::⟨0,false,3,1,[.int .i64 x],0⟩::l)):=by subst hn;rw[u3 (C:=cfg) (K:=1) (m:=1) (new:=[.int .i64 x]) (zs:=g8 is) t130 rfl (by omega) t186 rfl (by omega) t98 rfl (by decide) (by omega),←mO,pA];rfl
attribute [local go_sem] rd s7 eO rR wS Sv Int.natCast_nonneg Int.natCast_inj Int.toNat_natCast_add_one eT wrap64 tN max2 VI l9 fM Option.bind_eq_bind
theorem c_eqPt (a b:List (Int×Int))(hl:a.length<1000000):CB 176 [.vec a.length (l4 a),.vec b.length (l4 b)] h (.bool (decide (a=b))):=by
  refine .bz Tryz.f176 26 ?_;refine c66z ?_;refine u2z ?_ ?_
  ·intro e1 qe1;refine c86z ?_;exact ⟨[],_,(List.append_nil _).symm,t42,t79⟩
  intro e1 qe1;refine .sk ?_;refine c5z ?_;refine .cU (fun m st=>∃(i:Nat),(m=a.length-i∧((∀d,d<i→a.getD d (0,0)=b.getD d (0,0))∧i≤a.length))∧st=⟨mkS 26 [(0,AV.vec a.length (l4 a)),(1,AV.vec b.length (l4 b)),(12,AV.int .i64 ((a.length:Nat):Int)),(13,AV.int .i64 ((i:Nat):Int))],h⟩) _ (.v ⟨0,⟨rfl,⟨t104,by omega⟩⟩,rfl⟩) ?_;rintro m sl h' ⟨i,⟨hm,⟨hI,hi⟩⟩,hst⟩;obtain ⟨rfl,rfl⟩:=St.mk.inj hst;refine c10z ?_;refine u2z ?_ ?_
  ·intro e2 qe2;refine c45z ?_;refine c192z ?_;refine u2z ?_ ?_
   ·intro e3 qe3;refine c86z ?_;exact ⟨[],_,(List.append_nil _).symm,t42,t79⟩
   intro e3 qe3;refine c4z ?_;refine .c7 [0,1,12,13] ?_;refine .rz ?_;exact ⟨_,by omega,.v ⟨(i+1),⟨rfl,⟨(fun d hd=>if e:d=i then by rw[e];exact pt_eq (by assumption) else hI d (by omega)),by omega⟩⟩,rfl⟩⟩
  intro e2 qe2;refine c92z ?_;exact ⟨[],_,(List.append_nil _).symm,t42,t79⟩
theorem c_sameM {x y:Cf}(hl:x.st.length<1000000):CB 154 [.agg [.int .i64 x.d,.vec x.st.length (l4 x.st)],.agg [.int .i64 y.d,.vec y.st.length (l4 y.st)]] h (.bool (decide (x=y))):=by
  refine .bz Tryz.f154 17 ?_;refine .z ?_;refine c134z ?_;refine .spl 10 rfl rfl (fun e1=>?_) (fun e1=>?_)
  ·try simp only[e1]
   have qe1:=fact e1;refine .k 4 [(5,10)] ?_;refine .ca rfl rfl (c_eqPt _ _ hl) ?_;refine .n ?_;exact .ret (.ex (hq:=t148))
  try simp only[e1]
  have qe1:=fact e1;refine .m [(5,10)] ?_;exact .ret (.ex (hq:=t148))
theorem c_begM {c:Clo}(r:Int):CB 125 [.agg [.vec c.insts.length (j5 c.insts),.vec c.calls.length (j9 c.calls),.vec c.roots.length (g8 c.roots)],.int .i64 r] h (.agg [.int .i64 0,.vec 1 [.int .i64 r,.int .i64 0]]):=by refine .bz Tryz.f125 9 ?_;refine .z ?_;refine c17z ?_;exact ⟨_,_,rfl,LP (a:=[(r,0)]) t23 (by omega) rfl,by rfl⟩
theorem c_begR (r:Int):CB 82 [.int .i64 r] h (.agg [.int .i64 0,.vec 1 [.int .i64 r,.int .i64 0]]):=by refine .bz Tryz.f82 7 ?_;refine .z ?_;refine c17z ?_;exact ⟨_,_,rfl,LP (a:=[(r,0)]) t23 (by omega) rfl,by rfl⟩
attribute [local go_sem] yW app_pz
theorem c_grow0:CB 187 [.nils,.int .i64 0] h (.vec 0 []):=by refine .bz Tryz.f187 27 ?_;refine c66z ?_;refine c20z ?_;refine c0z ?_;refine .c7 [0,1] ?_;refine c9z ?_;refine .sk ?_;refine c17z ?_;exact ⟨[],_,(List.append_nil _).symm,t42,by rfl⟩
theorem c_growP (n:Nat)(h0:0<n)(h1:n<100000):CH 187 [.nils,.int .i64 ((n:Nat):Int)] h (.own h.length 0 0 0) (h++[⟨0,false,91,2,(List.replicate n [.int .i64 0,.int .i64 0]).flatten,0⟩]):=by refine .wz Tryz.f187 27 ?_;refine c66z ?_;refine uFbz ?_;intro e1 qe1;refine .sk ?_;refine c0z ?_;refine .c7 [0,1] ?_;refine .z ?_;refine uTbz ?_;intro e2 qe2;refine c106z ?_;refine .c7 [0] ?_;refine c17z ?_;exact ⟨_,[],_,(List.append_nil _).symm,by simp,u6.newP (fun b hb=>by rw[List.mem_singleton]at hb;subst hb;exact pln_z n),aY.trans (if_pos (by simp)),by exact ⟨rfl,rfl⟩⟩
theorem c_growQ (n:Nat){z:Int}(h0:0<n)(h1:n<100000)(hz:z=(n:Int)):CH 187 [.nils,.int .i64 z] h (.own h.length 0 0 0) (h++[⟨0,false,91,2,(List.replicate n [.int .i64 0,.int .i64 0]).flatten,0⟩]):=by subst hz;exact c_growP n h0 h1
theorem c_cat0  : CB 177 [.vec 2 [.vec 0 [],.vec 0 []]] h (.vec 0 []):=by refine .bz Tryz.f177 36 ?_;refine c51z ?_;refine g5.rounds 4 ?_;refine c88z ?_;refine c224z ?_;refine c230z ?_;refine c9z ?_;refine c4z ?_;refine c211z ?_;refine c224z ?_;refine c230z ?_;refine c9z ?_;refine c4z ?_;refine c211z ?_;refine c40z ?_;refine c68z ?_;refine .ca rfl rfl (c_grow0) ?_;refine c33z ?_;refine .c7 [0,6] ?_;refine c15z ?_;refine g5.rounds 4 ?_;refine c88z ?_;refine c224z ?_;refine c1z ?_;refine c227z ?_;refine c224z ?_;refine c1z ?_;refine c227z ?_;refine c40z ?_;refine c17z ?_;exact ⟨[],_,(List.append_nil _).symm,t42,by rfl⟩
theorem c_catP (b:List (Int×Int))(q:List (Int×Int))(hb:b.length<10000)(hq:q.length<10000)(h0:0<b.length+q.length):CB 177 [.vec 2 [.vec b.length (l4 b),.vec q.length (l4 q)]] h (.vec (b.length+q.length) (l4 (b++q))):=by
  refine .bz Tryz.f177 36 ?_;refine c51z ?_;refine g5.rounds 4 ?_;refine c88z ?_;refine c224z ?_;refine c230z ?_;refine c176z ?_;intro e1 qe1;refine c4z ?_;refine c211z ?_;refine c224z ?_;refine c230z ?_;refine c176z ?_;intro e2 qe2;refine c4z ?_;refine c211z ?_;refine c40z ?_;have hzl:=@LQ (b.length+q.length);have hov:(ovP (List.replicate (b.length+q.length) [AV.int .i64 0,AV.int .i64 0]).flatten 0 b).length=(b.length+q.length)*2:=by unfold ovP over;simp only[List.length_append,List.length_take,List.length_drop,s7,hzl];omega
  have hfin:=over_pz (b:=b) (q:=q) hzl;refine c68z ?_;refine .ch rfl rfl (c_growQ (b.length+q.length) (by omega) (by omega) (by omega)) ?_;refine c33z ?_;refine .c7 [0,6] ?_;refine c15z ?_;refine g5.rounds 4 ?_;refine c88z ?_;refine c224z ?_;refine c1z ?_;refine c227z ?_;refine c224z ?_;refine c1z ?_;refine c227z ?_;refine c40z ?_;refine c17z ?_;exact ⟨_,_,rfl,LO (a:=b++q) (by rw[eR,hfin];rfl) (Nat.le_refl _) (by simp),by rfl⟩
end Go.Proofs.YtonbocmibeikmaaGreat
end
section
namespace Go.Proofs.YtonbocmibeikmaaGreat
open Go.Ab Go.Un
variable {n g:Nat}
theorem frz_cfO {β len:Nat}{H:c6}{a:List Cf}(hb:H[β]?=some (o8 87 2 g (aB a)))(hn:n≤β)(hl:a.length=len):gH n H 6 (.own β g 0 len)=some (.vec len (aB a)):=by rw[aY,if_neg (by omega)];exact gL hb hn (by rw[eO,hl];omega) (by omega) ((LN a).frz _ _ _)
variable {d:Int}
theorem LR {β γ k:Nat}{H:c6}{a:List (Int×Int)}(hb:H[γ]?=some ⟨0,false,87,2,[.int .i64 d,.own β g 0 k],0⟩)(hc:H[β]?=some ⟨g,false,91,2,l4 a,0⟩)(hn:n≤γ)(hm:n≤β)(hl:a.length=k):gH n H 6 (.own γ 0 0 1)=some (.vec 1 [.int .i64 d,.vec k (l4 a)]):=by
 subst hl;rw[aY,if_neg (by omega),dE,hb];have h2:0+a.length*2≤(l4 a).length:=by rw[s7];omega
 have e:kP n H 4 (.own β g 0 a.length)=some (.vec a.length (l4 a)):=by rw[dE,hc];simp only[hm,and_self,if_true,Bool.false_eq_true,if_false,h2,List.drop_zero];rw[List.take_of_length_le t176,(T6 a).frz]
 simp only[hn,and_self,if_true,Bool.false_eq_true,if_false,List.drop_zero,Nat.zero_add,Nat.one_mul,List.length_cons,List.length_nil,Nat.le_refl,Nat.reduceAdd,List.take_succ_cons,List.take_zero,p5,pL,e]
variable {u:Un}{c:Clo}{m i pc:Nat}{b:List (Int×Int)}
theorem stepP_8 (h:((c5 u (c.insts.getD i c9)).getD pc c8).op=8):jS u c m d b ((i:Int),(pc:Int))=[⟨d,b⟩]:=if_pos h
theorem stepP_2 (h:((c5 u (c.insts.getD i c9)).getD pc c8).op=2):jS u c m d b ((i:Int),(pc:Int))=[⟨d,b++[((i:Int),(pc:Int)+1),((c.calls.getD i []).getD pc 0,0)]⟩]:=by
 have h8:¬((c5 u (c.insts.getD i c9)).getD pc c8).op=8:=by omega
 exact (if_neg h8).trans (if_pos h)
theorem stepP_n (h8:¬((c5 u (c.insts.getD i c9)).getD pc c8).op=8)(h2:¬((c5 u (c.insts.getD i c9)).getD pc c8).op=2)(hr:0≤d+chI (c.insts.getD i c9) ((c5 u (c.insts.getD i c9)).getD pc c8) m∧d+chI (c.insts.getD i c9) ((c5 u (c.insts.getD i c9)).getD pc c8) m≤(gT (u.mutexes.getD m s8):Int)):jS u c m d b ((i:Int),(pc:Int))=(n9 ((c5 u (c.insts.getD i c9)).getD pc c8) pc).map fun k=>⟨d+chI (c.insts.getD i c9) ((c5 u (c.insts.getD i c9)).getD pc c8) m,b++[((i:Int),k)]⟩:=
 ((if_neg h8).trans (if_neg h2)).trans (if_pos hr)
theorem LS (h8:¬((c5 u (c.insts.getD i c9)).getD pc c8).op=8)(h2:¬((c5 u (c.insts.getD i c9)).getD pc c8).op=2)(hr:¬(0≤d+chI (c.insts.getD i c9) ((c5 u (c.insts.getD i c9)).getD pc c8) m∧d+chI (c.insts.getD i c9) ((c5 u (c.insts.getD i c9)).getD pc c8) m≤(gT (u.mutexes.getD m s8):Int))):jS u c m d b ((i:Int),(pc:Int))=[]:=
 ((if_neg h8).trans (if_neg h2)).trans (if_neg hr)
def TZ (u:Un)(c:Clo)(m d:Nat)(b:List (Int×Int))(i pc j:Nat):List Cf:=((n9 ((c5 u (c.insts.getD i c9)).getD pc c8) pc).take j).map fun k=>⟨(d:Int)+chI (c.insts.getD i c9) ((c5 u (c.insts.getD i c9)).getD pc c8) m,b++[((i:Int),k)]⟩
variable {j:Nat}
theorem D4 {d:Nat}(h:j≤(n9 ((c5 u (c.insts.getD i c9)).getD pc c8) pc).length):(TZ u c m d b i pc j).length=j:=by rw[TZ,List.length_map,List.length_take];omega
theorem LU {d:Nat}(h:j<(n9 ((c5 u (c.insts.getD i c9)).getD pc c8) pc).length):TZ u c m d b i pc j++[⟨(d:Int)+chI (c.insts.getD i c9) ((c5 u (c.insts.getD i c9)).getD pc c8) m,b++[((i:Int),(n9 ((c5 u (c.insts.getD i c9)).getD pc c8) pc).getD j 0)]⟩]=TZ u c m d b i pc (j+1):=by unfold TZ;generalize n9 ((c5 u (c.insts.getD i c9)).getD pc c8) pc=K at h ⊢;rw[List.take_add_one,List.getElem?_eq_getElem h,List.map_append];simp[List.getD,h]
theorem UA {d:Nat}(h:(n9 ((c5 u (c.insts.getD i c9)).getD pc c8) pc).length≤j):TZ u c m d b i pc j=(n9 ((c5 u (c.insts.getD i c9)).getD pc c8) pc).map fun k=>⟨(d:Int)+chI (c.insts.getD i c9) ((c5 u (c.insts.getD i c9)).getD pc c8) m,b++[((i:Int),k)]⟩:=by unfold TZ;rw[List.take_of_length_le h]
theorem BE:((n+1:Nat):Int)-1=(n:Int):=by omega
attribute [local go_sem] rd s7 eO rR wS Sv Int.natCast_nonneg Int.natCast_inj Int.toNat_natCast_add_one eT wrap64 tN max2 VI l9 fM Option.bind_eq_bind BE BD Nat.sub_zero u5 z4 s6 o4 jA jB bV gD fA gE T7 Nat.add_sub_cancel List.length_take
attribute [local go_sem] app_li
theorem UB {h l:c6}{b0 b1 b2 b3 b4 b6:Blk}{T:List Cf}{dd:Int}{p:Int×Int}(hn:T.length=n)(hl:n<1000):j0 cfg 87 (h++(b0::b1::b2::b3::b4::o8 87 2 g (aB T)::b6::⟨0,false,87,2,[.int .i64 dd,.vec (b.length+1) (l4 (b++[p]))],0⟩::l)) (.own (h.length+5) g 0 n) (.own (h.length+7) 0 0 1)=some (.own (h.length+5) (g+1) 0 (n+1),h++(b0::b1::b2::b3::b4::o8 87 2 (g+1) (aB (T++[⟨dd,b++[p]⟩]))::b6::⟨0,false,87,2,[.int .i64 dd,.vec (b.length+1) (l4 (b++[p]))],0⟩::l)):=by subst hn;rw[u3 (C:=cfg) (K:=2) (m:=1) (new:=[.int .i64 dd,.vec (b.length+1) (l4 (b++[p]))]) (zs:=aB T) t23 rfl (by omega) (by rw[eO];omega) rfl (by omega) t98 rfl (by decide) (by omega),l8,show aB T++[.int .i64 dd,.vec (b.length+1) (l4 (b++[p]))]=aB (T++[⟨dd,b++[p]⟩]) from by simp[aB,DW]];rfl
theorem LV (h:i<c.calls.length):List.take 1 (List.drop i (j9 c.calls))=[.vec (c.calls.getD i []).length (g8 (c.calls.getD i []))]:=by unfold j9;rw[←List.map_drop,←List.map_take,List.drop_eq_getElem_cons h,List.take_succ_cons,List.take_zero];simp[List.getD,h]
attribute [local go_sem] UB LV bX shl1P
end Go.Proofs.YtonbocmibeikmaaGreat
end
section
namespace Go.Proofs.YtonbocmibeikmaaGreat
open Go.Ab Go.Un
def gP (g n:Nat):Nat:=if n=0 then g else g+1
variable {g n m:Nat}{a q:List (Int×Int)}
theorem D5 {H:c6}{β:Nat}{src:AV}(hb:H[β]?=some ⟨g,false,91,2,l4 a,0⟩)(hn:a.length=n)(hm:q.length=m)(hs:rd H 2 src=some (l4 q))(hl:lenOf src=some m)(h1:n<10000)(h2:m<10000):j0 cfg 91 H (.own β g 0 n) src=some (.own β (gP g m) 0 (n+m),H.set β ⟨gP g m,false,91,2,l4 (a++q),0⟩):=by
  subst hn hm;have e1:cfg.sz 91=2:=rfl;have e2:(cfg.ti 91).bytes=16:=rfl;have k1:a.length+q.length≤maxLen:=by
    have:(20000:Nat)≤maxLen:=by decide
    omega
  have k2:(a.length+q.length)*16≤140737488355328:=by omega
  have ea:l4 (a++q)=l4 a++l4 q:=by simp[l4]
  cases q with
  | nil=>
    have hst:H.set β ⟨g,false,91,2,l4 a,0⟩=H:=zV hb;simp only[List.length_nil,Nat.add_zero]at k1 k2;have hs':rd H 2 src=some []:=hs;have hl':lenOf src=some 0:=hl;simp[j0,hs',hl',e1,e2,hb,gP,k1,k2,hst]
  | cons x q=>
    have k3:a.length*2≤(l4 a).length:=by rw[s7];omega
    have k4:¬(a.length+(q.length+1))*2≤(l4 a).length:=by rw[s7];omega
    have k5:(l4 (x::q)).length=(q.length+1)*2:=by rw[s7];simp only[List.length_cons];omega
    have k6:List.take (a.length*2) (l4 a)=l4 a:=List.take_of_length_le t176;simp only[List.length_cons]at k1 k2 hl;simp[j0,hs,hl,e1,e2,hb,gP,k1,k2,k3,k4,k5,k6,ea]
theorem XP {H:c6}{β:Nat}(hb:H[β]?=some ⟨g,false,91,2,l4 q,0⟩)(hn:q.length=n):rd H 2 (.own β g 0 n)=some (l4 q):=by
  subst hn;have k:0+q.length*2≤(l4 q).length:=by rw[s7];omega
  have k6:List.take (q.length*2) (l4 q)=l4 q:=List.take_of_length_le t176;simp only[rd,hb,if_true,Bool.false_eq_true,if_false,true_and,k,List.drop_zero,k6]
variable {h l:c6}{b0 b1 b2 b3 b4 b5:Blk}
theorem app_b6 (hm:q.length=m)(h2:m<10000):j0 cfg 91 (h++(b0::b1::b2::b3::b4::b5::⟨g,false,91,2,[],0⟩::l)) (.own (h.length+6) g 0 0) (.vec m (l4 q))=some (.own (h.length+6) (gP g m) 0 m,h++(b0::b1::b2::b3::b4::b5::⟨gP g m,false,91,2,l4 q,0⟩::l)):=by rw[D5 (β:=h.length+6) (g:=g) (n:=0) (m:=m) (a:=[]) (q:=q) t23 rfl hm rfl rfl (by omega) h2,l8,Nat.zero_add,List.nil_append];rfl
theorem app_b7 {b6:Blk}(hm:q.length=m)(h2:m<10000):j0 cfg 91 (h++(b0::b1::b2::b3::b4::b5::b6::⟨g,false,91,2,[],0⟩::l)) (.own (h.length+7) g 0 0) (.vec m (l4 q))=some (.own (h.length+7) (gP g m) 0 m,h++(b0::b1::b2::b3::b4::b5::b6::⟨gP g m,false,91,2,l4 q,0⟩::l)):=by rw[D5 (β:=h.length+7) (g:=g) (n:=0) (m:=m) (a:=[]) (q:=q) t23 rfl hm rfl rfl (by omega) h2,l8,Nat.zero_add,List.nil_append];rfl
theorem app_c6 {x0 y0 x1 y1:Int}(hn:a.length=n)(h1:n<1000):j0 cfg 91 (h++(b0::b1::b2::b3::b4::b5::⟨g,false,91,2,l4 a,0⟩::⟨1,false,91,2,[.int .i64 x0,.int .i64 y0,.int .i64 x1,.int .i64 y1],0⟩::l)) (.own (h.length+6) g 0 n) (.own (h.length+7) 1 0 2)=some (.own (h.length+6) (g+1) 0 (n+2),h++(b0::b1::b2::b3::b4::b5::⟨g+1,false,91,2,l4 (a++[(x0,y0),(x1,y1)]),0⟩::⟨1,false,91,2,[.int .i64 x0,.int .i64 y0,.int .i64 x1,.int .i64 y1],0⟩::l)):=by rw[D5 (β:=h.length+6) (g:=g) (n:=n) (m:=2) (a:=a) (q:=[(x0,y0),(x1,y1)]) t23 hn rfl (XP (β:=h.length+7) (g:=1) (n:=2) (q:=[(x0,y0),(x1,y1)]) t23 rfl) rfl (by omega) (by simp),l8];rfl
theorem app_c7 {b6:Blk}{x0 y0:Int}(hn:a.length=n)(h1:n<1000):j0 cfg 91 (h++(b0::b1::b2::b3::b4::b5::b6::⟨g,false,91,2,l4 a,0⟩::⟨1,false,91,2,[.int .i64 x0,.int .i64 y0],0⟩::l)) (.own (h.length+7) g 0 n) (.own (h.length+8) 1 0 1)=some (.own (h.length+7) (g+1) 0 (n+1),h++(b0::b1::b2::b3::b4::b5::b6::⟨g+1,false,91,2,l4 (a++[(x0,y0)]),0⟩::⟨1,false,91,2,[.int .i64 x0,.int .i64 y0],0⟩::l)):=by rw[D5 (β:=h.length+7) (g:=g) (n:=n) (m:=1) (a:=a) (q:=[(x0,y0)]) t23 hn rfl (XP (β:=h.length+8) (g:=1) (n:=1) (q:=[(x0,y0)]) t23 rfl) rfl (by omega) (by simp),l8];rfl
theorem app_co {b7 b8:Blk}{T:List Cf}{dd:Int}{g0 k:Nat}(hn:T.length=n)(hl:n<1000):j0 cfg 87 (h++(b0::b1::b2::b3::b4::b5::o8 87 2 g (aB T)::b7::b8::⟨0,false,87,2,[.int .i64 dd,.own (h.length+7) g0 0 k],0⟩::l)) (.own (h.length+6) g 0 n) (.own (h.length+9) 0 0 1)=some (.own (h.length+6) (g+1) 0 (n+1),h++(b0::b1::b2::b3::b4::b5::⟨g+1,false,87,2,aB T++[.int .i64 dd,.own (h.length+7) g0 0 k],0⟩::b7::b8::⟨0,false,87,2,[.int .i64 dd,.own (h.length+7) g0 0 k],0⟩::l)):=by subst hn;rw[u3 (C:=cfg) (K:=2) (m:=1) (new:=[.int .i64 dd,.own (h.length+7) g0 0 k]) (zs:=aB T) t23 rfl (by omega) (by rw[eO];omega) rfl (by omega) t98 rfl (by decide) (by omega),l8,bS (zs:=aB T++[AV.int .i64 dd,AV.own (h.length+7) g0 0 k]) (by simp)];rfl
theorem UC {k:Nat}{T:List Cf}{dd:Int}{st:List (Int×Int)}(hk:st.length=k):(⟨g,false,87,2,aB T++[.int .i64 dd,.vec k (l4 st)],0⟩:Blk)=o8 87 2 g (aB (T++[⟨dd,st⟩])):=by subst hk;rw[bS (by simp[aB,DW])];simp[aB,DW]
theorem g5.seenCf {c:Code}{sl:List AV}{H:c6}{Q:Exit→St→Prop}{β γ g g0 k:Nat}{T:List Cf}{dd:Int}{st:List (Int×Int)}(hβ:H[β]?=some ⟨g,false,87,2,aB T++[.int .i64 dd,.own γ g0 0 k],0⟩)(hγ:H[γ]?=some ⟨g0,false,91,2,l4 st,0⟩)(hk:st.length=k)(hne:β≠γ)
    (r:g5 Tryz.prog cfg c ⟨sl,(H.set γ ⟨g0,false,91,2,l4 st,k*2⟩).set β (o8 87 2 g (aB (T++[⟨dd,st⟩])))⟩ Q):g5 Tryz.prog cfg c ⟨sl,H⟩ Q:=by
  subst hk;have hl:st.length*2≤(l4 st).length:=by rw[s7];omega
  refine g5.zR (γ:=γ) (β:=β) (k:=(aB T).length+1) (off:=0) (len:=st.length) (cs:=l4 st) hγ rfl t155 ?_ hβ hne (by simp) ?_
  · show p5 oA (List.take (st.length*2) (List.drop 0 (l4 st)))=_
    rw[List.drop_zero,List.take_of_length_le t176];exact (T6 st).OV
  · have e1:cL ⟨g0,false,91,2,l4 st,0⟩ (0+st.length*2)=⟨g0,false,91,2,l4 st,st.length*2⟩:=by simp only[cL,Nat.zero_add,Nat.zero_max]
    have e2:(aB T++[AV.int .i64 dd,AV.own γ g0 0 st.length]).set ((aB T).length+1) (.vec st.length (l4 st))=aB T++[AV.int .i64 dd,.vec st.length (l4 st)]:=by simp
    show g5 Tryz.prog cfg c ⟨sl,(H.set γ (cL ⟨g0,false,91,2,l4 st,0⟩ (0+st.length*2))).set β ⟨g,false,87,2,(aB T++[AV.int .i64 dd,AV.own γ g0 0 st.length]).set ((aB T).length+1) (.vec st.length (l4 st)),0⟩⟩ Q;rw[e1,e2,UC (k:=st.length) (st:=st) rfl];exact r
attribute [local go_sem] rd s7 eO rR wS Sv Int.natCast_nonneg Int.natCast_inj Int.toNat_natCast_add_one eT wrap64 tN max2 VI l9 fM Option.bind_eq_bind BE BD Nat.sub_zero u5 z4 s6 o4 jA jB bV gD fA gE T7 Nat.add_sub_cancel List.length_take app_b6 app_b7 app_c6 app_c7 app_co LV bX
variable {u:Un}{c:Clo}{mx d i pc:Nat}{b:List (Int×Int)}
theorem LW (hu:WU u)(wc:WC u c)(hmx:mx<u.mutexes.length)(hd:d≤gT (u.mutexes.getD mx s8))(hb:b.length<1000)(hi:i<c.insts.length)(hpc:pc<(c5 u (c.insts.getD i c9)).length)(h8:((c5 u (c.insts.getD i c9)).getD pc c8).op=8):CB 83 [.agg [.vec u.globals.length (g8 u.globals),.vec u.mutexes.length (g6 u.mutexes),.vec u.procs.length (g9 u.procs),.int .i64 u.main],.agg [.vec c.insts.length (j5 c.insts),.vec c.calls.length (j9 c.calls),.vec c.roots.length (g8 c.roots)],.int .i64 ((mx:Nat):Int),.agg [.int .i64 ((d:Nat):Int),.vec (b.length+1) (l4 (b++[((i:Int),(pc:Int))]))]] h (.vec (jS u c mx (d:Int) b ((i:Int),(pc:Int))).length (aB (jS u c mx (d:Int) b ((i:Int),(pc:Int))))):=by refine .bz Tryz.f83 139 ?_;have w:WIt u (c.insts.getD i c9):=wc.wi _ (j4 hi);have w1:=w.lo;have w2:=w.hi;have hsz:(c5 u (c.insts.getD i c9)).length≤1664:=n8 hu w;have hwl:=wc.len;have hwc:=wc.cl;have hwr:=wc.cll i hi;have hml:=hu.ml;have hcp:=jP (m:=(u.mutexes.getD mx s8));have hnl:=dW (x:=((c5 u (c.insts.getD i c9)).getD pc c8)) (pc:=pc);have hch:=oH (it:=(c.insts.getD i c9)) (x:=((c5 u (c.insts.getD i c9)).getD pc c8)) (m:=(mx:Int));refine c169z ?_;refine c176z ?_;intro e1 qe1;refine .sk ?_;refine c63z ?_;refine c177z ?_;refine .z ?_;refine c48z ?_;refine cQ.nil t5 ?_;refine c170z ?_;refine .z ?_;refine uTbz ?_;intro e2 qe2;refine .c7 [7,11] ?_;refine .sm u4 (mkP 8 [0,1,0,0,12,31,63,127] [2,4,6]) [0,1,3] ?_;refine cQ.p (pd:=[]) 8 ?_;refine cQ.nil t5 ?_;refine c2z ?_;exact ⟨_,_,rfl,LR (a:=b) t23 t23 (by omega) (by omega) rfl,by (rw[stepP_8 h8];rfl)⟩
theorem LY (hu:WU u)(wc:WC u c)(hmx:mx<u.mutexes.length)(hd:d≤gT (u.mutexes.getD mx s8))(hb:b.length<1000)(hi:i<c.insts.length)(hpc:pc<(c5 u (c.insts.getD i c9)).length)(h2:((c5 u (c.insts.getD i c9)).getD pc c8).op=2):CB 83 [.agg [.vec u.globals.length (g8 u.globals),.vec u.mutexes.length (g6 u.mutexes),.vec u.procs.length (g9 u.procs),.int .i64 u.main],.agg [.vec c.insts.length (j5 c.insts),.vec c.calls.length (j9 c.calls),.vec c.roots.length (g8 c.roots)],.int .i64 ((mx:Nat):Int),.agg [.int .i64 ((d:Nat):Int),.vec (b.length+1) (l4 (b++[((i:Int),(pc:Int))]))]] h (.vec (jS u c mx (d:Int) b ((i:Int),(pc:Int))).length (aB (jS u c mx (d:Int) b ((i:Int),(pc:Int))))):=by refine .bz Tryz.f83 139 ?_;have w:WIt u (c.insts.getD i c9):=wc.wi _ (j4 hi);have w1:=w.lo;have w2:=w.hi;have hsz:(c5 u (c.insts.getD i c9)).length≤1664:=n8 hu w;have hwl:=wc.len;have hwc:=wc.cl;have hwr:=wc.cll i hi;have hml:=hu.ml;have hcp:=jP (m:=(u.mutexes.getD mx s8));have hnl:=dW (x:=((c5 u (c.insts.getD i c9)).getD pc c8)) (pc:=pc);have hch:=oH (it:=(c.insts.getD i c9)) (x:=((c5 u (c.insts.getD i c9)).getD pc c8)) (m:=(mx:Int));refine c169z ?_;refine c176z ?_;intro e1 qe1;refine .sk ?_;refine c63z ?_;refine c177z ?_;refine .z ?_;refine c48z ?_;refine cQ.nil t5 ?_;refine c170z ?_;refine c176z ?_;intro e2 qe2;refine .sk ?_;refine c0z ?_;refine uTbz ?_;intro e3 qe3;refine .c7 [5,7,10,11] ?_;refine .sg u4 (mkH 27 [0,1,0,0,12,0,32,0,128,384,992,0,2048,0,8192,30720,63488,0,131072,522240,1046528,2095104,4194272,8388604,16777215,33554431,67108863] [2,4,22,23,25] [(2,0),(22,1)] [0,4,20,4194304,4194308,4194324,12582932,46137364] [0,1,2,3,4]) 2 ?_;refine c30z ?_;refine .em [true] [4,0] [_] ?_;refine .p 1 ?_;refine .em [true,false] [20,4,0] [_] ?_;refine c99z ?_;refine c99z ?_;refine .p 3 ?_;refine .rn [true,true,true] ?_;refine c99z ?_;refine c99z ?_;refine c99z ?_;refine c99z ?_;refine .p 1 ?_;refine .en [true,true,true] [4194324,4194308,4194304,20,4,0] [_,_,_] ?_;refine .en [true,false,false,false,false,false] [12582932,4194324,4194308,4194304,20,4,0] [_] ?_;refine .p 1 ?_;refine .en [true,false,false,false,false,false,false] [46137364,12582932,4194324,4194308,4194304,20,4,0] [_] ?_;refine .p 1 ?_;refine c65z ?_;refine .po [false,true,true,true,true,true,true,true] ?_;refine w4.nil rfl ?_;refine c2z ?_;exact ⟨_,_,rfl,LR (a:=b++[((i:Int),(pc:Int)+1),((c.calls.getD i []).getD pc 0,0)]) t23 t23 (by omega) (by omega) (by simp),by (rw[stepP_2 h2];simp only[aB,DW,List.flatMap_cons,List.flatMap_nil,List.append_nil,List.length_append,List.length_cons,List.length_nil])⟩
theorem LZ (hu:WU u)(wc:WC u c)(hmx:mx<u.mutexes.length)(hd:d≤gT (u.mutexes.getD mx s8))(hb:b.length<1000)(hi:i<c.insts.length)(hpc:pc<(c5 u (c.insts.getD i c9)).length)(h8:¬((c5 u (c.insts.getD i c9)).getD pc c8).op=8)(h2:¬((c5 u (c.insts.getD i c9)).getD pc c8).op=2)(hr:¬(0≤(d:Int)+chI (c.insts.getD i c9) ((c5 u (c.insts.getD i c9)).getD pc c8) (mx:Int)∧(d:Int)+chI (c.insts.getD i c9) ((c5 u (c.insts.getD i c9)).getD pc c8) (mx:Int)≤(gT (u.mutexes.getD mx s8):Int))):CB 83 [.agg [.vec u.globals.length (g8 u.globals),.vec u.mutexes.length (g6 u.mutexes),.vec u.procs.length (g9 u.procs),.int .i64 u.main],.agg [.vec c.insts.length (j5 c.insts),.vec c.calls.length (j9 c.calls),.vec c.roots.length (g8 c.roots)],.int .i64 ((mx:Nat):Int),.agg [.int .i64 ((d:Nat):Int),.vec (b.length+1) (l4 (b++[((i:Int),(pc:Int))]))]] h (.vec (jS u c mx (d:Int) b ((i:Int),(pc:Int))).length (aB (jS u c mx (d:Int) b ((i:Int),(pc:Int))))):=by
  refine .bz Tryz.f83 139 ?_;have w:WIt u (c.insts.getD i c9):=wc.wi _ (j4 hi);have w1:=w.lo;have w2:=w.hi;have hsz:(c5 u (c.insts.getD i c9)).length≤1664:=n8 hu w;have hwl:=wc.len;have hwc:=wc.cl;have hwr:=wc.cll i hi;have hml:=hu.ml;have hcp:=jP (m:=(u.mutexes.getD mx s8));have hnl:=dW (x:=((c5 u (c.insts.getD i c9)).getD pc c8)) (pc:=pc);have hch:=oH (it:=(c.insts.getD i c9)) (x:=((c5 u (c.insts.getD i c9)).getD pc c8)) (m:=(mx:Int));refine c169z ?_;refine c176z ?_;intro e1 qe1;refine .sk ?_;refine c63z ?_;refine c177z ?_;refine .z ?_;refine c48z ?_;refine cQ.nil t5 ?_;refine c170z ?_;refine c176z ?_;intro e2 qe2;refine .sk ?_;refine c0z ?_;refine uFbz ?_;intro e3 qe3;refine .sk ?_;refine .c7 [2,4,7,10,11,12] ?_;refine .ss u4 (mkP 10 [0,1,0,0,0,16,0,124,255,511] []) ?_;refine .k 7 [] ?_;refine .ca rfl rfl (wC hu w hpc _) ?_;refine .n [] ?_;refine .seq ?_;refine .c7 [2,4,10,11,12,14] ?_;refine c18z ?_;refine .spl 100 rfl rfl (fun e4=>?_) (fun e4=>?_)
  ·try simp only[e4]
   have qe4:=fact e4;refine .k 8 [(2,100)] ?_;refine .n ?_;refine .T ?_;refine c29z ?_;exact .ret (.ex (hq:=by (rw[LS h8 h2 hr];rfl)))
  try simp only[e4]
  have qe4:=fact e4;refine .k 6 [(2,100)] ?_;refine .ca rfl rfl (AP (u.mutexes.getD mx s8)) ?_;refine .m [(2,100)] ?_;refine uTbz ?_;intro e5 qe5;refine c29z ?_;exact .ret (.ex (hq:=by (rw[LS h8 h2 hr];rfl)))
theorem MA (hu:WU u)(wc:WC u c)(hmx:mx<u.mutexes.length)(hd:d≤gT (u.mutexes.getD mx s8))(hb:b.length<1000)(hi:i<c.insts.length)(hpc:pc<(c5 u (c.insts.getD i c9)).length)(h8:¬((c5 u (c.insts.getD i c9)).getD pc c8).op=8)(h2:¬((c5 u (c.insts.getD i c9)).getD pc c8).op=2)(hr:0≤(d:Int)+chI (c.insts.getD i c9) ((c5 u (c.insts.getD i c9)).getD pc c8) (mx:Int)∧(d:Int)+chI (c.insts.getD i c9) ((c5 u (c.insts.getD i c9)).getD pc c8) (mx:Int)≤(gT (u.mutexes.getD mx s8):Int)):CB 83 [.agg [.vec u.globals.length (g8 u.globals),.vec u.mutexes.length (g6 u.mutexes),.vec u.procs.length (g9 u.procs),.int .i64 u.main],.agg [.vec c.insts.length (j5 c.insts),.vec c.calls.length (j9 c.calls),.vec c.roots.length (g8 c.roots)],.int .i64 ((mx:Nat):Int),.agg [.int .i64 ((d:Nat):Int),.vec (b.length+1) (l4 (b++[((i:Int),(pc:Int))]))]] h (.vec (jS u c mx (d:Int) b ((i:Int),(pc:Int))).length (aB (jS u c mx (d:Int) b ((i:Int),(pc:Int))))):=by
  refine .bz Tryz.f83 139 ?_;have w:WIt u (c.insts.getD i c9):=wc.wi _ (j4 hi);have w1:=w.lo;have w2:=w.hi;have hsz:(c5 u (c.insts.getD i c9)).length≤1664:=n8 hu w;have hwl:=wc.len;have hwc:=wc.cl;have hwr:=wc.cll i hi;have hml:=hu.ml;have hcp:=jP (m:=(u.mutexes.getD mx s8));have hnl:=dW (x:=((c5 u (c.insts.getD i c9)).getD pc c8)) (pc:=pc);have hch:=oH (it:=(c.insts.getD i c9)) (x:=((c5 u (c.insts.getD i c9)).getD pc c8)) (m:=(mx:Int));refine c169z ?_;refine c176z ?_;intro e1 qe1;refine .sk ?_;refine c63z ?_;refine c177z ?_;refine .z ?_;refine c48z ?_;refine cQ.nil t5 ?_;refine c170z ?_;refine c176z ?_;intro e2 qe2;refine .sk ?_;refine c0z ?_;refine uFbz ?_;intro e3 qe3;refine .sk ?_;refine .c7 [2,4,7,10,11,12] ?_;refine .ss u4 (mkP 10 [0,1,0,0,0,16,0,124,255,511] []) ?_;refine .k 7 [] ?_;refine .ca rfl rfl (wC hu w hpc _) ?_;refine .n [] ?_;refine .seq ?_;refine .c7 [2,4,10,11,12,14] ?_;refine c18z ?_;refine .spl 100 rfl rfl (fun e4=>by exfalso;have q:=fact e4;omega) (fun e4=>?_);try simp only[e4]
  have qe4:=fact e4;refine .k 6 [(2,100)] ?_;refine .ca rfl rfl (AP (u.mutexes.getD mx s8)) ?_;refine .m [(2,100)] ?_;refine uFbz ?_;intro e5 qe5;refine .sk ?_;refine .c7 [4,10,11,12,14] ?_;refine .z ?_;refine c26z ?_;refine .ca rfl rfl (KL hu w hpc) ?_;refine .n ?_;refine c5z ?_;refine g5.qY 15 rfl ?_;refine .s4 (fun m st=>∃(j:Nat),(m=(n9 ((c5 u (c.insts.getD i c9)).getD pc c8) pc).length-j∧(j≤(n9 ((c5 u (c.insts.getD i c9)).getD pc c8) pc).length))∧st=⟨mkS 139 [(10,AV.ptr (h.length+3) 0 0),(11,AV.vec b.length (l4 b)),(14,AV.int .i64 ((d:Int)+chI (c.insts.getD i c9) ((c5 u (c.insts.getD i c9)).getD pc c8) (mx:Int))),(15,AV.own (h.length+6) j 0 j),(16,AV.vec (n9 ((c5 u (c.insts.getD i c9)).getD pc c8) pc).length (g8 (n9 ((c5 u (c.insts.getD i c9)).getD pc c8) pc))),(17,AV.int .i64 ((j:Nat):Int))],h++[⟨0,false,30,4,[.vec u.globals.length (g8 u.globals),.vec u.mutexes.length (g6 u.mutexes),.vec u.procs.length (g9 u.procs),.int .i64 u.main],0⟩,⟨0,false,34,3,[.vec c.insts.length (j5 c.insts),.vec c.calls.length (j9 c.calls),.vec c.roots.length (g8 c.roots)],0⟩,⟨0,false,87,2,[.int .i64 ((d:Nat):Int),.vec (b.length+1) (l4 (b++[((i:Int),(pc:Int))]))],0⟩,⟨0,false,91,2,[.int .i64 ((i:Nat):Int),.int .i64 ((pc:Nat):Int)],0⟩,⟨0,false,46,2,[.int .i64 (c.insts.getD i c9).proc,.vec (c.insts.getD i c9).j7.length (g8 (c.insts.getD i c9).j7)],0⟩,⟨0,false,54,12,[.int .i64 ((c5 u (c.insts.getD i c9)).getD pc c8).op,.int .i64 ((c5 u (c.insts.getD i c9)).getD pc c8).target,.bool ((c5 u (c.insts.getD i c9)).getD pc c8).global,.int .i64 ((c5 u (c.insts.getD i c9)).getD pc c8).e.op,.int .i64 ((c5 u (c.insts.getD i c9)).getD pc c8).e.num,.str ((c5 u (c.insts.getD i c9)).getD pc c8).e.name,.vec ((c5 u (c.insts.getD i c9)).getD pc c8).e.args.length (n5 ((c5 u (c.insts.getD i c9)).getD pc c8).e.args),.bool ((c5 u (c.insts.getD i c9)).getD pc c8).pl.param,.int .i64 ((c5 u (c.insts.getD i c9)).getD pc c8).pl.index,.vec ((c5 u (c.insts.getD i c9)).getD pc c8).pl.at'.length (n5 ((c5 u (c.insts.getD i c9)).getD pc c8).pl.at'),.vec ((c5 u (c.insts.getD i c9)).getD pc c8).ints.length (n5 ((c5 u (c.insts.getD i c9)).getD pc c8).ints),.vec ((c5 u (c.insts.getD i c9)).getD pc c8).places.length (cY ((c5 u (c.insts.getD i c9)).getD pc c8).places)],0⟩,o8 87 2 j (aB (TZ u c mx d b i pc j))]⟩) (.v ⟨0,⟨rfl,by omega⟩,rfl⟩ (hs:=t11)) ?_;rintro m sl h' ⟨j,⟨hm,hj⟩,hst⟩;obtain ⟨rfl,rfl⟩:=St.mk.inj hst;clear hst;have hol:=D4 (u:=u) (c:=c) (m:=mx) (d:=d) (b:=b) (i:=i) (pc:=pc) (j:=j) hj;refine c0z ?_;refine u2z ?_ ?_
  ·intro e6 qe6;refine c3z ?_;refine .og u4 (mkH 18 [0,0,0,0,12,0,32,0,0,384,896,2016,4064,8188,16382,32766,65535,131071] [2,4,12,13,15,16] [(2,0),(12,1)] [0,4,20,4096,4100,4116,12308,45076,110612] [0,1,2,3,4]) 2 ?_;refine .p 2 ?_;refine .em [true] [4,0] [_] ?_;refine .p 1 ?_;refine .em [true,false] [20,4,0] [_] ?_;refine c99z ?_;refine .p 3 ?_;refine .rn [true,true,true] ?_;refine .p 1 ?_;refine .en [true,true,true] [4116,4100,4096,20,4,0] [_,_,_] ?_;refine .en [true,false,false,false,false,false] [12308,4116,4100,4096,20,4,0] [_] ?_;refine .p 1 ?_;refine .en [true,false,false,false,false,false,false] [45076,12308,4116,4100,4096,20,4,0] [_] ?_;refine .en [true,false,false,false,false,false,false,false] [110612,45076,12308,4116,4100,4096,20,4,0] [_] ?_;refine .p 1 ?_;refine .po [false,false,false,false,true,false,false,true,false] ?_;refine .po [false,false,false,false,false,true,false,false,true] ?_;refine w4.nil rfl ?_;change g5 ..;refine .c7 [10,11,14,15,16,17] ?_;refine g5.seenCf (β:=h.length+6) (γ:=h.length+7) (T:=(TZ u c mx d b i pc j)) t23 t23 (by simp) (by omega) ?_;rw[l8,l8];simp only[List.set_cons_succ,List.set_cons_zero];refine .rz ?_;exact ⟨_,by omega,.v ⟨(j+1),⟨rfl,by omega⟩,rfl⟩ (he:=by (rw[LU (by omega)];simp only[List.append_assoc,List.cons_append,List.nil_append];rfl)) (hk:=by exact (u6.refl _).app rfl ⟨.inl rfl,.inl rfl,.inl rfl,.inl rfl,.inl rfl,.inl rfl,.inr (by rw[o1];exact (LN _).refs _),trivial⟩) (hs:=t11)⟩
  intro e6 qe6;refine c6z ?_;refine .c7 [15] ?_;refine c17z ?_;exact ⟨_,_,rfl,frz_cfO t23 (by omega) (D4 hj),by (rw[stepP_n h8 h2 hr,←UA (j:=j) (by omega),D4 hj])⟩
theorem UE (hu:WU u)(wc:WC u c)(hmx:mx<u.mutexes.length)(hd:d≤gT (u.mutexes.getD mx s8))(hb:b.length<1000)(hi:i<c.insts.length)(hpc:pc<(c5 u (c.insts.getD i c9)).length):CB 83 [.agg [.vec u.globals.length (g8 u.globals),.vec u.mutexes.length (g6 u.mutexes),.vec u.procs.length (g9 u.procs),.int .i64 u.main],.agg [.vec c.insts.length (j5 c.insts),.vec c.calls.length (j9 c.calls),.vec c.roots.length (g8 c.roots)],.int .i64 ((mx:Nat):Int),.agg [.int .i64 ((d:Nat):Int),.vec (b.length+1) (l4 (b++[((i:Int),(pc:Int))]))]] h (.vec (jS u c mx (d:Int) b ((i:Int),(pc:Int))).length (aB (jS u c mx (d:Int) b ((i:Int),(pc:Int))))):=by
  by_cases h8:((c5 u (c.insts.getD i c9)).getD pc c8).op=8
  · exact LW hu wc hmx hd hb hi hpc h8
  by_cases h2:((c5 u (c.insts.getD i c9)).getD pc c8).op=2
  · exact LY hu wc hmx hd hb hi hpc h2
  by_cases hr:0≤(d:Int)+chI (c.insts.getD i c9) ((c5 u (c.insts.getD i c9)).getD pc c8) (mx:Int)∧(d:Int)+chI (c.insts.getD i c9) ((c5 u (c.insts.getD i c9)).getD pc c8) (mx:Int)≤(gT (u.mutexes.getD mx s8):Int)
  · exact MA hu wc hmx hd hb hi hpc h8 h2 hr
  · exact LZ hu wc hmx hd hb hi hpc h8 h2 hr
end Go.Proofs.YtonbocmibeikmaaGreat
end
section
namespace Go.Un
open Go.Ab
section
variable {k n:Nat}{nx:Nat→List Int}{st:Nat→List Nat}
structure Gro (k n:Nat)(nx:Nat→List Int)(st:Nat→List Nat)(T:List (List Nat)):Prop where
 tb:Tb k n T
 id:Sub (dhN k 0) (T.getD 0 [])
 le:nR T (dM k n nx st)
variable {a b:List Nat}
theorem lK (ha:Rl k a)(hb:Rl k b):Sub a (cJ a b):=fun d e h=>(tV ha hb).2 (.inl h)
theorem wU (ha:Rl k a)(hb:Rl k b):Sub b (cJ a b):=fun d e h=>(tV ha hb).2 (.inr h)
theorem sH {c:List Nat}(ha:Rl k a)(hb:Rl k b)(h1:Sub a c)(h2:Sub b c):Sub (cJ a b) c:=fun d e h=>((tV ha hb).1 h).elim (h1 d e) (h2 d e)
theorem aJ (ha:Rl k a)(hb:Rl k b):cJ a b=a↔Sub b a:=
 ⟨fun h=>by have:=wU ha hb;rw[h]at this;exact this,fun h=>Sub.Di (qD ha hb) ha (sH ha hb (Sub.refl _) h) (lK ha hb)⟩
theorem Gro.start (p:Pro k n nx st):Gro k n nx st ((List.replicate n (List.replicate (k+1) 0)).set 0 (dhN k 0)):=by
 have hl:0<(List.replicate n (List.replicate (k+1) 0)).length:=by rw[List.length_replicate];exact p.pos
 have tb:Tb k n (List.replicate n (List.replicate (k+1) 0)):=⟨by simp,fun r hr=>by rw[List.eq_of_mem_replicate hr];exact S2 _⟩;refine ⟨tb.set (rl_dh _ _),by rw[eF hl,if_pos rfl];exact Sub.refl _,fun i=>?_⟩;rw[eF hl];split
 ·rename_i e;subst e;exact (AR p).id
 ·intro d e h;rw[List.getD_eq_getElem?_getD,List.getElem?_replicate]at h;split at h
  ·rw[show ((some (List.replicate (k+1) 0):Option (List Nat)).getD [])=List.replicate (k+1) 0 from rfl,wK]at h;cases h
  ·simp[bt]at h
variable {T:List (List Nat)}{pc:Nat}
theorem Gro.aft (p:Pro k n nx st)(g:Gro k n nx st T)(hp:pc<n):Rl k (o6 (T.getD pc []) (st pc))∧∀q∈nx pc,Sub (o6 (T.getD pc []) (st pc)) ((dM k n nx st).getD q.toNat []):=by refine ⟨DV (g.tb.get hp) (p.st pc hp),fun q hq d e h=>?_⟩;obtain ⟨f,h1,h2⟩:=(kG (g.tb.get hp) (p.st pc hp)).1 h;exact (AR p).at' pc hp q hq d e ((kG ((qG k n nx st).get hp) (p.st pc hp)).2 ⟨f,g.le pc d f h1,h2⟩)
variable {q:Nat}
theorem Gro.set (g:Gro k n nx st T)(hq:q<n)(ha:Rl k a)(hs:Sub a ((dM k n nx st).getD q [])):Gro k n nx st (T.set q (cJ (T.getD q []) a))∧nR T (T.set q (cJ (T.getD q []) a)):=by
 have hl:q<T.length:=by rw[g.tb.1];exact hq
 have hs':nR T (T.set q (cJ (T.getD q []) a)):=fun i=>by
  rw[eF hl];split
  ·rename_i e;subst e;exact lK (g.tb.get hq) ha
  ·exact Sub.refl _
 refine ⟨⟨g.tb.set (qD (g.tb.get hq) ha),g.id.trans (hs' 0),fun i=>?_⟩,hs'⟩;rw[eF hl];split
 ·rename_i e;subst e;exact sH (g.tb.get hq) ha (g.le i) hs
 ·exact g.le i
theorem TB.mono {T':List (List Nat)}(c:TB nx st T pc)(he:T'.getD pc []=T.getD pc [])(hs:nR T T'):TB nx st T' pc:=fun q hq=>by rw[he];exact (c q hq).trans (hs _)
theorem Gro.done (p:Pro k n nx st)(g:Gro k n nx st T)(h:∀pc,pc<n→TB nx st T pc):T=dM k n nx st:=ClT.eq p ⟨g.tb,g.id,h⟩ g.le
structure NJ (k n:Nat)(nx:Nat→List Int)(st:Nat→List Nat)(T:List (List Nat))(todo:List Nat):Prop where
 g:Gro k n nx st T
 td:∀x∈todo,x<n
 cl:∀pc,pc<n→pc∉todo→TB nx st T pc
theorem NJ.start (p:Pro k n nx st):NJ k n nx st ((List.replicate n (List.replicate (k+1) 0)).set 0 (dhN k 0)) [0]:=by
 refine ⟨Gro.start p,by simp;exact p.pos,fun pc hp hm q hq d e h=>?_⟩;have hl:0<(List.replicate n (List.replicate (k+1) 0)).length:=by rw[List.length_replicate];exact p.pos
 obtain ⟨f,h1,_⟩:=(kG ((Gro.start p).tb.get hp) (p.st pc hp)).1 h;rw[eF hl,if_neg (by simpa using hm),List.getD_eq_getElem?_getD,List.getElem?_replicate,if_pos hp]at h1;rw[show ((some (List.replicate (k+1) 0):Option (List Nat)).getD [])=List.replicate (k+1) 0 from rfl,wK]at h1;cases h1
structure MB (k n:Nat)(nx:Nat→List Int)(st:Nat→List Nat)(pc:Nat)(R0:List Nat)(t0 l0:Nat)(T:List (List Nat))(todo:List Nat)(j:Nat):Prop where
 g:Gro k n nx st T
 td:∀x∈todo,x<n
 cl:∀p,p<n→p∉todo→p≠pc→TB nx st T p
 own:pc∈todo∨T.getD pc []=R0
 dn:∀d,d<j→Sub (o6 R0 (st pc)) (T.getD ((nx pc).getD d 0).toNat [])
 me:todo.length+t0≤l0+tot T
 mo:t0≤tot T
variable {todo:List Nat}
theorem NJ.pop (h:NJ k n nx st T (todo++[pc])):pc<n∧MB k n nx st pc (T.getD pc []) (tot T) todo.length T todo 0:=by refine ⟨h.td pc (by simp),h.g,fun x hx=>h.td x (by simp[hx]),fun p hp hm hne=>h.cl p hp (by simp[hm,hne]),.inr rfl,fun d hd=>by omega,Nat.le_refl _,Nat.le_refl _⟩
variable {t0 l0 j:Nat}{R0:List Nat}
theorem MB.skip (h:MB k n nx st pc R0 t0 l0 T todo j)(hs:Sub (o6 R0 (st pc)) (T.getD ((nx pc).getD j 0).toNat [])):MB k n nx st pc R0 t0 l0 T todo (j+1):=
 ⟨h.g,h.td,h.cl,h.own,fun d hd=>if e:d=j then by rw[e];exact hs else h.dn d (by omega),h.me,h.mo⟩
theorem MB.grow (p:Pro k n nx st)(hp:pc<n)(h:MB k n nx st pc R0 t0 l0 T todo j)(hR:Rl k (o6 R0 (st pc)))(hle:∀q∈nx pc,Sub (o6 R0 (st pc)) ((dM k n nx st).getD q.toNat []))(hj:j<(nx pc).length)(hqe:((nx pc).getD j 0).toNat=q)(hs:¬Sub (o6 R0 (st pc)) (T.getD q [])):MB k n nx st pc R0 t0 l0 (T.set q (cJ (T.getD q []) (o6 R0 (st pc)))) (todo++[q]) (j+1):=by
 have hqm:(nx pc).getD j 0∈nx pc:=j4 hj;have hq:q<n:=by have:=p.nx pc hp _ hqm;omega
 obtain ⟨g',hs'⟩:=h.g.set hq hR (by have:=hle _ hqm;rwa[hqe]at this);have hl:q<T.length:=by rw[h.g.tb.1];exact hq
 have h2:=D0 h.g.tb hq (qD (h.g.tb.get hq) hR) (lK (h.g.tb.get hq) hR) (fun he=>hs ((aJ (h.g.tb.get hq) hR).1 he.symm));refine ⟨g',fun x hx=>?_,fun p' hp' hm hne=>?_,?_,fun d hd=>?_,?_,by have:=h.mo;omega⟩
 ·rcases List.mem_append.1 hx with hx | hx
  ·exact h.td x hx
  ·rw[List.mem_singleton]at hx;omega
 ·simp only[List.mem_append,List.mem_singleton,not_or]at hm;exact (h.cl p' hp' hm.1 hne).mono (by rw[eF hl,if_neg hm.2]) hs'
 ·rcases h.own with ho | ho
  ·exact .inl (by simp[ho])
  ·by_cases e:pc=q
   ·exact .inl (by simp[e])
   ·exact .inr (by rw[eF hl,if_neg e];exact ho)
 ·by_cases e:d=j
  ·rw[e,hqe,eF hl,if_pos rfl];exact wU (h.g.tb.get hq) hR
  ·exact (h.dn d (by omega)).trans (hs' _)
 ·have h1:=h.me;rw[List.length_append,List.length_singleton];omega
theorem MB.fin (hp:pc<n)(h:MB k n nx st pc R0 t0 l0 T todo (nx pc).length):NJ k n nx st T todo:=by
 refine ⟨h.g,h.td,fun p hp' hm=>?_⟩;by_cases e:p=pc
 ·subst e;intro q hq;rcases h.own with ho | ho
  ·exact absurd ho hm
  ·obtain ⟨d,hd,rfl⟩:=List.getElem_of_mem hq;have:=h.dn d hd;rw[←ho]at this;simpa [List.getD,hd] using this
 ·exact h.cl p hp' hm e
theorem NJ.done (p:Pro k n nx st)(h:NJ k n nx st T []):T=dM k n nx st:=h.g.done p fun pc hp=>h.cl pc hp (by simp)
def XQ (n:Nat)(T:List (List Nat))(l:Nat):Nat:=2*(4608*n-tot T)+l
variable {T0:List (List Nat)}
theorem mRun_lt (hk:k≤8)(h:MB k n nx st pc R0 (tot T0) l0 T todo j)(h0:Gro k n nx st T0):XQ n T todo.length<XQ n T0 (l0+1):=by have h1:=h.me;have h2:=L7 hk h.g.tb;have h3:=L7 hk h0.tb;have h4:=h.mo;unfold XQ;omega
structure EN (k n:Nat)(nx:Nat→List Int)(st:Nat→List Nat)(T0 T:List (List Nat))(again:Bool)(pc:Nat):Prop where
 g:Gro k n nx st T
 le:tot T0≤tot T
 yes:again=true→tot T0<tot T
 no:again=false→T=T0∧∀p,p<pc→TB nx st T p
theorem EN.start (g:Gro k n nx st T):EN k n nx st T T false 0:=⟨g,Nat.le_refl _,fun h=>by (cases h),fun _=>⟨rfl,fun p hp=>by omega⟩⟩
structure DZ (k n:Nat)(nx:Nat→List Int)(st:Nat→List Nat)(T0 T:List (List Nat))(again:Bool)(pc:Nat)(R0:List Nat)(j:Nat):Prop where
 g:Gro k n nx st T
 le:tot T0≤tot T
 yes:again=true→tot T0<tot T
 no:again=false→T=T0∧(∀p,p<pc→TB nx st T p)∧R0=T.getD pc []∧∀d,d<j→Sub (o6 R0 (st pc)) (T.getD ((nx pc).getD d 0).toNat [])
variable {again:Bool}
theorem EN.go (h:EN k n nx st T0 T again pc):DZ k n nx st T0 T again pc (T.getD pc []) 0:=
 ⟨h.g,h.le,h.yes,fun e=>⟨(h.no e).1,(h.no e).2,rfl,fun d hd=>by omega⟩⟩
theorem DZ.skip (h:DZ k n nx st T0 T again pc R0 j)(hs:Sub (o6 R0 (st pc)) (T.getD ((nx pc).getD j 0).toNat [])):DZ k n nx st T0 T again pc R0 (j+1):=
 ⟨h.g,h.le,h.yes,fun e=>⟨(h.no e).1,(h.no e).2.1,(h.no e).2.2.1,fun d hd=>if e2:d=j then by rw[e2];exact hs else (h.no e).2.2.2 d (by omega)⟩⟩
theorem DZ.grow (p:Pro k n nx st)(hp:pc<n)(h:DZ k n nx st T0 T again pc R0 j)(hR:Rl k (o6 R0 (st pc)))(hle:∀q∈nx pc,Sub (o6 R0 (st pc)) ((dM k n nx st).getD q.toNat []))(hj:j<(nx pc).length)(hqe:((nx pc).getD j 0).toNat=q)(hs:¬Sub (o6 R0 (st pc)) (T.getD q [])):DZ k n nx st T0 (T.set q (cJ (T.getD q []) (o6 R0 (st pc)))) true pc R0 (j+1):=by
 have hqm:(nx pc).getD j 0∈nx pc:=j4 hj;have hq:q<n:=by have:=p.nx pc hp _ hqm;omega
 obtain ⟨g',hs'⟩:=h.g.set hq hR (by have:=hle _ hqm;rwa[hqe]at this);have h2:=D0 h.g.tb hq (qD (h.g.tb.get hq) hR) (lK (h.g.tb.get hq) hR) (fun he=>hs ((aJ (h.g.tb.get hq) hR).1 he.symm));have h3:=h.le;exact ⟨g',by omega,fun _=>by omega,fun e=>by cases e⟩
theorem DZ.fin (h:DZ k n nx st T0 T again pc R0 (nx pc).length):EN k n nx st T0 T again (pc+1):=by
 refine ⟨h.g,h.le,h.yes,fun e=>⟨(h.no e).1,fun p hp=>?_⟩⟩;obtain ⟨h1,h2,h3,h4⟩:=h.no e;by_cases e2:p=pc
 ·subst e2;intro q hq;obtain ⟨d,hd,rfl⟩:=List.getElem_of_mem hq;have:=h4 d hd;rw[h3]at this;simpa [List.getD,hd] using this
 ·exact h2 p (by omega)
theorem EN.done (p:Pro k n nx st)(h:EN k n nx st T0 T false n):T=dM k n nx st:=h.g.done p (h.no rfl).2
def UF (n:Nat)(T:List (List Nat))(again:Bool):Nat:=if again then 4608*n-tot T+1 else 0
theorem MC (hk:k≤8)(h:EN k n nx st T0 T again pc):UF n T again<UF n T0 true:=by
 have h1:=L7 hk h.g.tb;unfold UF;cases again
 ·simp
 ·have:=h.yes rfl;simp only[if_true];omega
end
section
variable {u:Un}{c:Clo}{m:Nat}
structure OfI (u:Un)(c:Clo)(m:Nat)(S0 S:List (List Nat))(again:Bool)(i:Nat):Prop where
 low:Low u c m S
 le:tot S0≤tot S
 yes:again=true→tot S0<tot S
 no:again=false→S=S0∧∀j,i≤j→j<c.insts.length→exT u c m S j=S.getD j []
variable {S:List (List Nat)}
theorem OfI.start (h:Low u c m S):OfI u c m S S false c.insts.length:=⟨h,Nat.le_refl _,fun h=>by (cases h),fun _=>⟨rfl,fun j h1 h2=>by omega⟩⟩
variable {S0:List (List Nat)}{again:Bool}{i:Nat}
theorem OfI.same (h:OfI u c m S0 S again (i+1))(he:exT u c m S i=S.getD i []):OfI u c m S0 S again i:=
 ⟨h.low,h.le,h.yes,fun e=>⟨(h.no e).1,fun j h1 h2=>if e2:j=i then by rw[e2];exact he else (h.no e).2 j (by omega) h2⟩⟩
theorem OfI.set (hu:WU u)(wc:WC u c)(hi:i<c.insts.length)(h:OfI u c m S0 S again (i+1))(he:exT u c m S i≠S.getD i []):OfI u c m S0 (S.set i (exT u c m S i)) true i:=by have h1:=h.low.set hu wc hi;have h2:=D0 h.low.tb hi (L9 (u:=u) (c:=c) (m:=m) S i) (h.low.up i hi) (Ne.symm he);have h3:=h.le;exact ⟨h1.1,by omega,fun _=>by omega,fun e=>by cases e⟩
theorem OfI.done (hu:WU u)(wc:WC u c)(h:OfI u c m S0 S false 0):S=cR u c m:=
 XH hu wc h.low.tb h.low.le fun i hi=>(h.no rfl).2 i (Nat.zero_le _) hi
theorem mOf_lt (h:OfI u c m S0 S again i):UF c.insts.length S again<UF c.insts.length S0 true:=by
 have h1:=L7 gR h.low.tb;unfold UF;cases again
 ·simp
 ·have:=h.yes rfl;simp only[if_true];omega
theorem Low.grow (hu:WU u)(wc:WC u c)(h:Low u c m S)(hne:S≠yK u c m S):tot S<tot (yK u c m S)∧tot (yK u c m S)≤4608*c.insts.length:=
 ⟨(TC h.tb (jQ S) (h.round hu wc).2).2 hne,L7 gR (jQ S)⟩
end
structure Cg where
 depth:Nat
 stack:List (Nat×Nat)
section
variable (u:Un)(c:Clo)(m:Nat)
def BF (d:Nat)(below:List (Nat×Nat))(i pc:Nat):List Cg:=
 if (dP u c i pc).op=8 then [⟨d,below⟩]
 else if (dP u c i pc).op=2 then [⟨d,below++[(i,pc+1),(dB c i pc,0)]⟩]
 else if 0≤(d:Int)+chI (itI c i) (dP u c i pc) m∧(d:Int)+chI (itI c i) (dP u c i pc) m≤kM u m then
  (nxI u c i pc).map fun q=>⟨((d:Int)+chI (itI c i) (dP u c i pc) m).toNat,below++[(i,q.toNat)]⟩
 else []
def Susp:Nat→Nat→List (Nat×Nat)→Prop
 | _,_,[]=>True
 | i,d,(i',q)::rest=>∃pc' d',q=pc'+1∧i'<c.insts.length∧pc'<u7 u c i'∧NI u c m i' d'∧Inn u c m i' pc' d' d∧(dP u c i' pc').op=2∧dB c i' pc'=i∧Susp i' d' rest
def qI (d:Nat):List (Nat×Nat)→Prop
 | []=>d≤kM u m
 | (i,pc)::rest=>∃d0,NI u c m i d0∧Inn u c m i pc d0 d∧Susp u c m i d0 rest
end
section
variable {u:Un}{c:Clo}{m:Nat}
theorem qI.begin {r:Nat}(hr:(r:Int)∈c.roots):qI u c m 0 [(r,0)]:=⟨0,.root hr,.start (Nat.zero_le _),trivial⟩
variable {d i pc:Nat}{rest:List (Nat×Nat)}
theorem qI.at' (hu:WU u)(wc:WC u c)(h:qI u c m d ((i,pc)::rest)):i<c.insts.length∧pc<u7 u c i∧d≤kM u m:=by obtain ⟨d0,h1,h2,_⟩:=h;have h3:=(h1.lt hu wc).1;have h4:=h2.lt hu wc h3;exact ⟨h3,h4.1,h4.2.2⟩
theorem qI.depth (hu:WU u)(wc:WC u c){l:List (Nat×Nat)}(h:qI u c m d l):d≤kM u m:=by
 cases l with
 | nil=>exact h
 | cons p rest=>exact (h.at' hu wc).2.2
theorem qI.steps (hu:WU u)(wc:WC u c)(h:qI u c m d ((i,pc)::rest)){y:Cg}(hy:y∈BF u c m d rest.reverse i pc):qI u c m y.depth y.stack.reverse:=by
 have hat:=h.at' hu wc;obtain ⟨d0,h1,h2,h3⟩:=h;unfold BF at hy;split at hy
 ·rename_i ho;replace hy:=s8z hy;subst hy;simp only[List.reverse_reverse];cases rest with
  | nil=>exact hat.2.2
  | cons p rest=>
   obtain ⟨i',q⟩:=p;obtain ⟨pc',d',rfl,k1,k2,k3,k4,k5,rfl,k6⟩:=h3;refine ⟨d',k3,?_,k6⟩;have hq:((pc':Int)+1)∈nxI u c i' pc':=by unfold nxI n9;rw[if_neg (by omega),if_neg (by omega),if_neg (by omega)];simp
   exact Inn.call k4 k5 h2 ho hq
 ·split at hy
  ·rename_i h8 ho;replace hy:=s8z hy;subst hy;rw[show (rest.reverse++[(i,pc+1),(dB c i pc,0)]).reverse=(dB c i pc,0)::(i,pc+1)::rest from by simp];exact ⟨d,.call h1 h2 ho,.start hat.2.2,pc,d0,rfl,hat.1,hat.2.1,h1,h2,ho,rfl,h3⟩
  ·split at hy
   ·rename_i h8 ho hr;obtain ⟨q,hq,rfl⟩:=List.mem_map.1 hy;rw[show (rest.reverse++[(i,q.toNat)]).reverse=(i,q.toNat)::rest from by simp];refine ⟨d0,h1,.step h2 ho (TA.2 ?_) hq,h3⟩;dsimp only;exact ⟨hat.2.2,by omega,by omega⟩
   ·simp at hy
theorem qI.bit (hu:WU u)(wc:WC u c)(h:qI u c m d ((i,pc)::rest)):((lZ u c m i).getD pc 0).testBit d=true:=by have hat:=h.at' hu wc;obtain ⟨d0,h1,h2,_⟩:=h;exact (M3 hu wc hat.1 hat.2.1).2 ⟨d0,h1,h2⟩
end
end Go.Un
end
section
namespace Go.Proofs.YtonbocmibeikmaaGreat
open Go.Ab Go.Un
variable {i:Nat}
theorem oN {l:List (List Int)}(h:i<l.length):List.take 1 (List.drop i (j9 l))=[.vec (l.getD i []).length (g8 (l.getD i []))]:=by unfold j9;rw[←List.map_drop,←List.map_take,List.drop_eq_getElem_cons h,List.take_succ_cons,List.take_zero];simp[List.getD,h]
variable {c:Clo}
theorem jD (h:i<c.insts.length):List.take 2 (List.drop (i*2) (j5 c.insts))=[.int .i64 (itI c i).proc,.vec (itI c i).j7.length (g8 (itI c i).j7)]:=GW h
variable {k:Nat}
theorem M6:(((k+1:Nat):Int)-1)=((k:Nat):Int):=by omega
theorem oO (n:Nat):(List.replicate n [AV.nils]).flatten=List.replicate n AV.nils:=by
  induction n with
  | zero=>rfl
  | succ n ih=>rw[List.replicate_succ,List.flatten_cons,ih];rfl
variable {r:List Nat}
theorem wV {T:List (List Nat)}(h:i<T.length):List.take i (n7 T)++AV.vec r.length (r.map l5)::List.drop (i+1) (n7 T)=n7 (T.set i r):=overT h
theorem jT:(1≤maxLen)=True:=eq_true (by decide)
theorem overT0 {T:List (List Nat)}(h:0<T.length):bR r::List.drop 1 (n7 T)=n7 (T.set 0 r):=overT (i:=0) h
variable {n:Nat}{Z:List Nat}
theorem wW (h:0<n):AV.vec r.length (r.map l5)::List.drop 1 (n7 (List.replicate n Z))=n7 ((List.replicate n Z).set 0 r):=overT0 (by rw[List.length_replicate];exact h)
variable {h:c6}{u:Un}{mx pc:Nat}
theorem XR (hu:WU u)(wc:WC u c)(hmx:mx<u.mutexes.length)(hi:i<c.insts.length)(hp:pc<u7 u c i):CB 24 [.agg [.vec u.globals.length (g8 u.globals),.vec u.mutexes.length (g6 u.mutexes),.vec u.procs.length (g9 u.procs),.int .i64 u.main],.agg [.int .i64 (itI c i).proc,.vec (itI c i).j7.length (g8 (itI c i).j7)],.int .i64 ((pc:Nat):Int),.int .i64 ((mx:Nat):Int)] h (bR (dhN (kM u mx) (chI (itI c i) (dP u c i pc) mx))):=
  (c_rel hu (dX wc hi) hp hmx).mono fun y k hq=>⟨hq.1.trans (AU _ _),hq.2⟩
theorem c_idN (k:Nat)(hk:k≤8):CB 67 [.int .i64 ((k:Nat):Int)] h (bR (dhN k 0)):=
  (c_id k hk).mono fun y k hq=>⟨hq.1.trans (AU _ _),hq.2⟩
def xK (n i:Nat)(Z:List Nat):List AV:=n7 (List.replicate i Z)++List.replicate (n-i) AV.nils
theorem lL (h:i≤n):(xK n i Z).length=n:=by simp[xK,v9];omega
theorem MD:xK n 0 Z=List.replicate n AV.nils:=by simp[xK,n7]
theorem qJ:xK n n Z=n7 (List.replicate n Z):=by simp[xK]
theorem ME:List.take i (xK n i Z)=n7 (List.replicate i Z):=by unfold xK;rw[List.take_append_of_le_length (by simp[v9]),List.take_of_length_le (by simp[v9])]
theorem MF:List.drop (i+1) (xK n i Z)=List.replicate (n-(i+1)) AV.nils:=by unfold xK;rw[List.drop_append,List.drop_of_length_le (by simp[v9]),v9,List.length_replicate,List.nil_append,List.drop_replicate];congr 1;omega
theorem T8 {x:AV}:List.take i (xK n i Z)++x::List.drop (i+1) (xK n i Z)=n7 (List.replicate i Z)++x::List.replicate (n-(i+1)) AV.nils:=by rw[ME,MF]
theorem MG:n7 (List.replicate i Z)++bR Z::List.replicate (n-(i+1)) AV.nils=xK n (i+1) Z:=by unfold xK;rw[List.replicate_succ',n7,n7,List.map_append,List.append_assoc];rfl
theorem EA:n7 (List.replicate i (List.replicate (k+1) 0))++AV.vec (k+1) ((List.replicate (k+1) 0).map l5)::List.replicate (n-(i+1)) AV.nils=xK n (i+1) (List.replicate (k+1) 0):=by rw[←MG];simp[bR]
theorem wX (N:Nat):∀x∈xK n i Z,Refs N x:=fun x hx=>by
  rcases List.mem_append.1 hx with hx | hx
  · exact (TK _).refs _ x hx
  · rw[List.eq_of_mem_replicate hx];exact .nils
theorem g5.EB {c:Code}{sl:List AV}{H:c6}{Q:Exit→St→Prop}{β γ len e e':Nat}{A R:List AV}{zs:List Nat}(hβ:H[β]?=some ⟨0,false,e,1,A++.own γ 0 0 len::R,0⟩)(hγ:H[γ]?=some ⟨0,false,e',1,zs.map l5,0⟩)(hz:zs.length=len)(hne:β≠γ)
    (r:g5 Tryz.prog cfg c ⟨sl,(H.set γ ⟨0,false,e',1,zs.map l5,len⟩).set β ⟨0,false,e,1,A++.vec len (zs.map l5)::R,0⟩⟩ Q):g5 Tryz.prog cfg c ⟨sl,H⟩ Q:=by
  subst hz;refine g5.zR (γ:=γ) (β:=β) (k:=A.length) (off:=0) (len:=zs.length) (cs:=zs.map l5) hγ rfl (by simp) ?_ hβ hne (by simp) ?_
  · show p5 oA (List.take (zs.length*1) (List.drop 0 (zs.map l5)))=_
    rw[List.drop_zero,Nat.mul_one,List.take_of_length_le (by simp)];exact (N4 zs).OV
  · have e1:cL ⟨0,false,e',1,zs.map l5,0⟩ (0+zs.length*1)=⟨0,false,e',1,zs.map l5,zs.length⟩:=by simp only[cL,Nat.zero_add,Nat.mul_one,Nat.zero_max]
    have e2:(A++AV.own γ 0 0 zs.length::R).set A.length (.vec zs.length (zs.map l5))=A++.vec zs.length (zs.map l5)::R:=by simp
    show g5 Tryz.prog cfg c ⟨sl,(H.set γ (cL ⟨0,false,e',1,zs.map l5,0⟩ (0+zs.length*1))).set β ⟨0,false,e,1,(A++AV.own γ 0 0 zs.length::R).set A.length (.vec zs.length (zs.map l5)),0⟩⟩ Q;rw[e1,e2];exact r
def sQ (W:List Nat)(l q:Nat):List Nat:=if l+1≤W.length then W.set l q else W.take l++[q]
def xL (W:List Nat)(g l:Nat):Nat:=if l+1≤W.length then g else g+1
variable {W:List Nat}{q:Nat}
theorem yN {l:Nat}(h:l≤W.length):(sQ W l q).take (l+1)=W.take l++[q]:=by
  unfold sQ;split
  · rename_i h1
    rw[List.take_add_one,List.take_set,List.set_eq_of_length_le t55,List.getElem?_set_self (by omega)];rfl
  · rw[List.take_of_length_le t55]
theorem M7 {l:Nat}(h:l≤W.length):l+1≤(sQ W l q).length:=by
  unfold sQ;split
  · rw[List.length_set];assumption
  · rw[List.length_append,List.length_take,List.length_singleton];omega
theorem mQ (h:k+1≤W.length):W.take (k+1)=W.take k++[W.getD k 0]:=by rw[List.take_add_one,List.getElem?_eq_getElem (by omega)];simp[List.getD,show k<W.length from by omega]
variable {g:Nat}
theorem UG {l:c6}{b0 b1:Blk}(hn:n≤W.length)(hl:n<1000000000):j0 cfg 3 (h++(b0::b1::⟨g,false,3,1,W.map l5,0⟩::⟨0,false,3,1,[.int .i64 ((q:Nat):Int)],0⟩::l)) (.own (h.length+2) g 0 n) (.own (h.length+3) 0 0 1)=some (.own (h.length+2) (xL W g n) 0 (n+1),h++(b0::b1::⟨xL W g n,false,3,1,(sQ W n q).map l5,0⟩::⟨0,false,3,1,[.int .i64 ((q:Nat):Int)],0⟩::l)):=by
  have e1:cfg.sz 3=1:=rfl;have e2:(cfg.ti 3).bytes=8:=rfl;have h1:n+1≤maxLen:=by
    have:(1000000001:Nat)≤maxLen:=by decide
    omega
  have h2:(n+1)*8≤140737488355328:=by omega
  by_cases hc:n+1≤W.length
  · have e3:List.take n (W.map l5)++AV.int .i64 ((q:Nat):Int)::List.drop (n+1) (W.map l5)=(W.set n q).map l5:=wD (by omega)
    simp[j0,rd,lenOf,e1,e2,h1,h2,hc,hn,over,p8,l8,sQ,xL];rw[e3];simp
  · have h3:List.take n (W.map l5)=W.map l5:=List.take_of_length_le t55
    have h4:List.take n W=W:=List.take_of_length_le (by omega);simp[j0,rd,lenOf,e1,e2,h1,h2,hc,hn,p8,l8,sQ,xL,h4,l5];exact h3
attribute [local go_sem] rd bR u5 z4 s6 o4 l9 bX v9 Int.natCast_nonneg Int.natCast_inj jA bV jB gD fA gE fM oN D2 wV jT wW T8 lL sD sE oO List.length_set List.length_replicate Int.toNat_natCast_add_one eT wrap64 M6 List.length_map
variable {S:List (List Nat)}
theorem c_stepA (hu:WU u)(wc:WC u c)(hmx:mx<u.mutexes.length)(hS:Tb (kM u mx) c.insts.length S)(hi:i<c.insts.length)(hp:pc<u7 u c i)(l:c6):CB 110 [.int .i64 ((pc:Nat):Int),.ptr h.length 0 0,.ptr (h.length+5) 0 0,.ptr (h.length+3) 0 0,.ptr (h.length+1) 0 0,.ptr (h.length+4) 0 0,.ptr (h.length+2) 0 0] (h++(⟨0,false,30,4,[.vec u.globals.length (g8 u.globals),.vec u.mutexes.length (g6 u.mutexes),.vec u.procs.length (g9 u.procs),.int .i64 u.main],0⟩::⟨0,false,34,3,[.vec c.insts.length (j5 c.insts),.vec c.calls.length (j9 c.calls),.vec c.roots.length (g8 c.roots)],0⟩::⟨0,false,3,1,[.int .i64 ((mx:Nat):Int)],0⟩::⟨0,false,32,1,[.vec c.insts.length (n7 S)],0⟩::⟨0,false,3,1,[.int .i64 ((i:Nat):Int)],0⟩::⟨0,false,46,2,[.int .i64 (itI c i).proc,.vec (itI c i).j7.length (g8 (itI c i).j7)],0⟩::l)) (bR (stS u c mx S i pc)):=by
  refine .bz Tryz.f110 37 ?_;have w:=dX wc hi;have w1:=w.lo;have w2:=w.hi;have hsz:(c5 u (itI c i)).length≤1664:=n8 hu w;have hcl:=wc.cl;have hcll:(c.calls.getD i []).length=(c5 u (itI c i)).length:=wc.cll i hi;have hp2:pc<(c5 u (itI c i)).length:=hp;have hSl:=hS.1;have hwl:=wc.len;have hcall:(dP u c i pc).op=2→0≤(c.calls.getD i []).getD pc 0∧(c.calls.getD i []).getD pc 0<c.insts.length:=fun ho=>by have:=(wc.call i hi pc hp).1 (.inl ho);exact ⟨this.1,this.2.1⟩
  have hop:dP u c i pc=(c5 u (itI c i)).getD pc c8:=rfl;rw[hop]at hcall;refine c10z ?_;refine c124z ?_;refine u2z ?_ ?_
  ·intro e1 qe1;refine .c7 [0,3,4,5] ?_;obtain ⟨hc1,hc2⟩:=hcall (by omega);refine .ss u4 (mkP 12 [0,0,2,0,14,30,0,126,254,511,1023,2047] []) ?_;refine c36z ?_;exact .ret (.ex (hq:=t54))
  intro e1 qe1;refine .sk ?_;refine .c7 [0,1,2,6] ?_;refine c26z ?_;refine .ca rfl rfl (XR hu wc hmx hi hp) ?_;refine .n ?_;exact .ret (.ex (hq:=t54))
variable {A R:c6}
theorem MH {X:c6}{B:Blk}:(A++(B::(R++X)))[A.length+1+R.length+k]?=X[k]?:=by rw[List.getElem?_append_right (by omega),show A.length+1+R.length+k-A.length=(R.length+k)+1 from by omega,List.getElem?_cons_succ,List.getElem?_append_right (by omega)];congr 1;omega
theorem UH {X:c6}{B:Blk}:(A++(B::(R++X)))[A.length+1+R.length]?=X[0]?:=MH (k:=0)
section
attribute [local go_sem] MH UH
theorem UI (hu:WU u)(wc:WC u c)(hmx:mx<u.mutexes.length)(hS:Tb (kM u mx) c.insts.length S)(hi:i<c.insts.length)(hp:pc<u7 u c i)(l:c6):CB 110 [.int .i64 ((pc:Nat):Int),.ptr (A.length+1+R.length) 0 0,.ptr (A.length+1+R.length+5) 0 0,.ptr (A.length+1+R.length+3) 0 0,.ptr (A.length+1+R.length+1) 0 0,.ptr (A.length+1+R.length+4) 0 0,.ptr (A.length+1+R.length+2) 0 0] (A++(⟨g,false,22,1,n7 S,0⟩::(R++(⟨0,false,30,4,[.vec u.globals.length (g8 u.globals),.vec u.mutexes.length (g6 u.mutexes),.vec u.procs.length (g9 u.procs),.int .i64 u.main],0⟩::⟨0,false,34,3,[.vec c.insts.length (j5 c.insts),.vec c.calls.length (j9 c.calls),.vec c.roots.length (g8 c.roots)],0⟩::⟨0,false,3,1,[.int .i64 ((mx:Nat):Int)],0⟩::⟨0,false,32,1,[.own A.length g 0 c.insts.length],0⟩::⟨0,false,3,1,[.int .i64 ((i:Nat):Int)],0⟩::⟨0,false,46,2,[.int .i64 (itI c i).proc,.vec (itI c i).j7.length (g8 (itI c i).j7)],0⟩::l)))) (bR (stS u c mx S i pc)):=by
  refine .bz Tryz.f110 37 ?_;have w:=dX wc hi;have w1:=w.lo;have w2:=w.hi;have hsz:(c5 u (itI c i)).length≤1664:=n8 hu w;have hcl:=wc.cl;have hcll:(c.calls.getD i []).length=(c5 u (itI c i)).length:=wc.cll i hi;have hp2:pc<(c5 u (itI c i)).length:=hp;have hSl:=hS.1;have hwl:=wc.len;have hcall:(dP u c i pc).op=2→0≤(c.calls.getD i []).getD pc 0∧(c.calls.getD i []).getD pc 0<c.insts.length:=fun ho=>by have:=(wc.call i hi pc hp).1 (.inl ho);exact ⟨this.1,this.2.1⟩
  have hop:dP u c i pc=(c5 u (itI c i)).getD pc c8:=rfl;rw[hop]at hcall;refine c10z ?_;refine c124z ?_;refine u2z ?_ ?_
  ·intro e1 qe1;refine .c7 [0,3,4,5] ?_;obtain ⟨hc1,hc2⟩:=hcall (by omega);refine .ss u4 (mkP 12 [0,0,2,0,14,30,0,126,254,511,1023,2047] []) ?_;refine c36z ?_;exact .ret (.ex (hq:=t54))
  intro e1 qe1;refine .sk ?_;refine .c7 [0,1,2,6] ?_;refine c26z ?_;refine .ca rfl rfl (XR hu wc hmx hi hp) ?_;refine .n ?_;exact .ret (.ex (hq:=t54))
end
def mR (u:Un)(c:Clo)(mx:Nat)(S:List (List Nat))(i:Nat)(sv:AV)(h:c6):Prop:=∀pc,pc<u7 u c i→∀l,CallA Tryz.prog cfg 110 [.int .i64 ((pc:Nat):Int),.ptr h.length 0 0,.ptr (h.length+5) 0 0,.ptr (h.length+3) 0 0,.ptr (h.length+1) 0 0,.ptr (h.length+4) 0 0,.ptr (h.length+2) 0 0] (h++(⟨0,false,30,4,[.vec u.globals.length (g8 u.globals),.vec u.mutexes.length (g6 u.mutexes),.vec u.procs.length (g9 u.procs),.int .i64 u.main],0⟩::⟨0,false,34,3,[.vec c.insts.length (j5 c.insts),.vec c.calls.length (j9 c.calls),.vec c.roots.length (g8 c.roots)],0⟩::⟨0,false,3,1,[.int .i64 ((mx:Nat):Int)],0⟩::⟨0,false,32,1,[sv],0⟩::⟨0,false,3,1,[.int .i64 ((i:Nat):Int)],0⟩::⟨0,false,46,2,[.int .i64 (itI c i).proc,.vec (itI c i).j7.length (g8 (itI c i).j7)],0⟩::l)) (fun y' h'=>y'=bR (stS u c mx S i pc)∧h'=h++(⟨0,false,30,4,[.vec u.globals.length (g8 u.globals),.vec u.mutexes.length (g6 u.mutexes),.vec u.procs.length (g9 u.procs),.int .i64 u.main],0⟩::⟨0,false,34,3,[.vec c.insts.length (j5 c.insts),.vec c.calls.length (j9 c.calls),.vec c.roots.length (g8 c.roots)],0⟩::⟨0,false,3,1,[.int .i64 ((mx:Nat):Int)],0⟩::⟨0,false,32,1,[sv],0⟩::⟨0,false,3,1,[.int .i64 ((i:Nat):Int)],0⟩::⟨0,false,46,2,[.int .i64 (itI c i).proc,.vec (itI c i).j7.length (g8 (itI c i).j7)],0⟩::l))
theorem EC (hu:WU u)(wc:WC u c)(hmx:mx<u.mutexes.length)(hS:Tb (kM u mx) c.insts.length S)(hi:i<c.insts.length)(h:c6):mR u c mx S i (.vec c.insts.length (n7 S)) h:=fun pc hp l=>c_stepA hu wc hmx hS hi hp l
variable {β:Nat}
theorem ED (hu:WU u)(wc:WC u c)(hmx:mx<u.mutexes.length)(hS:Tb (kM u mx) c.insts.length S)(hi:i<c.insts.length)(hb:h[β]?=some ⟨g,false,22,1,n7 S,0⟩):mR u c mx S i (.own β g 0 c.insts.length) h:=fun pc hp l=>by
  obtain ⟨hlt,hget⟩:=List.getElem?_eq_some_iff.1 hb;obtain ⟨A,R,rfl,rfl⟩:∃A R,h=A++⟨g,false,22,1,n7 S,0⟩::R∧A.length=β:=⟨h.take β,h.drop (β+1),by rw[←hget,←List.drop_eq_getElem_cons hlt,List.take_append_drop],by rw[List.length_take];omega⟩;have e:(A++⟨g,false,22,1,n7 S,0⟩::R).length=A.length+1+R.length:=by rw[List.length_append,List.length_cons];omega
  rw[e,List.append_assoc,List.cons_append];exact UI hu wc hmx hS hi hp l
theorem EE (hu:WU u)(wc:WC u c)(hmx:mx<u.mutexes.length)(hS:Tb (kM u mx) c.insts.length S)(hi:i<c.insts.length)(hb:h[β]?=some ⟨g,false,22,1,n7 S,0⟩)(l:c6):mR u c mx S i (.own β g 0 c.insts.length) (h++l):=
  ED hu wc hmx hS hi (by rw[List.getElem?_append_left (List.getElem?_eq_some_iff.1 hb).1];exact hb)
theorem mR.shift {sv:AV}(hs:∀l0,mR u c mx S i sv (h++l0))(hp:pc<u7 u c i){b:Blk}(l:c6):CB 110 [.int .i64 ((pc:Nat):Int),.ptr h.length 0 0,.ptr (h.length+5) 0 0,.ptr (h.length+3) 0 0,.ptr (h.length+1) 0 0,.ptr (h.length+4) 0 0,.ptr (h.length+2) 0 0] ((h++[⟨0,false,30,4,[.vec u.globals.length (g8 u.globals),.vec u.mutexes.length (g6 u.mutexes),.vec u.procs.length (g9 u.procs),.int .i64 u.main],0⟩,⟨0,false,34,3,[.vec c.insts.length (j5 c.insts),.vec c.calls.length (j9 c.calls),.vec c.roots.length (g8 c.roots)],0⟩,⟨0,false,3,1,[.int .i64 ((mx:Nat):Int)],0⟩,⟨0,false,32,1,[sv],0⟩,⟨0,false,3,1,[.int .i64 ((i:Nat):Int)],0⟩,⟨0,false,46,2,[.int .i64 (itI c i).proc,.vec (itI c i).j7.length (g8 (itI c i).j7)],0⟩,b])++l) (bR (stS u c mx S i pc)):=by have:=hs [] pc hp (b::l);simpa only[List.append_nil,List.append_assoc,List.cons_append,List.nil_append] using this
theorem c_nextV (hu:WU u){it:w6}(w:WIt u it)(hpc:pc<(c5 u it).length):CB 146 [.agg [.vec u.globals.length (g8 u.globals),.vec u.mutexes.length (g6 u.mutexes),.vec u.procs.length (g9 u.procs),.int .i64 u.main],.agg [.int .i64 it.proc,.vec it.j7.length (g8 it.j7)],.int .i64 ((pc:Nat):Int)] h (.vec (n9 ((c5 u it).getD pc c8) pc).length (g8 (n9 ((c5 u it).getD pc c8) pc))):=c_nextF hu w hpc
section
attribute [local go_sem] UG
theorem c_run (hu:WU u){it:w6}(w:WIt u it)(hmx:mx<u.mutexes.length)(hk:gT (u.mutexes.getD mx s8)=k){sp:Nat→List Nat}{caps:List AV}(p:Pro k (c5 u it).length (fun pc=>n9 ((c5 u it).getD pc c8) pc) sp)(hst:∀pc,pc<(c5 u it).length→∀l,CB 110 (.int .i64 ((pc:Nat):Int)::caps) (h++l) (bR (sp pc))):CB 111 [.agg [.vec u.globals.length (g8 u.globals),.vec u.mutexes.length (g6 u.mutexes),.vec u.procs.length (g9 u.procs),.int .i64 u.main,.int .i64 it.proc,.vec it.j7.length (g8 it.j7),.int .i64 ((mx:Nat):Int),.fn (.func 110) [] caps]] h (.vec (c5 u it).length (n7 (dM k (c5 u it).length (fun pc=>n9 ((c5 u it).getD pc c8) pc) sp))):=by
  refine .bz Tryz.f111 105 ?_;have w1:=w.lo;have w2:=w.hi;have hsz:(c5 u it).length≤1664:=n8 hu w;have hk8:k≤8:=by rw[←hk];exact jP
  have hps:=p.pos;have hml:=hu.ml;have hcd:=(fT hu w).1;refine .z ?_;refine .s ?_;refine .e 7 ?_;refine .ca rfl rfl (Cw (u.mutexes.getD mx s8)) ?_;refine .n ?_;refine .c7 [1,3] ?_;refine c124z ?_;refine .c7 [1,3,4] ?_;refine c19z ?_;refine .s4 (fun m st=>∃(i:Nat),(m=(c5 u it).length-i∧(i≤(c5 u it).length))∧st=⟨mkS 105 [(1,AV.ptr h.length 0 0),(3,AV.int .i64 ((k:Nat):Int)),(5,AV.own (h.length+1) 0 0 (c5 u it).length),(33,AV.int .i64 (((c5 u it).length:Nat):Int)),(34,AV.int .i64 ((i:Nat):Int))],h++[⟨0,false,172,8,[.vec u.globals.length (g8 u.globals),.vec u.mutexes.length (g6 u.mutexes),.vec u.procs.length (g9 u.procs),.int .i64 u.main,.int .i64 it.proc,.vec it.j7.length (g8 it.j7),.int .i64 ((mx:Nat):Int),.fn (.func 110) [] caps],0⟩,⟨0,false,22,1,xK (c5 u it).length i (List.replicate (k+1) 0),0⟩]⟩) (.v ⟨0,⟨rfl,by omega⟩,rfl⟩) ?_ (he:=t205);rintro m sl h' ⟨i,⟨hm,hi⟩,hst⟩;obtain ⟨rfl,rfl⟩:=St.mk.inj hst;clear hst;refine c10z ?_;refine u2z ?_ ?_
  ·intro e1 qe1;refine c45z ?_;refine c1z ?_;refine .c7 [1,3,5,33,34] ?_;refine g5.EB (β:=h.length+1) (γ:=h.length+2) (A:=n7 (List.replicate i (List.replicate (k+1) 0))) (R:=List.replicate ((c5 u it).length-(i+1)) AV.nils) (zs:=(List.replicate (k+1) 0)) (len:=k+1) t23 t23 (by simp) (by omega) ?_;refine c14z ?_;exact ⟨_,by omega,.v ⟨(i+1),⟨rfl,by omega⟩,rfl⟩ (he:=t77) (hk:=by exact (u6.refl _).app rfl ⟨.inl rfl,.inr (wX _),trivial⟩)⟩
  intro e1 qe1;refine .exit ?_;obtain rfl:i=(c5 u it).length:=by omega
  simp only[qJ];change g5 ..;refine c34z ?_;refine .ca rfl rfl (c_idN _ hk8) ?_;refine .n ?_;refine .c7 [1,5] ?_;refine .z ?_;refine .sb ?_;refine .s4 (fun m st=>∃(T:List (List Nat)) (W:List Nat) (l:Nat) (g:Nat),(m=XQ (c5 u it).length T l∧(NJ k (c5 u it).length (fun pc=>n9 ((c5 u it).getD pc c8) pc) sp T (W.take l)∧l≤W.length∧XQ (c5 u it).length T l≤20000000))∧st=⟨mkS 105 [(1,AV.ptr h.length 0 0),(5,AV.own (h.length+1) 0 0 (c5 u it).length),(7,AV.own (h.length+2) g 0 l)],h++[⟨0,false,172,8,[.vec u.globals.length (g8 u.globals),.vec u.mutexes.length (g6 u.mutexes),.vec u.procs.length (g9 u.procs),.int .i64 u.main,.int .i64 it.proc,.vec it.j7.length (g8 it.j7),.int .i64 ((mx:Nat):Int),.fn (.func 110) [] caps],0⟩,⟨0,false,22,1,n7 T,0⟩,⟨g,false,3,1,W.map l5,0⟩]⟩) (.v ⟨((List.replicate (c5 u it).length (List.replicate (k+1) 0)).set 0 (dhN k 0)),[0],1,0,⟨rfl,⟨NJ.start p,by simp,by unfold XQ;omega⟩⟩,rfl⟩) ?_;rintro m sl h' ⟨T,W,l,g,⟨hm,⟨hI,hl,hlb⟩⟩,hst⟩;obtain ⟨rfl,rfl⟩:=St.mk.inj hst;clear hst;have hTl:T.length=(c5 u it).length:=hI.g.tb.1;have hlm:l≤XQ (c5 u it).length T l:=by unfold XQ;omega
  refine c0z ?_;refine u2z ?_ ?_
  ·intro e2 qe2;refine c123z ?_;obtain ⟨k1,rfl⟩:∃k1,l=k1+1:=⟨l-1,by omega⟩;refine .z ?_;refine .c7 [1,5,7,8] ?_;refine .z ?_;rw[mQ (by omega)]at hI;generalize W.getD k1 0=pc at hI ⊢;obtain ⟨hpc,hJ0⟩:=hI.pop;have hst1:=p.st pc hpc;have hTp:=hI.g.tb.get hpc;obtain ⟨hR,hle⟩:=hI.g.aft p hpc;refine .ss u4 (mkP 10 [0,0,3,7,0,16,0,112,255,511] []) ?_;refine .k 7 [] ?_;refine iQ.cq rfl (rfl) hb110 (hst pc hpc _) ?_;refine .ca rfl rfl (c_comp _ _ (hst1.lt hk8) t180 (hTp.lt hk8) t184) ?_;refine .n [] ?_;refine .c7 [1,5,7,8,9] ?_;have hnl:=dW (x:=(c5 u it).getD pc c8) (pc:=pc);refine c24z ?_;refine .ca rfl rfl (c_nextV hu w hpc) ?_;refine c138z ?_;refine .s4 (fun m st=>∃(T1:List (List Nat)) (W1:List Nat) (l1:Nat) (g1:Nat) (j:Nat),(m=(n9 ((c5 u it).getD pc c8) pc).length-j∧(MB k (c5 u it).length (fun pc=>n9 ((c5 u it).getD pc c8) pc) sp pc (T.getD pc []) (tot T) (W.take k1).length T1 (W1.take l1) j∧l1≤W1.length∧j≤(n9 ((c5 u it).getD pc c8) pc).length∧l1≤k1+j))∧st=⟨mkS 105 [(1,AV.ptr h.length 0 0),(5,AV.own (h.length+1) 0 0 (c5 u it).length),(7,AV.own (h.length+2) g1 0 l1),(9,bR (o6 (T.getD pc []) (sp pc))),(77,AV.vec (n9 ((c5 u it).getD pc c8) pc).length (g8 (n9 ((c5 u it).getD pc c8) pc))),(78,AV.int .i64 (((n9 ((c5 u it).getD pc c8) pc).length:Nat):Int)),(79,AV.int .i64 ((j:Nat):Int))],h++[⟨0,false,172,8,[.vec u.globals.length (g8 u.globals),.vec u.mutexes.length (g6 u.mutexes),.vec u.procs.length (g9 u.procs),.int .i64 u.main,.int .i64 it.proc,.vec it.j7.length (g8 it.j7),.int .i64 ((mx:Nat):Int),.fn (.func 110) [] caps],0⟩,⟨0,false,22,1,n7 T1,0⟩,⟨g1,false,3,1,W1.map l5,0⟩]⟩) (.v ⟨T,W,k1,g,0,⟨rfl,⟨hJ0,by omega,by omega,by omega⟩⟩,rfl⟩) ?_;rintro m sl h' ⟨T1,W1,l1,g1,j,⟨hm,⟨hJ,hl1,hj,hlj⟩⟩,hst⟩;obtain ⟨rfl,rfl⟩:=St.mk.inj hst;clear hst;have hT1:T1.length=(c5 u it).length:=hJ.g.tb.1;refine c10z ?_;refine u2z ?_ ?_
   ·intro e3 qe3;refine c45z ?_;obtain ⟨hq1,hq2⟩:=p.nx pc hpc _ (j4 (d:=0) (show j<(n9 ((c5 u it).getD pc c8) pc).length from by omega));obtain ⟨q,hqe⟩:∃q:Nat,(n9 ((c5 u it).getD pc c8) pc).getD j 0=(q:Int):=⟨((n9 ((c5 u it).getD pc c8) pc).getD j 0).toNat,by omega⟩;rw[hqe]at hq1 hq2 ⊢;have hq3:q<(c5 u it).length:=by omega
    have hRq:=hJ.g.tb.get hq3;have hqt:((n9 ((c5 u it).getD pc c8) pc).getD j 0).toNat=q:=by rw[hqe];rfl
    refine c24z ?_;refine .ca rfl rfl (LA _ _ (by have:=hR.1;omega) t119) ?_;refine .n ?_;refine u2z ?_ ?_
    ·intro e4 qe4;refine .c7 [1,5,7,9,11,77,78,79] ?_;refine .s ?_;refine .e 7 ?_;refine .ca rfl rfl (T3 _ _ (hR.lt hk8) (hRq.lt hk8) t185 t119) ?_;refine .n ?_;refine .c7 [1,5,7,9,11,77,78,79] ?_;refine c52z ?_;exact ⟨_,by omega,.v ⟨(T1.set q (cJ (T1.getD q []) (o6 (T.getD pc []) (sp pc)))),(sQ W1 l1 q),(l1+1),(xL W1 g1 l1),(j+1),⟨rfl,⟨by rw[yN hl1];exact hJ.grow p hpc hR hle (by omega) hqt (fun hs=>absurd ((KQ hk8 hR hRq).2 hs) (by assumption)),M7 hl1,by omega,by omega⟩⟩,rfl⟩ (he:=t12) (hk:=t106)⟩
    intro e4 qe4;refine c4z ?_;refine .c7 [1,5,7,9,77,78,79] ?_;refine .rz ?_;exact ⟨_,by omega,.v ⟨T1,W1,l1,g1,(j+1),⟨rfl,⟨hJ.skip ((KQ hk8 hR (by rw[hqt];exact hRq)).1 (by rw[hqt];assumption)),hl1,by omega,by omega⟩⟩,rfl⟩ (he:=t12) (hk:=t106)⟩
   intro e3 qe3;refine .exit ?_;obtain rfl:j=(n9 ((c5 u it).getD pc c8) pc).length:=by omega
   have hmr:=mRun_lt hk8 hJ hI.g;rw[List.length_take,List.length_take,Nat.min_eq_left hl1,Nat.min_eq_left (show k1≤W.length from by omega)]at hmr;exact ⟨_,by omega,.v ⟨T1,W1,l1,g1,⟨rfl,⟨hJ.fin hpc,hl1,by omega⟩⟩,rfl⟩ (he:=t12) (hk:=t106)⟩
  intro e2 qe2;refine .exit ?_;obtain rfl:l=0:=by omega
  have hT:T=(dM k (c5 u it).length (fun pc=>n9 ((c5 u it).getD pc c8) pc) sp):=NJ.done p (by simpa using hI);refine c197z ?_;exact ⟨_,_,rfl,S9 t23 (by omega) hTl,by (rw[hT])⟩
end
section
attribute [local go_sem] jD
theorem M8 (hu:WU u)(wc:WC u c)(hmx:mx<u.mutexes.length)(hS:Tb (kM u mx) c.insts.length S)(hi:i<c.insts.length)(hsv:∀l0,mR u c mx S i (.vec c.insts.length (n7 S)) (h++l0)):CB 70 [.agg [.vec u.globals.length (g8 u.globals),.vec u.mutexes.length (g6 u.mutexes),.vec u.procs.length (g9 u.procs),.int .i64 u.main],.agg [.vec c.insts.length (j5 c.insts),.vec c.calls.length (j9 c.calls),.vec c.roots.length (g8 c.roots)],.int .i64 ((mx:Nat):Int),.vec c.insts.length (n7 S),.int .i64 ((i:Nat):Int)] h (.vec (u7 u c i) (n7 (kH u c mx S i))):=by refine .bz Tryz.f70 25 ?_;have w:=dX wc hi;have w1:=w.lo;have w2:=w.hi;have hwl:=wc.len;refine c78z ?_;refine .c7 [5,6,7,8,9,11] ?_;refine .z ?_;refine .c7 [12] ?_;refine c68z ?_;refine .ca rfl rfl (c_run hu (dX wc hi) hmx rfl (TD hu wc hS hi) (fun pc hp l=>mR.shift hsv hp l)) ?_;refine .n ?_;exact .ret (.ex (hq:=by rfl))
end
section
attribute [local go_sem] jD
theorem MI (hu:WU u)(wc:WC u c)(hmx:mx<u.mutexes.length)(hS:Tb (kM u mx) c.insts.length S)(hi:i<c.insts.length)(hsv:∀l0,mR u c mx S i (.own β g 0 c.insts.length) (h++l0)):CB 70 [.agg [.vec u.globals.length (g8 u.globals),.vec u.mutexes.length (g6 u.mutexes),.vec u.procs.length (g9 u.procs),.int .i64 u.main],.agg [.vec c.insts.length (j5 c.insts),.vec c.calls.length (j9 c.calls),.vec c.roots.length (g8 c.roots)],.int .i64 ((mx:Nat):Int),.own β g 0 c.insts.length,.int .i64 ((i:Nat):Int)] h (.vec (u7 u c i) (n7 (kH u c mx S i))):=by refine .bz Tryz.f70 25 ?_;have w:=dX wc hi;have w1:=w.lo;have w2:=w.hi;have hwl:=wc.len;refine c78z ?_;refine .c7 [5,6,7,8,9,11] ?_;refine .z ?_;refine .c7 [12] ?_;refine c68z ?_;refine .ca rfl rfl (c_run hu (dX wc hi) hmx rfl (TD hu wc hS hi) (fun pc hp l=>mR.shift hsv hp l)) ?_;refine .n ?_;exact .ret (.ex (hq:=by rfl))
end
end Go.Proofs.YtonbocmibeikmaaGreat
end
section
namespace Go.Proofs.YtonbocmibeikmaaGreat
open Go.Ab Go.Un
variable {c:Clo}{i:Nat}
theorem kJ (h:i<c.insts.length):List.take 1 (List.drop (i*2) (j5 c.insts))=[.int .i64 (itI c i).proc]:=jA h
variable {h:c6}
theorem BG (u:Un)(mx:Nat):CB 30 [.agg [.str (u.mutexes.getD mx s8).name,.bool (u.mutexes.getD mx s8).re,.int .i64 (u.mutexes.getD mx s8).size]] h (.int .i64 ((kM u mx:Nat):Int)):=Cw _
variable {n:Nat}
theorem frz_old {β g len:Nat}{H:c6}(h:β<n):gH n H 6 (.own β g 0 len)=some (.own β g 0 len):=by rw[aY,if_pos h]
theorem u6.new {l':c6}(hk:∀b∈l',v5 b.cells):u6 h (h++l'):=fun β b hb=>by
  by_cases hβ:β<h.length
  · left;rwa[List.getElem?_append_left hβ]at hb
  · right;rw[List.getElem?_append_right (by omega)]at hb;exact fun x hx=>(hk b (List.mem_of_getElem? hb) x hx).rf _
theorem plnU (u:Un):v5 [.vec u.globals.length (g8 u.globals),.vec u.mutexes.length (g6 u.mutexes),.vec u.procs.length (g9 u.procs),.int .i64 u.main]:=v5.cons .vec (v5.cons .vec (v5.cons .vec (v5.cons .int .nil)))
theorem plnC (c:Clo):v5 [.vec c.insts.length (j5 c.insts),.vec c.calls.length (j9 c.calls),.vec c.roots.length (g8 c.roots)]:=v5.cons .vec (v5.cons .vec (v5.cons .vec .nil))
theorem g5.UJ {c:Code}{H:c6}{Q:Exit→St→Prop}{γ t len n e:Nat}{l:List (Nat×AV)}{zs:List Nat}(hγ:H[γ]?=some ⟨0,false,e,1,zs.map l5,0⟩)(hz:zs.length=len)(hp:0<len)(hx:(mkS n l)[t]?=some (.own γ 0 0 len))
    (r:g5 Tryz.prog cfg c ⟨(mkS n l).set t (.vec len (zs.map l5)),H.set γ ⟨0,false,e,1,zs.map l5,len⟩⟩ Q):g5 Tryz.prog cfg c ⟨mkS n l,H⟩ Q:=by
  subst hz;have hne:zs.map l5≠[]:=fun h0=>by have:=congrArg List.length h0;rw[List.length_map]at this;replace this:=s6z this;omega
  refine g5.uZ (t:=t) (γ:=γ) (len:=zs.length) (e:=e) (K:=1) (g:=0) (zs:=zs.map l5) (by rw[hγ];exact congrArg some (bS hne).symm) (by simp) (by omega) (N4 zs) hx ?_;obtain ⟨z,zs',hzz⟩:=List.exists_cons_of_ne_nil hne;have e1:fG e 1 0 (zs.map l5) (zs.length*1)=⟨0,false,e,1,zs.map l5,zs.length⟩:=by rw[hzz,Nat.mul_one];rfl
  rw[e1];exact r
theorem g5.seenT {c:Code}{H:c6}{Q:Exit→St→Prop}{γ t len n g e:Nat}{l:List (Nat×AV)}{T:List (List Nat)}(hγ:H[γ]?=some ⟨g,false,e,1,n7 T,0⟩)(hz:T.length=len)(hp:0<len)(hx:(mkS n l)[t]?=some (.own γ g 0 len))
    (r:g5 Tryz.prog cfg c ⟨(mkS n l).set t (.vec len (n7 T)),H.set γ ⟨g,false,e,1,n7 T,len⟩⟩ Q):g5 Tryz.prog cfg c ⟨mkS n l,H⟩ Q:=by
  subst hz;have hne:n7 T≠[]:=fun h0=>by have:=congrArg List.length h0;rw[v9]at this;replace this:=s6z this;omega
  refine g5.uZ (t:=t) (γ:=γ) (len:=T.length) (e:=e) (K:=1) (g:=g) (zs:=n7 T) (by rw[hγ];exact congrArg some (bS hne).symm) (by simp[v9]) (by omega) (TK T) hx ?_;obtain ⟨z,zs',hzz⟩:=List.exists_cons_of_ne_nil hne;have e1:fG e 1 g (n7 T) (T.length*1)=⟨g,false,e,1,n7 T,T.length⟩:=by rw[hzz,Nat.mul_one];rfl
  rw[e1];exact r
attribute [local go_sem] rd bR u5 z4 s6 o4 l9 bX v9 Int.natCast_nonneg Int.natCast_inj bV jB gD fA gE fM oN D2 wV jT wW T8 lL sD sE oO List.length_set List.length_replicate Int.toNat_natCast_add_one eT wrap64 M6 List.length_map kJ jD
theorem UK (a b:List Nat)(hl:a.length<1000000):CB 63 [bR a,bR b] h (.bool (decide (a=b))):=by
  refine .bz Tryz.f63 26 ?_;refine c66z ?_;refine u2z ?_ ?_
  ·intro e1 qe1;refine c86z ?_;exact ⟨[],_,(List.append_nil _).symm,t42,t83⟩
  intro e1 qe1;refine .sk ?_;refine c5z ?_;refine .cU (fun m st=>∃(i:Nat),(m=a.length-i∧((∀d,d<i→a.getD d 0=b.getD d 0)∧i≤a.length))∧st=⟨mkS 26 [(0,bR a),(1,bR b),(12,AV.int .i64 ((a.length:Nat):Int)),(13,AV.int .i64 ((i:Nat):Int))],h⟩) _ (.v ⟨0,⟨rfl,⟨t104,by omega⟩⟩,rfl⟩) ?_;rintro m sl h' ⟨i,⟨hm,⟨hI,hi⟩⟩,hst⟩;obtain ⟨rfl,rfl⟩:=St.mk.inj hst;refine c10z ?_;refine u2z ?_ ?_
  ·intro e2 qe2;refine c45z ?_;refine c192z ?_;refine u2z ?_ ?_
   ·intro e3 qe3;refine c86z ?_;exact ⟨[],_,(List.append_nil _).symm,t42,t83⟩
   intro e3 qe3;refine c4z ?_;refine .c7 [0,1,12,13] ?_;refine .rz ?_;exact ⟨_,by omega,.v ⟨(i+1),⟨rfl,⟨(fun d hd=>if e:d=i then by rw[e];omega else hI d (by omega)),by omega⟩⟩,rfl⟩⟩
  intro e2 qe2;refine c92z ?_;exact ⟨[],_,(List.append_nil _).symm,t42,t83⟩
variable {u:Un}{mx:Nat}
theorem c_exitV (hu:WU u)(wc:WC u c)(hmx:mx<u.mutexes.length){S:List (List Nat)}(hS:Tb (kM u mx) c.insts.length S)(hi:i<c.insts.length)(hsv:∀l0,mR u c mx S i (.vec c.insts.length (n7 S)) (h++l0)):CB 62 [.agg [.vec u.globals.length (g8 u.globals),.vec u.mutexes.length (g6 u.mutexes),.vec u.procs.length (g9 u.procs),.int .i64 u.main],.agg [.vec c.insts.length (j5 c.insts),.vec c.calls.length (j9 c.calls),.vec c.roots.length (g8 c.roots)],.int .i64 ((mx:Nat):Int),.vec c.insts.length (n7 S),.int .i64 ((i:Nat):Int)] h (bR (exT u c mx S i)):=by
  refine .bz Tryz.f62 55 ?_;have w:=dX wc hi;have w1:=w.lo;have w2:=w.hi;have hsz:(c5 u (itI c i)).length≤1664:=n8 hu w;have hwl:=wc.len;have hk8:kM u mx≤8:=gR;have hk9:gT (u.mutexes.getD mx s8)≤8:=hk8;have hml:=hu.ml;have hT:=iP (u:=u) (c:=c) (m:=mx) S i;have hTl:(kH u c mx S i).length=u7 u c i:=hT.1;have hli:u7 u c i≤1664:=hsz;have hlc:u7 u c i=(c5 u (itI c i)).length:=rfl;refine .z ?_;refine c24z ?_;refine .ca rfl rfl (BG u mx) ?_;refine c33z ?_;refine .c7 [2,3,4,5,6,11] ?_;refine g5.UJ (t:=11) (γ:=(h.length+2)) (len:=(kM u mx+1)) t23 (by simp) (by omega) (kR (by decide) rfl) ?_;rw[bL];simp only[l8,List.set_cons_succ,List.set_cons_zero];generalize (⟨0,false,3,1,(List.replicate (kM u mx+1) 0).map l5,kM u mx+1⟩:Blk)=Vb;refine c24z ?_;refine .ca rfl rfl (M8 hu wc hmx hS hi (fun l0=>by rw[List.append_assoc];exact hsv _)) ?_;refine c138z ?_;refine .cU (fun m st=>∃(j:Nat),(m=u7 u c i-j∧(j≤u7 u c i))∧st=⟨mkS 55 [(4,AV.int .i64 ((i:Nat):Int)),(5,AV.ptr h.length 0 0),(6,AV.ptr (h.length+1) 0 0),(11,bR (S4 u c mx i (kH u c mx S i) j)),(27,AV.vec (u7 u c i) (n7 (kH u c mx S i))),(28,AV.int .i64 ((u7 u c i:Nat):Int)),(29,AV.int .i64 ((j:Nat):Int))],h++[⟨0,false,30,4,[.vec u.globals.length (g8 u.globals),.vec u.mutexes.length (g6 u.mutexes),.vec u.procs.length (g9 u.procs),.int .i64 u.main],0⟩,⟨0,false,34,3,[.vec c.insts.length (j5 c.insts),.vec c.calls.length (j9 c.calls),.vec c.roots.length (g8 c.roots)],0⟩,Vb]⟩) _ (.v ⟨0,⟨rfl,by omega⟩,rfl⟩ (hs:=t17)) ?_;rintro m sl h' ⟨j,⟨hm,hj⟩,hst⟩;obtain ⟨rfl,rfl⟩:=St.mk.inj hst;have hop:(dP u c i j).op=((c5 u (itI c i)).getD j c8).op:=rfl;refine c10z ?_;refine u2z ?_ ?_
  ·intro e1 qe1;refine c45z ?_;refine c49z ?_;refine u2z ?_ ?_
   ·intro e2 qe2;refine .c7 [4,5,6,11,13,27,28,29] ?_;have hTj:=hT.get (i:=j) (by omega);have hEj:=oJ (u:=u) (c:=c) (m:=mx) i (kH u c mx S i) j;refine .r ?_;refine .e 2 ?_;refine .ca rfl rfl (T3 _ _ (hTj.lt hk8) (hEj.lt hk8) t207 t159) ?_;refine c27z ?_;refine .rz ?_;exact ⟨_,by omega,.v ⟨(j+1),⟨rfl,by omega⟩,rfl⟩ (hs:=t17)⟩
   intro e2 qe2;refine c4z ?_;refine .c7 [4,5,6,11,27,28,29] ?_;refine .rz ?_;exact ⟨_,by omega,.v ⟨(j+1),⟨rfl,by omega⟩,rfl⟩ (hs:=t17)⟩
  intro e1 qe1;refine .exit ?_;obtain rfl:j=u7 u c i:=by omega
  refine c223z ?_;exact .ret (.ex (hq:=by rfl))
theorem c_exitO (hu:WU u)(wc:WC u c)(hmx:mx<u.mutexes.length){S:List (List Nat)}(hS:Tb (kM u mx) c.insts.length S)(hi:i<c.insts.length){β g:Nat}(hsv:∀l0,mR u c mx S i (.own β g 0 c.insts.length) (h++l0)):CB 62 [.agg [.vec u.globals.length (g8 u.globals),.vec u.mutexes.length (g6 u.mutexes),.vec u.procs.length (g9 u.procs),.int .i64 u.main],.agg [.vec c.insts.length (j5 c.insts),.vec c.calls.length (j9 c.calls),.vec c.roots.length (g8 c.roots)],.int .i64 ((mx:Nat):Int),.own β g 0 c.insts.length,.int .i64 ((i:Nat):Int)] h (bR (exT u c mx S i)):=by
  refine .bz Tryz.f62 55 ?_;have w:=dX wc hi;have w1:=w.lo;have w2:=w.hi;have hsz:(c5 u (itI c i)).length≤1664:=n8 hu w;have hwl:=wc.len;have hk8:kM u mx≤8:=gR;have hk9:gT (u.mutexes.getD mx s8)≤8:=hk8;have hml:=hu.ml;have hT:=iP (u:=u) (c:=c) (m:=mx) S i;have hTl:(kH u c mx S i).length=u7 u c i:=hT.1;have hli:u7 u c i≤1664:=hsz;have hlc:u7 u c i=(c5 u (itI c i)).length:=rfl;refine .z ?_;refine c24z ?_;refine .ca rfl rfl (BG u mx) ?_;refine c33z ?_;refine .c7 [2,3,4,5,6,11] ?_;refine g5.UJ (t:=11) (γ:=(h.length+2)) (len:=(kM u mx+1)) t23 (by simp) (by omega) (kR (by decide) rfl) ?_;rw[bL];simp only[l8,List.set_cons_succ,List.set_cons_zero];generalize (⟨0,false,3,1,(List.replicate (kM u mx+1) 0).map l5,kM u mx+1⟩:Blk)=Vb;refine c24z ?_;refine .ca rfl rfl (MI hu wc hmx hS hi (fun l0=>by rw[List.append_assoc];exact hsv _)) ?_;refine c138z ?_;refine .cU (fun m st=>∃(j:Nat),(m=u7 u c i-j∧(j≤u7 u c i))∧st=⟨mkS 55 [(4,AV.int .i64 ((i:Nat):Int)),(5,AV.ptr h.length 0 0),(6,AV.ptr (h.length+1) 0 0),(11,bR (S4 u c mx i (kH u c mx S i) j)),(27,AV.vec (u7 u c i) (n7 (kH u c mx S i))),(28,AV.int .i64 ((u7 u c i:Nat):Int)),(29,AV.int .i64 ((j:Nat):Int))],h++[⟨0,false,30,4,[.vec u.globals.length (g8 u.globals),.vec u.mutexes.length (g6 u.mutexes),.vec u.procs.length (g9 u.procs),.int .i64 u.main],0⟩,⟨0,false,34,3,[.vec c.insts.length (j5 c.insts),.vec c.calls.length (j9 c.calls),.vec c.roots.length (g8 c.roots)],0⟩,Vb]⟩) _ (.v ⟨0,⟨rfl,by omega⟩,rfl⟩ (hs:=t17)) ?_;rintro m sl h' ⟨j,⟨hm,hj⟩,hst⟩;obtain ⟨rfl,rfl⟩:=St.mk.inj hst;have hop:(dP u c i j).op=((c5 u (itI c i)).getD j c8).op:=rfl;refine c10z ?_;refine u2z ?_ ?_
  ·intro e1 qe1;refine c45z ?_;refine c49z ?_;refine u2z ?_ ?_
   ·intro e2 qe2;refine .c7 [4,5,6,11,13,27,28,29] ?_;have hTj:=hT.get (i:=j) (by omega);have hEj:=oJ (u:=u) (c:=c) (m:=mx) i (kH u c mx S i) j;refine .r ?_;refine .e 2 ?_;refine .ca rfl rfl (T3 _ _ (hTj.lt hk8) (hEj.lt hk8) t207 t159) ?_;refine c27z ?_;refine .rz ?_;exact ⟨_,by omega,.v ⟨(j+1),⟨rfl,by omega⟩,rfl⟩ (hs:=t17)⟩
   intro e2 qe2;refine c4z ?_;refine .c7 [4,5,6,11,27,28,29] ?_;refine .rz ?_;exact ⟨_,by omega,.v ⟨(j+1),⟨rfl,by omega⟩,rfl⟩ (hs:=t17)⟩
  intro e1 qe1;refine .exit ?_;obtain rfl:j=u7 u c i:=by omega
  refine c223z ?_;exact .ret (.ex (hq:=by rfl))
theorem c_emptyV (hu:WU u)(wc:WC u c)(hmx:mx<u.mutexes.length):CB 61 [.agg [.vec u.globals.length (g8 u.globals),.vec u.mutexes.length (g6 u.mutexes),.vec u.procs.length (g9 u.procs),.int .i64 u.main],.agg [.vec c.insts.length (j5 c.insts),.vec c.calls.length (j9 c.calls),.vec c.roots.length (g8 c.roots)],.int .i64 ((mx:Nat):Int)] h (.vec c.insts.length (n7 (sP u c mx))):=by
  refine .bz Tryz.f61 31 ?_;have hwl:=wc.len;have hk8:kM u mx≤8:=gR;have hk9:gT (u.mutexes.getD mx s8)≤8:=hk8;have hml:=hu.ml;refine c125z ?_;refine .c7 [2,3,7] ?_;refine c15z ?_;refine .s4 (fun m st=>∃(i:Nat),(m=c.insts.length-i∧(i≤c.insts.length))∧st=⟨mkS 31 [(2,AV.int .i64 ((mx:Nat):Int)),(3,AV.ptr h.length 0 0),(7,AV.own (h.length+2) 0 0 c.insts.length),(14,AV.int .i64 ((c.insts.length:Nat):Int)),(15,AV.int .i64 ((i:Nat):Int))],h++[⟨0,false,30,4,[.vec u.globals.length (g8 u.globals),.vec u.mutexes.length (g6 u.mutexes),.vec u.procs.length (g9 u.procs),.int .i64 u.main],0⟩,⟨0,false,34,3,[.vec c.insts.length (j5 c.insts),.vec c.calls.length (j9 c.calls),.vec c.roots.length (g8 c.roots)],0⟩,⟨0,false,22,1,xK c.insts.length i (List.replicate (kM u mx+1) 0),0⟩]⟩) (.v ⟨0,⟨rfl,by omega⟩,rfl⟩) ?_ (he:=t205);rintro m sl h' ⟨i,⟨hm,hi⟩,hst⟩;obtain ⟨rfl,rfl⟩:=St.mk.inj hst;clear hst;refine c10z ?_;refine u2z ?_ ?_
  ·intro e1 qe1;refine c45z ?_;refine .r ?_;refine .e 7 ?_;refine .ca rfl rfl (BG u mx) ?_;refine c27z ?_;refine .c7 [2,3,7,14,15] ?_;refine g5.EB (β:=h.length+2) (γ:=h.length+3) (A:=n7 (List.replicate i (List.replicate (kM u mx+1) 0))) (R:=List.replicate (c.insts.length-(i+1)) AV.nils) (zs:=(List.replicate (kM u mx+1) 0)) (len:=kM u mx+1) t23 t23 (by simp) (by omega) ?_;refine c14z ?_;exact ⟨_,by omega,.v ⟨(i+1),⟨rfl,by omega⟩,rfl⟩ (he:=t77) (hk:=t179)⟩
  intro e1 qe1;refine .exit ?_;obtain rfl:i=c.insts.length:=by omega
  simp only[qJ];refine c197z ?_;exact ⟨_,_,rfl,S9 t23 (by omega) (by simp),by rfl⟩
theorem UL (hu:WU u)(wc:WC u c)(hmx:mx<u.mutexes.length):CH 61 [.agg [.vec u.globals.length (g8 u.globals),.vec u.mutexes.length (g6 u.mutexes),.vec u.procs.length (g9 u.procs),.int .i64 u.main],.agg [.vec c.insts.length (j5 c.insts),.vec c.calls.length (j9 c.calls),.vec c.roots.length (g8 c.roots)],.int .i64 ((mx:Nat):Int)] h (.own (h.length+2) 0 0 c.insts.length) (h++[⟨0,false,30,4,[.vec u.globals.length (g8 u.globals),.vec u.mutexes.length (g6 u.mutexes),.vec u.procs.length (g9 u.procs),.int .i64 u.main],0⟩,⟨0,false,34,3,[.vec c.insts.length (j5 c.insts),.vec c.calls.length (j9 c.calls),.vec c.roots.length (g8 c.roots)],0⟩,⟨0,false,22,1,n7 (sP u c mx),0⟩]):=by
  refine .wz Tryz.f61 31 ?_;have hwl:=wc.len;have hk8:kM u mx≤8:=gR;have hk9:gT (u.mutexes.getD mx s8)≤8:=hk8;have hml:=hu.ml;refine c125z ?_;refine .c7 [2,3,7] ?_;refine c15z ?_;refine .s4 (fun m st=>∃(i:Nat),(m=c.insts.length-i∧(i≤c.insts.length))∧st=⟨mkS 31 [(2,AV.int .i64 ((mx:Nat):Int)),(3,AV.ptr h.length 0 0),(7,AV.own (h.length+2) 0 0 c.insts.length),(14,AV.int .i64 ((c.insts.length:Nat):Int)),(15,AV.int .i64 ((i:Nat):Int))],h++[⟨0,false,30,4,[.vec u.globals.length (g8 u.globals),.vec u.mutexes.length (g6 u.mutexes),.vec u.procs.length (g9 u.procs),.int .i64 u.main],0⟩,⟨0,false,34,3,[.vec c.insts.length (j5 c.insts),.vec c.calls.length (j9 c.calls),.vec c.roots.length (g8 c.roots)],0⟩,⟨0,false,22,1,xK c.insts.length i (List.replicate (kM u mx+1) 0),0⟩]⟩) (.v ⟨0,⟨rfl,by omega⟩,rfl⟩) ?_ (he:=t205);rintro m sl h' ⟨i,⟨hm,hi⟩,hst⟩;obtain ⟨rfl,rfl⟩:=St.mk.inj hst;clear hst;refine c10z ?_;refine u2z ?_ ?_
  ·intro e1 qe1;refine c45z ?_;refine .r ?_;refine .e 7 ?_;refine .ca rfl rfl (BG u mx) ?_;refine c27z ?_;refine .c7 [2,3,7,14,15] ?_;refine g5.EB (β:=h.length+2) (γ:=h.length+3) (A:=n7 (List.replicate i (List.replicate (kM u mx+1) 0))) (R:=List.replicate (c.insts.length-(i+1)) AV.nils) (zs:=(List.replicate (kM u mx+1) 0)) (len:=kM u mx+1) t23 t23 (by simp) (by omega) ?_;refine c14z ?_;exact ⟨_,by omega,.v ⟨(i+1),⟨rfl,by omega⟩,rfl⟩ (he:=t77) (hk:=t179)⟩
  intro e1 qe1;refine .exit ?_;obtain rfl:i=c.insts.length:=by omega
  simp only[qJ];refine c197z ?_;exact ⟨_,[],_,(List.append_nil _).symm,by simp,u6.new (fun b hb=>by replace hb:=s7z hb;rcases hb with rfl | rfl | rfl;exact plnU u;exact plnC c;exact TK _),frz_old (by simp),by exact ⟨rfl,rfl⟩⟩
theorem c_of (hu:WU u)(wc:WC u c)(hmx:mx<u.mutexes.length):CB 23 [.agg [.vec u.globals.length (g8 u.globals),.vec u.mutexes.length (g6 u.mutexes),.vec u.procs.length (g9 u.procs),.int .i64 u.main],.agg [.vec c.insts.length (j5 c.insts),.vec c.calls.length (j9 c.calls),.vec c.roots.length (g8 c.roots)],.int .i64 ((mx:Nat):Int)] h (.vec c.insts.length (n7 (cR u c mx))):=by
  refine .bz Tryz.f23 41 ?_;have hwl:=wc.len;have hk8:kM u mx≤8:=gR;have hk9:gT (u.mutexes.getD mx s8)≤8:=hk8;have hml:=hu.ml;refine c91z ?_;refine .ch rfl rfl (UL hu wc hmx) ?_;refine .n ?_;refine c5z ?_;refine .s4 (fun m st=>∃(Sx:List (List Nat)) (ag:Bool),(m=UF c.insts.length Sx ag∧(Low u c mx Sx∧(ag=false→Sx=cR u c mx)))∧st=⟨mkS 41 [(2,AV.int .i64 ((mx:Nat):Int)),(3,AV.ptr h.length 0 0),(4,AV.ptr (h.length+1) 0 0),(7,AV.own (h.length+4) 0 0 c.insts.length),(8,AV.bool ag)],h++[⟨0,false,30,4,[.vec u.globals.length (g8 u.globals),.vec u.mutexes.length (g6 u.mutexes),.vec u.procs.length (g9 u.procs),.int .i64 u.main],0⟩,⟨0,false,34,3,[.vec c.insts.length (j5 c.insts),.vec c.calls.length (j9 c.calls),.vec c.roots.length (g8 c.roots)],0⟩,⟨0,false,30,4,[.vec u.globals.length (g8 u.globals),.vec u.mutexes.length (g6 u.mutexes),.vec u.procs.length (g9 u.procs),.int .i64 u.main],0⟩,⟨0,false,34,3,[.vec c.insts.length (j5 c.insts),.vec c.calls.length (j9 c.calls),.vec c.roots.length (g8 c.roots)],0⟩,⟨0,false,22,1,n7 Sx,0⟩]⟩) (.v ⟨(sP u c mx),true,⟨rfl,⟨Low.zero,fun h=>by cases h⟩⟩,rfl⟩) ?_ (he:=t173);rintro m sl h' ⟨Sx,ag,⟨hm,⟨hL,hdone⟩⟩,hst⟩;obtain ⟨rfl,rfl⟩:=St.mk.inj hst;clear hst;refine c0z ?_;refine u2z ?_ ?_
  ·intro e1 qe1;refine c123z ?_;have hag:ag=true:=by assumption
   subst hag;refine .z ?_;refine c15z ?_;refine .s4 (fun m st=>∃(S1:List (List Nat)) (a1:Bool) (i:Nat),(m=i∧(OfI u c mx Sx S1 a1 i∧i≤c.insts.length))∧st=⟨mkS 41 [(2,AV.int .i64 ((mx:Nat):Int)),(3,AV.ptr h.length 0 0),(4,AV.ptr (h.length+1) 0 0),(7,AV.own (h.length+4) 0 0 c.insts.length),(8,AV.bool a1),(9,AV.int .i64 (((i:Nat):Int)-1))],h++[⟨0,false,30,4,[.vec u.globals.length (g8 u.globals),.vec u.mutexes.length (g6 u.mutexes),.vec u.procs.length (g9 u.procs),.int .i64 u.main],0⟩,⟨0,false,34,3,[.vec c.insts.length (j5 c.insts),.vec c.calls.length (j9 c.calls),.vec c.roots.length (g8 c.roots)],0⟩,⟨0,false,30,4,[.vec u.globals.length (g8 u.globals),.vec u.mutexes.length (g6 u.mutexes),.vec u.procs.length (g9 u.procs),.int .i64 u.main],0⟩,⟨0,false,34,3,[.vec c.insts.length (j5 c.insts),.vec c.calls.length (j9 c.calls),.vec c.roots.length (g8 c.roots)],0⟩,⟨0,false,22,1,n7 S1,0⟩]⟩) (.v ⟨Sx,false,c.insts.length,⟨rfl,⟨OfI.start hL,Nat.le_refl _⟩⟩,rfl⟩) ?_;rintro m sl h' ⟨S1,a1,i,⟨hm,⟨hO,hi⟩⟩,hst⟩;obtain ⟨rfl,rfl⟩:=St.mk.inj hst;clear hst;have hS1:S1.length=c.insts.length:=hO.low.tb.1;refine c0z ?_;refine u2z ?_ ?_
   ·intro e2 qe2;refine c3z ?_;obtain ⟨i,rfl⟩:∃i',i=i'+1:=⟨i-1,by omega⟩;simp only[M6];refine c24z ?_;refine .ca rfl rfl (c_exitO hu wc hmx hO.low.tb (show i<c.insts.length by omega) (fun l0=>EE hu wc hmx hO.low.tb (show i<c.insts.length by omega) (β:=h.length+4) (g:=0) t23 l0)) ?_;refine .n ?_;refine .c7 [2,3,4,7,8,9,10] ?_;refine c24z ?_;refine .ca rfl rfl (UK _ _ (by have:=(L9 (u:=u) (c:=c) (m:=mx) S1 i).1;omega)) ?_;refine .n ?_;refine u2z ?_ ?_
    ·intro e3 qe3;refine .c7 [2,3,4,7,9,10] ?_;refine c52z ?_;exact ⟨_,by omega,.v ⟨(S1.set i (exT u c mx S1 i)),true,i,⟨rfl,⟨hO.set hu wc (by omega) (by assumption),by omega⟩⟩,rfl⟩ (hk:=t101)⟩
    intro e3 qe3;refine c4z ?_;refine .c7 [2,3,4,7,8,9] ?_;refine .rz ?_;exact ⟨_,by omega,.v ⟨S1,a1,i,⟨rfl,⟨hO.same (by assumption),by omega⟩⟩,rfl⟩ (hk:=t101)⟩
   intro e2 qe2;refine .exit ?_;obtain rfl:i=0:=by omega
   have hlt:=mOf_lt hO;exact ⟨_,by omega,.v ⟨S1,a1,⟨rfl,⟨hO.low,fun h=>by subst h;exact hO.done hu wc⟩⟩,rfl⟩ (hk:=t101)⟩
  intro e1 qe1;refine c92z ?_;exact ⟨_,_,rfl,S9 t23 (by omega) hL.tb.1,by (rw[hdone (by assumption)])⟩
def roundsN (n:Int):Nat:=(min (max n 0) 100).toNat
def BH (n i:Nat)(T:List (List Nat)):List AV:=n7 (T.take i)++List.replicate (n-i) AV.nils
variable {T:List (List Nat)}
theorem MJ:BH n 0 T=List.replicate n AV.nils:=by simp[BH,n7]
theorem MK (N:Nat):∀x∈BH n i T,Refs N x:=fun x hx=>by
  rcases List.mem_append.1 hx with hx | hx
  · exact (TK _).refs _ x hx
  · rw[List.eq_of_mem_replicate hx];exact .nils
theorem UM (h:T.length=n):BH n n T=n7 T:=by rw[BH,List.take_of_length_le (by omega),Nat.sub_self];simp
theorem ML {r:List Nat}(h:T.length=n)(hi:i<n)(hr:T.getD i []=r):n7 (T.take i)++AV.vec r.length (r.map l5)::List.replicate (n-(i+1)) AV.nils=BH n (i+1) T:=by
  rw[BH,List.take_add_one,List.getElem?_eq_getElem (by omega)];have e:T[i]=r:=by rw[←hr];simp[List.getD,show i<T.length from by omega]
  rw[e];simp[n7,bR]
theorem overN {x:AV}(h:T.length=n)(hi:i<n):List.take i (BH n i T)++x::List.drop (i+1) (BH n i T)=n7 (T.take i)++x::List.replicate (n-(i+1)) AV.nils:=by
  have hl:(n7 (T.take i)).length=i:=by rw[v9,List.length_take];omega
  rw[BH,List.take_append_of_le_length (by omega),List.take_of_length_le (by omega),List.drop_append,List.drop_of_length_le (by omega),hl,List.nil_append,List.drop_replicate,show n-i-(i+1-i)=n-(i+1) from by omega]
theorem D6 (h:T.length=n)(hi:i≤n):(BH n i T).length=n:=by rw[BH,List.length_append,v9,List.length_take,List.length_replicate];omega
attribute [local go_sem] overN D6
end Go.Proofs.YtonbocmibeikmaaGreat
end
section
namespace Go.Proofs.YtonbocmibeikmaaGreat
open Go.Ab Go.Un
def jU (A:c6)(B:Blk)(R:c6):c6:=A++B::R
variable {A R:c6}{B:Blk}
theorem qK {l:c6}:(jU A B R++l)[A.length]?=some B:=by unfold jU;rw[List.append_assoc,List.getElem?_append_right (Nat.le_refl _),Nat.sub_self];rfl
@[simp] theorem midH_len {A R:c6} {B:Blk}:(jU A B R).length=A.length+1+R.length:=by unfold jU;simp;omega
theorem UN {l:c6}:jU A B R++l=jU A B (R++l):=by unfold jU;rw[List.append_assoc,List.cons_append]
theorem midH_of {H:c6}{β:Nat}(h:H[β]?=some B):∃A R,H=jU A B R∧A.length=β:=by obtain ⟨hlt,hget⟩:=List.getElem?_eq_some_iff.1 h;exact ⟨H.take β,H.drop (β+1),by rw[jU,←hget,←List.drop_eq_getElem_cons hlt,List.take_append_drop],by rw[List.length_take];omega⟩
variable {h:c6}
theorem MM (u:Un)(mx:Nat):CB 43 [.agg [.str (u.mutexes.getD mx s8).name,.bool (u.mutexes.getD mx s8).re,.int .i64 (u.mutexes.getD mx s8).size]] h (.int .i64 ((kM u mx:Nat):Int)):=AP _
theorem BI (k:Nat)(hk:k≤8):CB 79 [.int .i64 ((k:Nat):Int),.int .i64 0] h (bR (dhN k 0)):=
  (KG k 0 hk (by omega) (by omega)).mono fun y k hq=>⟨hq.1.trans (AU _ _),hq.2⟩
variable {u:Un}{c:Clo}{mx i:Nat}
theorem MN (hu:WU u)(wc:WC u c)(hmx:mx<u.mutexes.length)(hi:i<c.insts.length){pc:Nat}(hp:pc<u7 u c i):CB 80 [.agg [.vec u.globals.length (g8 u.globals),.vec u.mutexes.length (g6 u.mutexes),.vec u.procs.length (g9 u.procs),.int .i64 u.main],.agg [.int .i64 (itI c i).proc,.vec (itI c i).j7.length (g8 (itI c i).j7)],.int .i64 ((pc:Nat):Int),.int .i64 ((mx:Nat):Int)] h (bR (dhN (kM u mx) (chI (itI c i) (dP u c i pc) mx))):=
  (c_relR hu (dX wc hi) hp hmx).mono fun y k hq=>⟨hq.1.trans (AU _ _),hq.2⟩
theorem UO (hu:WU u){it:w6}(w:WIt u it){pc:Nat}(hpc:pc<(c5 u it).length):CB 26 [.agg [.vec u.globals.length (g8 u.globals),.vec u.mutexes.length (g6 u.mutexes),.vec u.procs.length (g9 u.procs),.int .i64 u.main],.agg [.int .i64 it.proc,.vec it.j7.length (g8 it.j7)],.int .i64 ((pc:Nat):Int)] h (.vec (n9 ((c5 u it).getD pc c8) pc).length (g8 (n9 ((c5 u it).getD pc c8) pc))):=KL hu w hpc
attribute [local go_sem] rd bR u5 z4 s6 o4 l9 bX v9 Int.natCast_nonneg Int.natCast_inj bV gD fA gE fM oN D2 wV jT wW T8 lL sD sE oO List.length_set List.length_replicate Int.toNat_natCast_add_one eT wrap64 M6 List.length_map kJ jD qK
variable {S:List (List Nat)}
theorem wY (hu:WU u)(wc:WC u c)(hmx:mx<u.mutexes.length)(hS:Tb (kM u mx) c.insts.length S)(hi:i<c.insts.length):CB 57 [.agg [.vec u.globals.length (g8 u.globals),.vec u.mutexes.length (g6 u.mutexes),.vec u.procs.length (g9 u.procs),.int .i64 u.main],.agg [.vec c.insts.length (j5 c.insts),.vec c.calls.length (j9 c.calls),.vec c.roots.length (g8 c.roots)],.int .i64 ((mx:Nat):Int),.vec c.insts.length (n7 S),.int .i64 ((i:Nat):Int)] h (.vec (u7 u c i) (n7 (kH u c mx S i))):=by
  refine .bz Tryz.f57 136 ?_;have w:=dX wc hi;have w1:=w.lo;have w2:=w.hi;have hsz:(c5 u (itI c i)).length≤1664:=n8 hu w;have hwl:=wc.len;have hk8:kM u mx≤8:=gR;have hk9:gT (u.mutexes.getD mx s8)≤8:=hk8;have hml:=hu.ml;have p:Pro (kM u mx) (c5 u (itI c i)).length (nxI u c i) (stS u c mx S i):=TD hu wc hS hi;have hps:=p.pos;have hcl:=wc.cl;have hcll:(c.calls.getD i []).length=(c5 u (itI c i)).length:=wc.cll i hi;have hSl:=hS.1;have hcall:∀pc,pc<(c5 u (itI c i)).length→(dP u c i pc).op=2→0≤(c.calls.getD i []).getD pc 0∧(c.calls.getD i []).getD pc 0<c.insts.length:=fun pc hp ho=>by have:=(wc.call i hi pc hp).1 (.inl ho);exact ⟨this.1,this.2.1⟩
  refine c78z ?_;refine .c7 [2,3,4,5,6,11] ?_;refine c209z ?_;refine .n ?_;refine c260z ?_;refine .c7 [2,3,4,5,6,11,12,13] ?_;refine c15z ?_;refine .s4 (fun m st=>∃(j:Nat),(m=(c5 u (itI c i)).length-j∧(j≤(c5 u (itI c i)).length))∧st=⟨mkS 136 [(2,AV.int .i64 ((mx:Nat):Int)),(3,AV.vec c.insts.length (n7 S)),(4,AV.int .i64 ((i:Nat):Int)),(5,AV.ptr h.length 0 0),(6,AV.ptr (h.length+1) 0 0),(11,AV.ptr (h.length+2) 0 0),(12,AV.int .i64 (((kM u mx):Nat):Int)),(13,AV.own (h.length+3) 0 0 (c5 u (itI c i)).length),(14,AV.int .i64 ((j:Nat):Int))],h++[⟨0,false,30,4,[.vec u.globals.length (g8 u.globals),.vec u.mutexes.length (g6 u.mutexes),.vec u.procs.length (g9 u.procs),.int .i64 u.main],0⟩,⟨0,false,34,3,[.vec c.insts.length (j5 c.insts),.vec c.calls.length (j9 c.calls),.vec c.roots.length (g8 c.roots)],0⟩,⟨0,false,46,2,[.int .i64 (itI c i).proc,.vec (itI c i).j7.length (g8 (itI c i).j7)],0⟩,⟨0,false,22,1,xK (c5 u (itI c i)).length j (List.replicate (kM u mx+1) 0),0⟩]⟩) (.v ⟨0,⟨rfl,by omega⟩,rfl⟩) ?_ (he:=t205);rintro m sl h' ⟨j,⟨hm,hj⟩,hst⟩;obtain ⟨rfl,rfl⟩:=St.mk.inj hst;clear hst;refine c0z ?_;refine u2z ?_ ?_
  ·intro e1 qe1;refine c3z ?_;refine c1z ?_;refine .c7 [2,3,4,5,6,11,12,13,14] ?_;refine g5.EB (β:=h.length+3) (γ:=h.length+4) (A:=n7 (List.replicate j (List.replicate (kM u mx+1) 0))) (R:=List.replicate ((c5 u (itI c i)).length-(j+1)) AV.nils) (zs:=(List.replicate (kM u mx+1) 0)) (len:=kM u mx+1) t23 t23 (by simp) (by omega) ?_;refine c14z ?_;exact ⟨_,by omega,.v ⟨(j+1),⟨rfl,by omega⟩,rfl⟩ (he:=t77) (hk:=t167)⟩
  intro e1 qe1;refine .exit ?_;obtain rfl:j=(c5 u (itI c i)).length:=by omega
  simp only[qJ];change g5 ..;refine c34z ?_;refine .ca rfl rfl (BI _ hk8) ?_;refine c33z ?_;refine .c7 [2,3,4,5,6,11,13] ?_;refine c15z ?_;refine .s4 (fun m st=>∃(T:List (List Nat)) (ag:Bool),(m=UF (c5 u (itI c i)).length T ag∧(Gro (kM u mx) (c5 u (itI c i)).length (nxI u c i) (stS u c mx S i) T∧(ag=false→T=dM (kM u mx) (c5 u (itI c i)).length (nxI u c i) (stS u c mx S i))))∧st=⟨mkS 136 [(2,AV.int .i64 ((mx:Nat):Int)),(3,AV.vec c.insts.length (n7 S)),(4,AV.int .i64 ((i:Nat):Int)),(5,AV.ptr h.length 0 0),(6,AV.ptr (h.length+1) 0 0),(11,AV.ptr (h.length+2) 0 0),(13,AV.own (h.length+3) 0 0 (c5 u (itI c i)).length),(15,AV.bool ag)],h++[⟨0,false,30,4,[.vec u.globals.length (g8 u.globals),.vec u.mutexes.length (g6 u.mutexes),.vec u.procs.length (g9 u.procs),.int .i64 u.main],0⟩,⟨0,false,34,3,[.vec c.insts.length (j5 c.insts),.vec c.calls.length (j9 c.calls),.vec c.roots.length (g8 c.roots)],0⟩,⟨0,false,46,2,[.int .i64 (itI c i).proc,.vec (itI c i).j7.length (g8 (itI c i).j7)],0⟩,⟨0,false,22,1,n7 T,0⟩]⟩) (.v ⟨((List.replicate (c5 u (itI c i)).length (List.replicate (kM u mx+1) 0)).set 0 (dhN (kM u mx) 0)),true,⟨rfl,⟨Gro.start p,fun hf=>by cases hf⟩⟩,rfl⟩) ?_;rintro m sl h' ⟨T,ag,⟨hm,⟨hG,hdone⟩⟩,hst⟩;obtain ⟨rfl,rfl⟩:=St.mk.inj hst;clear hst;refine c0z ?_;refine u2z ?_ ?_
  ·intro e2 qe2;refine c123z ?_;have hag:ag=true:=by assumption
   subst hag;refine .z ?_;refine c15z ?_;refine .s4 (fun m st=>∃(T1:List (List Nat)) (a1:Bool) (pc:Nat),(m=(c5 u (itI c i)).length-pc∧(EN (kM u mx) (c5 u (itI c i)).length (nxI u c i) (stS u c mx S i) T T1 a1 pc∧pc≤(c5 u (itI c i)).length))∧st=⟨mkS 136 [(2,AV.int .i64 ((mx:Nat):Int)),(3,AV.vec c.insts.length (n7 S)),(4,AV.int .i64 ((i:Nat):Int)),(5,AV.ptr h.length 0 0),(6,AV.ptr (h.length+1) 0 0),(11,AV.ptr (h.length+2) 0 0),(13,AV.own (h.length+3) 0 0 (c5 u (itI c i)).length),(15,AV.bool a1),(16,AV.int .i64 ((pc:Nat):Int))],h++[⟨0,false,30,4,[.vec u.globals.length (g8 u.globals),.vec u.mutexes.length (g6 u.mutexes),.vec u.procs.length (g9 u.procs),.int .i64 u.main],0⟩,⟨0,false,34,3,[.vec c.insts.length (j5 c.insts),.vec c.calls.length (j9 c.calls),.vec c.roots.length (g8 c.roots)],0⟩,⟨0,false,46,2,[.int .i64 (itI c i).proc,.vec (itI c i).j7.length (g8 (itI c i).j7)],0⟩,⟨0,false,22,1,n7 T1,0⟩]⟩) (.v ⟨T,false,0,⟨rfl,⟨EN.start hG,by omega⟩⟩,rfl⟩) ?_;rintro m sl h' ⟨T1,a1,pc,⟨hm,⟨hP,hpl⟩⟩,hst⟩;obtain ⟨rfl,rfl⟩:=St.mk.inj hst;clear hst;have hT1:T1.length=(c5 u (itI c i)).length:=hP.g.tb.1;refine c0z ?_;refine u2z ?_ ?_
   ·intro e3 qe3;refine c3z ?_;have hpc:pc<(c5 u (itI c i)).length:=by omega
    have hop:dP u c i pc=(c5 u (itI c i)).getD pc c8:=rfl;refine c26z ?_;refine .ca rfl rfl (MN hu wc hmx hi (show pc<u7 u c i by show pc<(c5 u (itI c i)).length;omega)) ?_;refine c33z ?_;refine .c7 [2,3,4,5,6,11,13,15,16,17] ?_;refine c124z ?_;refine u2z ?_ ?_
    ·intro e4 qe4;refine .c7 [2,3,4,5,6,11,13,15,16] ?_;obtain ⟨hc1,hc2⟩:=hcall pc hpc (by rw[hop];omega);refine c106z ?_;refine .c7 [2,3,4,5,6,11,13,15,16,17] ?_;have hst2:S.getD ((c.calls.getD i []).getD pc 0).toNat []=stS u c mx S i pc:=by unfold stS;rw[if_pos (show (dP u c i pc).op=2 from by rw[hop];omega)];first | done | rfl
     rw[hst2];have hst1:=p.st pc hpc;have hTp:=hP.g.tb.get hpc;obtain ⟨hR,hle⟩:=hP.g.aft p hpc;have hnl:=dW (x:=(c5 u (itI c i)).getD pc c8) (pc:=pc);refine c101z ?_;refine c181z ?_;refine c137z ?_;refine c15z ?_;refine .s4 (fun m st=>∃(T2:List (List Nat)) (a2:Bool) (j:Nat),(m=(n9 ((c5 u (itI c i)).getD pc c8) pc).length-j∧(DZ (kM u mx) (c5 u (itI c i)).length (nxI u c i) (stS u c mx S i) T T2 a2 pc (T1.getD pc []) j∧j≤(n9 ((c5 u (itI c i)).getD pc c8) pc).length))∧st=⟨mkS 136 [(2,AV.int .i64 ((mx:Nat):Int)),(3,AV.vec c.insts.length (n7 S)),(4,AV.int .i64 ((i:Nat):Int)),(5,AV.ptr h.length 0 0),(6,AV.ptr (h.length+1) 0 0),(11,AV.ptr (h.length+2) 0 0),(13,AV.own (h.length+3) 0 0 (c5 u (itI c i)).length),(15,AV.bool a2),(16,AV.int .i64 ((pc:Nat):Int)),(18,bR (o6 (T1.getD pc []) (stS u c mx S i pc))),(19,AV.vec (n9 ((c5 u (itI c i)).getD pc c8) pc).length (g8 (n9 ((c5 u (itI c i)).getD pc c8) pc))),(20,AV.int .i64 ((j:Nat):Int))],h++[⟨0,false,30,4,[.vec u.globals.length (g8 u.globals),.vec u.mutexes.length (g6 u.mutexes),.vec u.procs.length (g9 u.procs),.int .i64 u.main],0⟩,⟨0,false,34,3,[.vec c.insts.length (j5 c.insts),.vec c.calls.length (j9 c.calls),.vec c.roots.length (g8 c.roots)],0⟩,⟨0,false,46,2,[.int .i64 (itI c i).proc,.vec (itI c i).j7.length (g8 (itI c i).j7)],0⟩,⟨0,false,22,1,n7 T2,0⟩]⟩) (.v ⟨T1,a1,0,⟨rfl,⟨hP.go,by omega⟩⟩,rfl⟩) ?_;rintro m sl h' ⟨T2,a2,j,⟨hm,⟨hQ,hj⟩⟩,hst⟩;obtain ⟨rfl,rfl⟩:=St.mk.inj hst;clear hst;have hT2:T2.length=(c5 u (itI c i)).length:=hQ.g.tb.1;refine c0z ?_;refine u2z ?_ ?_
     ·intro e5 qe5;refine c3z ?_;obtain ⟨hq1,hq2⟩:=p.nx pc hpc _ (j4 (d:=0) (show j<(nxI u c i pc).length from by show j<(n9 ((c5 u (itI c i)).getD pc c8) pc).length;omega));rw[show nxI u c i pc=(n9 ((c5 u (itI c i)).getD pc c8) pc) from rfl]at hq1 hq2;have hjn:j<(nxI u c i pc).length:=by show j<(n9 ((c5 u (itI c i)).getD pc c8) pc).length;omega
      have hq3:((n9 ((c5 u (itI c i)).getD pc c8) pc).getD j 0).toNat<(c5 u (itI c i)).length:=by omega
      have hRq:=hQ.g.tb.get hq3;refine c112z ?_;refine .n ?_;refine c188z ?_;refine .n ?_;refine u2z ?_ ?_
      ·intro e6 qe6;refine c133z ?_;refine c44z ?_;exact ⟨_,by omega,.v ⟨(T2.set ((n9 ((c5 u (itI c i)).getD pc c8) pc).getD j 0).toNat (cJ (T2.getD ((n9 ((c5 u (itI c i)).getD pc c8) pc).getD j 0).toNat []) (o6 (T1.getD pc []) (stS u c mx S i pc)))),true,(j+1),⟨rfl,⟨hQ.grow p hpc hR hle hjn rfl (fun hs=>absurd ((aJ hRq hR).2 hs) (by assumption)),by omega⟩⟩,rfl⟩ (he:=t12) (hk:=t33)⟩
      intro e6 qe6;refine c4z ?_;refine c44z ?_;exact ⟨_,by omega,.v ⟨T2,a2,(j+1),⟨rfl,⟨hQ.skip ((aJ hRq hR).1 (by assumption)),by omega⟩⟩,rfl⟩ (he:=t12) (hk:=t33)⟩
     intro e5 qe5;refine .exit ?_;obtain rfl:j=(n9 ((c5 u (itI c i)).getD pc c8) pc).length:=by omega
     change g5 ..;refine .rz ?_;exact ⟨_,by omega,.v ⟨T2,a2,(pc+1),⟨rfl,⟨hQ.fin,by omega⟩⟩,rfl⟩ (he:=t12) (hk:=t33)⟩
    intro e4 qe4;refine .sk ?_;refine .c7 [2,3,4,5,6,11,13,15,16,17] ?_;have hst2:dhN (kM u mx) (chI (itI c i) (dP u c i pc) mx)=stS u c mx S i pc:=by unfold stS;rw[if_neg (show ¬(dP u c i pc).op=2 from by rw[hop];omega)];first | done | rfl
    rw[hst2];have hst1:=p.st pc hpc;have hTp:=hP.g.tb.get hpc;obtain ⟨hR,hle⟩:=hP.g.aft p hpc;have hnl:=dW (x:=(c5 u (itI c i)).getD pc c8) (pc:=pc);refine c101z ?_;refine c181z ?_;refine c137z ?_;refine c15z ?_;refine .s4 (fun m st=>∃(T2:List (List Nat)) (a2:Bool) (j:Nat),(m=(n9 ((c5 u (itI c i)).getD pc c8) pc).length-j∧(DZ (kM u mx) (c5 u (itI c i)).length (nxI u c i) (stS u c mx S i) T T2 a2 pc (T1.getD pc []) j∧j≤(n9 ((c5 u (itI c i)).getD pc c8) pc).length))∧st=⟨mkS 136 [(2,AV.int .i64 ((mx:Nat):Int)),(3,AV.vec c.insts.length (n7 S)),(4,AV.int .i64 ((i:Nat):Int)),(5,AV.ptr h.length 0 0),(6,AV.ptr (h.length+1) 0 0),(11,AV.ptr (h.length+2) 0 0),(13,AV.own (h.length+3) 0 0 (c5 u (itI c i)).length),(15,AV.bool a2),(16,AV.int .i64 ((pc:Nat):Int)),(18,bR (o6 (T1.getD pc []) (stS u c mx S i pc))),(19,AV.vec (n9 ((c5 u (itI c i)).getD pc c8) pc).length (g8 (n9 ((c5 u (itI c i)).getD pc c8) pc))),(20,AV.int .i64 ((j:Nat):Int))],h++[⟨0,false,30,4,[.vec u.globals.length (g8 u.globals),.vec u.mutexes.length (g6 u.mutexes),.vec u.procs.length (g9 u.procs),.int .i64 u.main],0⟩,⟨0,false,34,3,[.vec c.insts.length (j5 c.insts),.vec c.calls.length (j9 c.calls),.vec c.roots.length (g8 c.roots)],0⟩,⟨0,false,46,2,[.int .i64 (itI c i).proc,.vec (itI c i).j7.length (g8 (itI c i).j7)],0⟩,⟨0,false,22,1,n7 T2,0⟩]⟩) (.v ⟨T1,a1,0,⟨rfl,⟨hP.go,by omega⟩⟩,rfl⟩) ?_;rintro m sl h' ⟨T2,a2,j,⟨hm,⟨hQ,hj⟩⟩,hst⟩;obtain ⟨rfl,rfl⟩:=St.mk.inj hst;clear hst;have hT2:T2.length=(c5 u (itI c i)).length:=hQ.g.tb.1;refine c0z ?_;refine u2z ?_ ?_
    ·intro e7 qe7;refine c3z ?_;obtain ⟨hq1,hq2⟩:=p.nx pc hpc _ (j4 (d:=0) (show j<(nxI u c i pc).length from by show j<(n9 ((c5 u (itI c i)).getD pc c8) pc).length;omega));rw[show nxI u c i pc=(n9 ((c5 u (itI c i)).getD pc c8) pc) from rfl]at hq1 hq2;have hjn:j<(nxI u c i pc).length:=by show j<(n9 ((c5 u (itI c i)).getD pc c8) pc).length;omega
     have hq3:((n9 ((c5 u (itI c i)).getD pc c8) pc).getD j 0).toNat<(c5 u (itI c i)).length:=by omega
     have hRq:=hQ.g.tb.get hq3;refine c112z ?_;refine .n ?_;refine c188z ?_;refine .n ?_;refine u2z ?_ ?_
     ·intro e8 qe8;refine c133z ?_;refine c44z ?_;exact ⟨_,by omega,.v ⟨(T2.set ((n9 ((c5 u (itI c i)).getD pc c8) pc).getD j 0).toNat (cJ (T2.getD ((n9 ((c5 u (itI c i)).getD pc c8) pc).getD j 0).toNat []) (o6 (T1.getD pc []) (stS u c mx S i pc)))),true,(j+1),⟨rfl,⟨hQ.grow p hpc hR hle hjn rfl (fun hs=>absurd ((aJ hRq hR).2 hs) (by assumption)),by omega⟩⟩,rfl⟩ (he:=t12) (hk:=t33)⟩
     intro e8 qe8;refine c4z ?_;refine c44z ?_;exact ⟨_,by omega,.v ⟨T2,a2,(j+1),⟨rfl,⟨hQ.skip ((aJ hRq hR).1 (by assumption)),by omega⟩⟩,rfl⟩ (he:=t12) (hk:=t33)⟩
    intro e7 qe7;refine .exit ?_;obtain rfl:j=(n9 ((c5 u (itI c i)).getD pc c8) pc).length:=by omega
    change g5 ..;refine .rz ?_;exact ⟨_,by omega,.v ⟨T2,a2,(pc+1),⟨rfl,⟨hQ.fin,by omega⟩⟩,rfl⟩ (he:=t12) (hk:=t33)⟩
   intro e3 qe3;refine .exit ?_;obtain rfl:pc=(c5 u (itI c i)).length:=by omega
   have hlt:=MC hk8 hP;exact ⟨_,by omega,.v ⟨T1,a1,⟨rfl,⟨hP.g,fun hf=>by subst hf;exact hP.done p⟩⟩,rfl⟩ (he:=t12) (hk:=t33)⟩
  intro e2 qe2;refine c6z ?_;refine .c7 [13] ?_;refine c17z ?_;exact ⟨_,_,rfl,S9 t23 (by omega) hG.tb.1,by (show _=_;rw[hdone (by assumption)];rfl)⟩
theorem MO {g:Nat}(hu:WU u)(wc:WC u c)(hmx:mx<u.mutexes.length)(hS:Tb (kM u mx) c.insts.length S)(hi:i<c.insts.length):CB 57 [.agg [.vec u.globals.length (g8 u.globals),.vec u.mutexes.length (g6 u.mutexes),.vec u.procs.length (g9 u.procs),.int .i64 u.main],.agg [.vec c.insts.length (j5 c.insts),.vec c.calls.length (j9 c.calls),.vec c.roots.length (g8 c.roots)],.int .i64 ((mx:Nat):Int),.own A.length g 0 c.insts.length,.int .i64 ((i:Nat):Int)] (jU A ⟨g,false,22,1,n7 S,0⟩ R) (.vec (u7 u c i) (n7 (kH u c mx S i))):=by
  refine .bz Tryz.f57 136 ?_;have w:=dX wc hi;have w1:=w.lo;have w2:=w.hi;have hsz:(c5 u (itI c i)).length≤1664:=n8 hu w;have hwl:=wc.len;have hk8:kM u mx≤8:=gR;have hk9:gT (u.mutexes.getD mx s8)≤8:=hk8;have hml:=hu.ml;have p:Pro (kM u mx) (c5 u (itI c i)).length (nxI u c i) (stS u c mx S i):=TD hu wc hS hi;have hps:=p.pos;have hcl:=wc.cl;have hcll:(c.calls.getD i []).length=(c5 u (itI c i)).length:=wc.cll i hi;have hSl:=hS.1;have hcall:∀pc,pc<(c5 u (itI c i)).length→(dP u c i pc).op=2→0≤(c.calls.getD i []).getD pc 0∧(c.calls.getD i []).getD pc 0<c.insts.length:=fun pc hp ho=>by have:=(wc.call i hi pc hp).1 (.inl ho);exact ⟨this.1,this.2.1⟩
  refine c78z ?_;refine .c7 [2,3,4,5,6,11] ?_;refine c209z ?_;refine .n ?_;refine c260z ?_;refine .c7 [2,3,4,5,6,11,12,13] ?_;refine c15z ?_;refine .s4 (fun m st=>∃(j:Nat),(m=(c5 u (itI c i)).length-j∧(j≤(c5 u (itI c i)).length))∧st=⟨mkS 136 [(2,AV.int .i64 ((mx:Nat):Int)),(3,AV.own A.length g 0 c.insts.length),(4,AV.int .i64 ((i:Nat):Int)),(5,AV.ptr (jU A ⟨g,false,22,1,n7 S,0⟩ R).length 0 0),(6,AV.ptr ((jU A ⟨g,false,22,1,n7 S,0⟩ R).length+1) 0 0),(11,AV.ptr ((jU A ⟨g,false,22,1,n7 S,0⟩ R).length+2) 0 0),(12,AV.int .i64 (((kM u mx):Nat):Int)),(13,AV.own ((jU A ⟨g,false,22,1,n7 S,0⟩ R).length+3) 0 0 (c5 u (itI c i)).length),(14,AV.int .i64 ((j:Nat):Int))],(jU A ⟨g,false,22,1,n7 S,0⟩ R)++[⟨0,false,30,4,[.vec u.globals.length (g8 u.globals),.vec u.mutexes.length (g6 u.mutexes),.vec u.procs.length (g9 u.procs),.int .i64 u.main],0⟩,⟨0,false,34,3,[.vec c.insts.length (j5 c.insts),.vec c.calls.length (j9 c.calls),.vec c.roots.length (g8 c.roots)],0⟩,⟨0,false,46,2,[.int .i64 (itI c i).proc,.vec (itI c i).j7.length (g8 (itI c i).j7)],0⟩,⟨0,false,22,1,xK (c5 u (itI c i)).length j (List.replicate (kM u mx+1) 0),0⟩]⟩) (.v ⟨0,⟨rfl,by omega⟩,rfl⟩) ?_ (he:=t205);rintro m sl h' ⟨j,⟨hm,hj⟩,hst⟩;obtain ⟨rfl,rfl⟩:=St.mk.inj hst;clear hst;refine c0z ?_;refine u2z ?_ ?_
  ·intro e1 qe1;refine c3z ?_;refine c1z ?_;refine .c7 [2,3,4,5,6,11,12,13,14] ?_;refine g5.EB (β:=(jU A ⟨g,false,22,1,n7 S,0⟩ R).length+3) (γ:=(jU A ⟨g,false,22,1,n7 S,0⟩ R).length+4) (A:=n7 (List.replicate j (List.replicate (kM u mx+1) 0))) (R:=List.replicate ((c5 u (itI c i)).length-(j+1)) AV.nils) (zs:=(List.replicate (kM u mx+1) 0)) (len:=kM u mx+1) t23 t23 (by simp) (by omega) ?_;refine c14z ?_;exact ⟨_,by omega,.v ⟨(j+1),⟨rfl,by omega⟩,rfl⟩ (he:=t77) (hk:=t167)⟩
  intro e1 qe1;refine .exit ?_;obtain rfl:j=(c5 u (itI c i)).length:=by omega
  simp only[qJ];change g5 ..;refine c34z ?_;refine .ca rfl rfl (BI _ hk8) ?_;refine c33z ?_;refine .c7 [2,3,4,5,6,11,13] ?_;refine c15z ?_;refine .s4 (fun m st=>∃(T:List (List Nat)) (ag:Bool),(m=UF (c5 u (itI c i)).length T ag∧(Gro (kM u mx) (c5 u (itI c i)).length (nxI u c i) (stS u c mx S i) T∧(ag=false→T=dM (kM u mx) (c5 u (itI c i)).length (nxI u c i) (stS u c mx S i))))∧st=⟨mkS 136 [(2,AV.int .i64 ((mx:Nat):Int)),(3,AV.own A.length g 0 c.insts.length),(4,AV.int .i64 ((i:Nat):Int)),(5,AV.ptr (jU A ⟨g,false,22,1,n7 S,0⟩ R).length 0 0),(6,AV.ptr ((jU A ⟨g,false,22,1,n7 S,0⟩ R).length+1) 0 0),(11,AV.ptr ((jU A ⟨g,false,22,1,n7 S,0⟩ R).length+2) 0 0),(13,AV.own ((jU A ⟨g,false,22,1,n7 S,0⟩ R).length+3) 0 0 (c5 u (itI c i)).length),(15,AV.bool ag)],(jU A ⟨g,false,22,1,n7 S,0⟩ R)++[⟨0,false,30,4,[.vec u.globals.length (g8 u.globals),.vec u.mutexes.length (g6 u.mutexes),.vec u.procs.length (g9 u.procs),.int .i64 u.main],0⟩,⟨0,false,34,3,[.vec c.insts.length (j5 c.insts),.vec c.calls.length (j9 c.calls),.vec c.roots.length (g8 c.roots)],0⟩,⟨0,false,46,2,[.int .i64 (itI c i).proc,.vec (itI c i).j7.length (g8 (itI c i).j7)],0⟩,⟨0,false,22,1,n7 T,0⟩]⟩) (.v ⟨((List.replicate (c5 u (itI c i)).length (List.replicate (kM u mx+1) 0)).set 0 (dhN (kM u mx) 0)),true,⟨rfl,⟨Gro.start p,fun hf=>by cases hf⟩⟩,rfl⟩) ?_;rintro m sl h' ⟨T,ag,⟨hm,⟨hG,hdone⟩⟩,hst⟩;obtain ⟨rfl,rfl⟩:=St.mk.inj hst;clear hst;refine c0z ?_;refine u2z ?_ ?_
  ·intro e2 qe2;refine c123z ?_;have hag:ag=true:=by assumption
   subst hag;refine .z ?_;refine c15z ?_;refine .s4 (fun m st=>∃(T1:List (List Nat)) (a1:Bool) (pc:Nat),(m=(c5 u (itI c i)).length-pc∧(EN (kM u mx) (c5 u (itI c i)).length (nxI u c i) (stS u c mx S i) T T1 a1 pc∧pc≤(c5 u (itI c i)).length))∧st=⟨mkS 136 [(2,AV.int .i64 ((mx:Nat):Int)),(3,AV.own A.length g 0 c.insts.length),(4,AV.int .i64 ((i:Nat):Int)),(5,AV.ptr (jU A ⟨g,false,22,1,n7 S,0⟩ R).length 0 0),(6,AV.ptr ((jU A ⟨g,false,22,1,n7 S,0⟩ R).length+1) 0 0),(11,AV.ptr ((jU A ⟨g,false,22,1,n7 S,0⟩ R).length+2) 0 0),(13,AV.own ((jU A ⟨g,false,22,1,n7 S,0⟩ R).length+3) 0 0 (c5 u (itI c i)).length),(15,AV.bool a1),(16,AV.int .i64 ((pc:Nat):Int))],(jU A ⟨g,false,22,1,n7 S,0⟩ R)++[⟨0,false,30,4,[.vec u.globals.length (g8 u.globals),.vec u.mutexes.length (g6 u.mutexes),.vec u.procs.length (g9 u.procs),.int .i64 u.main],0⟩,⟨0,false,34,3,[.vec c.insts.length (j5 c.insts),.vec c.calls.length (j9 c.calls),.vec c.roots.length (g8 c.roots)],0⟩,⟨0,false,46,2,[.int .i64 (itI c i).proc,.vec (itI c i).j7.length (g8 (itI c i).j7)],0⟩,⟨0,false,22,1,n7 T1,0⟩]⟩) (.v ⟨T,false,0,⟨rfl,⟨EN.start hG,by omega⟩⟩,rfl⟩) ?_;rintro m sl h' ⟨T1,a1,pc,⟨hm,⟨hP,hpl⟩⟩,hst⟩;obtain ⟨rfl,rfl⟩:=St.mk.inj hst;clear hst;have hT1:T1.length=(c5 u (itI c i)).length:=hP.g.tb.1;refine c0z ?_;refine u2z ?_ ?_
   ·intro e3 qe3;refine c3z ?_;have hpc:pc<(c5 u (itI c i)).length:=by omega
    have hop:dP u c i pc=(c5 u (itI c i)).getD pc c8:=rfl;refine c26z ?_;refine .ca rfl rfl (MN hu wc hmx hi (show pc<u7 u c i by show pc<(c5 u (itI c i)).length;omega)) ?_;refine c33z ?_;refine .c7 [2,3,4,5,6,11,13,15,16,17] ?_;refine c124z ?_;refine u2z ?_ ?_
    ·intro e4 qe4;refine .c7 [2,3,4,5,6,11,13,15,16] ?_;obtain ⟨hc1,hc2⟩:=hcall pc hpc (by rw[hop];omega);refine c106z ?_;refine .c7 [2,3,4,5,6,11,13,15,16,17] ?_;have hst2:S.getD ((c.calls.getD i []).getD pc 0).toNat []=stS u c mx S i pc:=by unfold stS;rw[if_pos (show (dP u c i pc).op=2 from by rw[hop];omega)];first | done | rfl
     rw[hst2];have hst1:=p.st pc hpc;have hTp:=hP.g.tb.get hpc;obtain ⟨hR,hle⟩:=hP.g.aft p hpc;have hnl:=dW (x:=(c5 u (itI c i)).getD pc c8) (pc:=pc);refine c101z ?_;refine c181z ?_;refine c137z ?_;refine c15z ?_;refine .s4 (fun m st=>∃(T2:List (List Nat)) (a2:Bool) (j:Nat),(m=(n9 ((c5 u (itI c i)).getD pc c8) pc).length-j∧(DZ (kM u mx) (c5 u (itI c i)).length (nxI u c i) (stS u c mx S i) T T2 a2 pc (T1.getD pc []) j∧j≤(n9 ((c5 u (itI c i)).getD pc c8) pc).length))∧st=⟨mkS 136 [(2,AV.int .i64 ((mx:Nat):Int)),(3,AV.own A.length g 0 c.insts.length),(4,AV.int .i64 ((i:Nat):Int)),(5,AV.ptr (jU A ⟨g,false,22,1,n7 S,0⟩ R).length 0 0),(6,AV.ptr ((jU A ⟨g,false,22,1,n7 S,0⟩ R).length+1) 0 0),(11,AV.ptr ((jU A ⟨g,false,22,1,n7 S,0⟩ R).length+2) 0 0),(13,AV.own ((jU A ⟨g,false,22,1,n7 S,0⟩ R).length+3) 0 0 (c5 u (itI c i)).length),(15,AV.bool a2),(16,AV.int .i64 ((pc:Nat):Int)),(18,bR (o6 (T1.getD pc []) (stS u c mx S i pc))),(19,AV.vec (n9 ((c5 u (itI c i)).getD pc c8) pc).length (g8 (n9 ((c5 u (itI c i)).getD pc c8) pc))),(20,AV.int .i64 ((j:Nat):Int))],(jU A ⟨g,false,22,1,n7 S,0⟩ R)++[⟨0,false,30,4,[.vec u.globals.length (g8 u.globals),.vec u.mutexes.length (g6 u.mutexes),.vec u.procs.length (g9 u.procs),.int .i64 u.main],0⟩,⟨0,false,34,3,[.vec c.insts.length (j5 c.insts),.vec c.calls.length (j9 c.calls),.vec c.roots.length (g8 c.roots)],0⟩,⟨0,false,46,2,[.int .i64 (itI c i).proc,.vec (itI c i).j7.length (g8 (itI c i).j7)],0⟩,⟨0,false,22,1,n7 T2,0⟩]⟩) (.v ⟨T1,a1,0,⟨rfl,⟨hP.go,by omega⟩⟩,rfl⟩) ?_;rintro m sl h' ⟨T2,a2,j,⟨hm,⟨hQ,hj⟩⟩,hst⟩;obtain ⟨rfl,rfl⟩:=St.mk.inj hst;clear hst;have hT2:T2.length=(c5 u (itI c i)).length:=hQ.g.tb.1;refine c0z ?_;refine u2z ?_ ?_
     ·intro e5 qe5;refine c3z ?_;obtain ⟨hq1,hq2⟩:=p.nx pc hpc _ (j4 (d:=0) (show j<(nxI u c i pc).length from by show j<(n9 ((c5 u (itI c i)).getD pc c8) pc).length;omega));rw[show nxI u c i pc=(n9 ((c5 u (itI c i)).getD pc c8) pc) from rfl]at hq1 hq2;have hjn:j<(nxI u c i pc).length:=by show j<(n9 ((c5 u (itI c i)).getD pc c8) pc).length;omega
      have hq3:((n9 ((c5 u (itI c i)).getD pc c8) pc).getD j 0).toNat<(c5 u (itI c i)).length:=by omega
      have hRq:=hQ.g.tb.get hq3;refine c112z ?_;refine .n ?_;refine c188z ?_;refine .n ?_;refine u2z ?_ ?_
      ·intro e6 qe6;refine c133z ?_;refine c44z ?_;exact ⟨_,by omega,.v ⟨(T2.set ((n9 ((c5 u (itI c i)).getD pc c8) pc).getD j 0).toNat (cJ (T2.getD ((n9 ((c5 u (itI c i)).getD pc c8) pc).getD j 0).toNat []) (o6 (T1.getD pc []) (stS u c mx S i pc)))),true,(j+1),⟨rfl,⟨hQ.grow p hpc hR hle hjn rfl (fun hs=>absurd ((aJ hRq hR).2 hs) (by assumption)),by omega⟩⟩,rfl⟩ (he:=t12) (hk:=t33)⟩
      intro e6 qe6;refine c4z ?_;refine c44z ?_;exact ⟨_,by omega,.v ⟨T2,a2,(j+1),⟨rfl,⟨hQ.skip ((aJ hRq hR).1 (by assumption)),by omega⟩⟩,rfl⟩ (he:=t12) (hk:=t33)⟩
     intro e5 qe5;refine .exit ?_;obtain rfl:j=(n9 ((c5 u (itI c i)).getD pc c8) pc).length:=by omega
     change g5 ..;refine .rz ?_;exact ⟨_,by omega,.v ⟨T2,a2,(pc+1),⟨rfl,⟨hQ.fin,by omega⟩⟩,rfl⟩ (he:=t12) (hk:=t33)⟩
    intro e4 qe4;refine .sk ?_;refine .c7 [2,3,4,5,6,11,13,15,16,17] ?_;have hst2:dhN (kM u mx) (chI (itI c i) (dP u c i pc) mx)=stS u c mx S i pc:=by unfold stS;rw[if_neg (show ¬(dP u c i pc).op=2 from by rw[hop];omega)];first | done | rfl
    rw[hst2];have hst1:=p.st pc hpc;have hTp:=hP.g.tb.get hpc;obtain ⟨hR,hle⟩:=hP.g.aft p hpc;have hnl:=dW (x:=(c5 u (itI c i)).getD pc c8) (pc:=pc);refine c101z ?_;refine c181z ?_;refine c137z ?_;refine c15z ?_;refine .s4 (fun m st=>∃(T2:List (List Nat)) (a2:Bool) (j:Nat),(m=(n9 ((c5 u (itI c i)).getD pc c8) pc).length-j∧(DZ (kM u mx) (c5 u (itI c i)).length (nxI u c i) (stS u c mx S i) T T2 a2 pc (T1.getD pc []) j∧j≤(n9 ((c5 u (itI c i)).getD pc c8) pc).length))∧st=⟨mkS 136 [(2,AV.int .i64 ((mx:Nat):Int)),(3,AV.own A.length g 0 c.insts.length),(4,AV.int .i64 ((i:Nat):Int)),(5,AV.ptr (jU A ⟨g,false,22,1,n7 S,0⟩ R).length 0 0),(6,AV.ptr ((jU A ⟨g,false,22,1,n7 S,0⟩ R).length+1) 0 0),(11,AV.ptr ((jU A ⟨g,false,22,1,n7 S,0⟩ R).length+2) 0 0),(13,AV.own ((jU A ⟨g,false,22,1,n7 S,0⟩ R).length+3) 0 0 (c5 u (itI c i)).length),(15,AV.bool a2),(16,AV.int .i64 ((pc:Nat):Int)),(18,bR (o6 (T1.getD pc []) (stS u c mx S i pc))),(19,AV.vec (n9 ((c5 u (itI c i)).getD pc c8) pc).length (g8 (n9 ((c5 u (itI c i)).getD pc c8) pc))),(20,AV.int .i64 ((j:Nat):Int))],(jU A ⟨g,false,22,1,n7 S,0⟩ R)++[⟨0,false,30,4,[.vec u.globals.length (g8 u.globals),.vec u.mutexes.length (g6 u.mutexes),.vec u.procs.length (g9 u.procs),.int .i64 u.main],0⟩,⟨0,false,34,3,[.vec c.insts.length (j5 c.insts),.vec c.calls.length (j9 c.calls),.vec c.roots.length (g8 c.roots)],0⟩,⟨0,false,46,2,[.int .i64 (itI c i).proc,.vec (itI c i).j7.length (g8 (itI c i).j7)],0⟩,⟨0,false,22,1,n7 T2,0⟩]⟩) (.v ⟨T1,a1,0,⟨rfl,⟨hP.go,by omega⟩⟩,rfl⟩) ?_;rintro m sl h' ⟨T2,a2,j,⟨hm,⟨hQ,hj⟩⟩,hst⟩;obtain ⟨rfl,rfl⟩:=St.mk.inj hst;clear hst;have hT2:T2.length=(c5 u (itI c i)).length:=hQ.g.tb.1;refine c0z ?_;refine u2z ?_ ?_
    ·intro e7 qe7;refine c3z ?_;obtain ⟨hq1,hq2⟩:=p.nx pc hpc _ (j4 (d:=0) (show j<(nxI u c i pc).length from by show j<(n9 ((c5 u (itI c i)).getD pc c8) pc).length;omega));rw[show nxI u c i pc=(n9 ((c5 u (itI c i)).getD pc c8) pc) from rfl]at hq1 hq2;have hjn:j<(nxI u c i pc).length:=by show j<(n9 ((c5 u (itI c i)).getD pc c8) pc).length;omega
     have hq3:((n9 ((c5 u (itI c i)).getD pc c8) pc).getD j 0).toNat<(c5 u (itI c i)).length:=by omega
     have hRq:=hQ.g.tb.get hq3;refine c112z ?_;refine .n ?_;refine c188z ?_;refine .n ?_;refine u2z ?_ ?_
     ·intro e8 qe8;refine c133z ?_;refine c44z ?_;exact ⟨_,by omega,.v ⟨(T2.set ((n9 ((c5 u (itI c i)).getD pc c8) pc).getD j 0).toNat (cJ (T2.getD ((n9 ((c5 u (itI c i)).getD pc c8) pc).getD j 0).toNat []) (o6 (T1.getD pc []) (stS u c mx S i pc)))),true,(j+1),⟨rfl,⟨hQ.grow p hpc hR hle hjn rfl (fun hs=>absurd ((aJ hRq hR).2 hs) (by assumption)),by omega⟩⟩,rfl⟩ (he:=t12) (hk:=t33)⟩
     intro e8 qe8;refine c4z ?_;refine c44z ?_;exact ⟨_,by omega,.v ⟨T2,a2,(j+1),⟨rfl,⟨hQ.skip ((aJ hRq hR).1 (by assumption)),by omega⟩⟩,rfl⟩ (he:=t12) (hk:=t33)⟩
    intro e7 qe7;refine .exit ?_;obtain rfl:j=(n9 ((c5 u (itI c i)).getD pc c8) pc).length:=by omega
    change g5 ..;refine .rz ?_;exact ⟨_,by omega,.v ⟨T2,a2,(pc+1),⟨rfl,⟨hQ.fin,by omega⟩⟩,rfl⟩ (he:=t12) (hk:=t33)⟩
   intro e3 qe3;refine .exit ?_;obtain rfl:pc=(c5 u (itI c i)).length:=by omega
   have hlt:=MC hk8 hP;exact ⟨_,by omega,.v ⟨T1,a1,⟨rfl,⟨hP.g,fun hf=>by subst hf;exact hP.done p⟩⟩,rfl⟩ (he:=t12) (hk:=t33)⟩
  intro e2 qe2;refine c6z ?_;refine .c7 [13] ?_;refine c17z ?_;exact ⟨_,_,rfl,S9 t23 (by omega) hG.tb.1,by (show _=_;rw[hdone (by assumption)];rfl)⟩
theorem UP (hu:WU u)(wc:WC u c)(hmx:mx<u.mutexes.length)(hS:Tb (kM u mx) c.insts.length S)(hi:i<c.insts.length):CB 136 [.agg [.vec u.globals.length (g8 u.globals),.vec u.mutexes.length (g6 u.mutexes),.vec u.procs.length (g9 u.procs),.int .i64 u.main],.agg [.vec c.insts.length (j5 c.insts),.vec c.calls.length (j9 c.calls),.vec c.roots.length (g8 c.roots)],.int .i64 ((mx:Nat):Int),.vec c.insts.length (n7 S),.int .i64 ((i:Nat):Int)] h (bR (exT u c mx S i)):=by
  refine .bz Tryz.f136 57 ?_;have w:=dX wc hi;have w1:=w.lo;have w2:=w.hi;have hsz:(c5 u (itI c i)).length≤1664:=n8 hu w;have hwl:=wc.len;have hk8:kM u mx≤8:=gR;have hk9:gT (u.mutexes.getD mx s8)≤8:=hk8;have hml:=hu.ml;have hT:=iP (u:=u) (c:=c) (m:=mx) S i;have hTl:(kH u c mx S i).length=u7 u c i:=hT.1;have hli:u7 u c i≤1664:=hsz;have hlc:u7 u c i=(c5 u (itI c i)).length:=rfl;refine .z ?_;refine c24z ?_;refine .ca rfl rfl ((wY hu wc hmx hS hi)) ?_;refine .n ?_;refine .c7 [2,4,5,6,11] ?_;refine c209z ?_;refine c33z ?_;refine .c7 [4,5,6,11,12] ?_;refine g5.UJ (t:=12) (γ:=(h.length+2)) (len:=(kM u mx+1)) t23 (by simp) (by omega) (kR (by decide) rfl) ?_;rw[bL];simp only[l8,List.set_cons_succ,List.set_cons_zero];generalize (⟨0,false,3,1,(List.replicate (kM u mx+1) 0).map l5,kM u mx+1⟩:Blk)=Vb;refine c15z ?_;refine .cU (fun m st=>∃(j:Nat),(m=u7 u c i-j∧(j≤u7 u c i))∧st=⟨mkS 57 [(4,AV.int .i64 ((i:Nat):Int)),(5,AV.ptr h.length 0 0),(6,AV.ptr (h.length+1) 0 0),(11,AV.vec (u7 u c i) (n7 (kH u c mx S i))),(12,bR (S4 u c mx i (kH u c mx S i) j)),(13,AV.int .i64 ((j:Nat):Int))],h++[⟨0,false,30,4,[.vec u.globals.length (g8 u.globals),.vec u.mutexes.length (g6 u.mutexes),.vec u.procs.length (g9 u.procs),.int .i64 u.main],0⟩,⟨0,false,34,3,[.vec c.insts.length (j5 c.insts),.vec c.calls.length (j9 c.calls),.vec c.roots.length (g8 c.roots)],0⟩,Vb]⟩) _ (.v ⟨0,⟨rfl,by omega⟩,rfl⟩ (hs:=t17)) ?_;rintro m sl h' ⟨j,⟨hm,hj⟩,hst⟩;obtain ⟨rfl,rfl⟩:=St.mk.inj hst;have hop:(dP u c i j).op=((c5 u (itI c i)).getD j c8).op:=rfl;refine c0z ?_;refine u2z ?_ ?_
  ·intro e1 qe1;refine c3z ?_;have hTj:=hT.get (i:=j) (by omega);have hEj:=oJ (u:=u) (c:=c) (m:=mx) i (kH u c mx S i) j;refine c49z ?_;refine u2z ?_ ?_
   ·intro e2 qe2;refine .c7 [4,5,6,11,12,13] ?_;refine .r ?_;refine .e 5 ?_;refine .ca rfl rfl (D3 _ _ (hTj.lt hk8) (hEj.lt hk8) t207 t159) ?_;refine c27z ?_;refine .rz ?_;exact ⟨_,by omega,.v ⟨(j+1),⟨rfl,by omega⟩,rfl⟩ (hs:=t17)⟩
   intro e2 qe2;refine c4z ?_;refine .c7 [4,5,6,11,12,13] ?_;refine .rz ?_;exact ⟨_,by omega,.v ⟨(j+1),⟨rfl,by omega⟩,rfl⟩ (hs:=t17)⟩
  intro e1 qe1;refine .exit ?_;obtain rfl:j=u7 u c i:=by omega
  change g5 ..;refine .c7 [12] ?_;refine .z ?_;exact .ret (.ex (hq:=by rfl))
theorem c_exitRO {g:Nat}(hu:WU u)(wc:WC u c)(hmx:mx<u.mutexes.length)(hS:Tb (kM u mx) c.insts.length S)(hi:i<c.insts.length):CB 136 [.agg [.vec u.globals.length (g8 u.globals),.vec u.mutexes.length (g6 u.mutexes),.vec u.procs.length (g9 u.procs),.int .i64 u.main],.agg [.vec c.insts.length (j5 c.insts),.vec c.calls.length (j9 c.calls),.vec c.roots.length (g8 c.roots)],.int .i64 ((mx:Nat):Int),.own A.length g 0 c.insts.length,.int .i64 ((i:Nat):Int)] (jU A ⟨g,false,22,1,n7 S,0⟩ R) (bR (exT u c mx S i)):=by
  refine .bz Tryz.f136 57 ?_;have w:=dX wc hi;have w1:=w.lo;have w2:=w.hi;have hsz:(c5 u (itI c i)).length≤1664:=n8 hu w;have hwl:=wc.len;have hk8:kM u mx≤8:=gR;have hk9:gT (u.mutexes.getD mx s8)≤8:=hk8;have hml:=hu.ml;have hT:=iP (u:=u) (c:=c) (m:=mx) S i;have hTl:(kH u c mx S i).length=u7 u c i:=hT.1;have hli:u7 u c i≤1664:=hsz;have hlc:u7 u c i=(c5 u (itI c i)).length:=rfl;refine .z ?_;refine c24z ?_;refine .ca rfl rfl ((by rw[UN];exact MO hu wc hmx hS hi)) ?_;refine .n ?_;refine .c7 [2,4,5,6,11] ?_;refine c209z ?_;refine c33z ?_;refine .c7 [4,5,6,11,12] ?_;refine g5.UJ (t:=12) (γ:=((jU A ⟨g,false,22,1,n7 S,0⟩ R).length+2)) (len:=(kM u mx+1)) t23 (by simp) (by omega) (kR (by decide) rfl) ?_;rw[bL];simp only[l8,List.set_cons_succ,List.set_cons_zero];generalize (⟨0,false,3,1,(List.replicate (kM u mx+1) 0).map l5,kM u mx+1⟩:Blk)=Vb;refine c15z ?_;refine .cU (fun m st=>∃(j:Nat),(m=u7 u c i-j∧(j≤u7 u c i))∧st=⟨mkS 57 [(4,AV.int .i64 ((i:Nat):Int)),(5,AV.ptr (jU A ⟨g,false,22,1,n7 S,0⟩ R).length 0 0),(6,AV.ptr ((jU A ⟨g,false,22,1,n7 S,0⟩ R).length+1) 0 0),(11,AV.vec (u7 u c i) (n7 (kH u c mx S i))),(12,bR (S4 u c mx i (kH u c mx S i) j)),(13,AV.int .i64 ((j:Nat):Int))],(jU A ⟨g,false,22,1,n7 S,0⟩ R)++[⟨0,false,30,4,[.vec u.globals.length (g8 u.globals),.vec u.mutexes.length (g6 u.mutexes),.vec u.procs.length (g9 u.procs),.int .i64 u.main],0⟩,⟨0,false,34,3,[.vec c.insts.length (j5 c.insts),.vec c.calls.length (j9 c.calls),.vec c.roots.length (g8 c.roots)],0⟩,Vb]⟩) _ (.v ⟨0,⟨rfl,by omega⟩,rfl⟩ (hs:=t17)) ?_;rintro m sl h' ⟨j,⟨hm,hj⟩,hst⟩;obtain ⟨rfl,rfl⟩:=St.mk.inj hst;have hop:(dP u c i j).op=((c5 u (itI c i)).getD j c8).op:=rfl;refine c0z ?_;refine u2z ?_ ?_
  ·intro e1 qe1;refine c3z ?_;have hTj:=hT.get (i:=j) (by omega);have hEj:=oJ (u:=u) (c:=c) (m:=mx) i (kH u c mx S i) j;refine c49z ?_;refine u2z ?_ ?_
   ·intro e2 qe2;refine .c7 [4,5,6,11,12,13] ?_;refine .r ?_;refine .e 5 ?_;refine .ca rfl rfl (D3 _ _ (hTj.lt hk8) (hEj.lt hk8) t207 t159) ?_;refine c27z ?_;refine .rz ?_;exact ⟨_,by omega,.v ⟨(j+1),⟨rfl,by omega⟩,rfl⟩ (hs:=t17)⟩
   intro e2 qe2;refine c4z ?_;refine .c7 [4,5,6,11,12,13] ?_;refine .rz ?_;exact ⟨_,by omega,.v ⟨(j+1),⟨rfl,by omega⟩,rfl⟩ (hs:=t17)⟩
  intro e1 qe1;refine .exit ?_;obtain rfl:j=u7 u c i:=by omega
  change g5 ..;refine .c7 [12] ?_;refine .z ?_;exact .ret (.ex (hq:=by rfl))
end Go.Proofs.YtonbocmibeikmaaGreat
end
section
namespace Go.Proofs.YtonbocmibeikmaaGreat
open Go.Ab Go.Un
variable {h:c6}{T:List (List Nat)}{g n:Nat}
theorem uA {l:c6}{b0 b1:Blk}{r:List Nat}(hn:T.length=n)(hl:n<100000):j0 cfg 22 (h++(b0::b1::o8 22 1 g (n7 T)::⟨0,false,22,1,[.vec r.length (r.map l5)],0⟩::l)) (.own (h.length+2) g 0 n) (.own (h.length+3) 0 0 1)=some (.own (h.length+2) (g+1) 0 (n+1),h++(b0::b1::o8 22 1 (g+1) (n7 (T++[r]))::⟨0,false,22,1,[.vec r.length (r.map l5)],0⟩::l)):=by subst hn;rw[u3 (C:=cfg) (K:=1) (m:=1) (new:=[.vec r.length (r.map l5)]) (zs:=n7 T) t23 rfl (by omega) (by simp[n7]) rfl (by omega) t98 rfl (by decide) (by omega),l8,show n7 T++[AV.vec r.length (r.map l5)]=n7 (T++[r]) from by simp[n7,bR]];rfl
theorem uB {l:c6}{b0 b1 b3:Blk}{k:Nat}(hn:T.length=n)(hl:n<100000):j0 cfg 22 (h++(b0::b1::o8 22 1 g (n7 T)::b3::⟨0,false,22,1,[.own (h.length+3) 0 0 k],0⟩::l)) (.own (h.length+2) g 0 n) (.own (h.length+4) 0 0 1)=some (.own (h.length+2) (g+1) 0 (n+1),h++(b0::b1::⟨g+1,false,22,1,n7 T++[.own (h.length+3) 0 0 k],0⟩::b3::⟨0,false,22,1,[.own (h.length+3) 0 0 k],0⟩::l)):=by subst hn;rw[u3 (C:=cfg) (K:=1) (m:=1) (new:=[.own (h.length+3) 0 0 k]) (zs:=n7 T) t23 rfl (by omega) (by simp[n7]) rfl (by omega) t98 rfl (by decide) (by omega),l8,bS (zs:=n7 T++[AV.own (h.length+3) 0 0 k]) (by simp)];rfl
variable {l:List Int}
theorem D7 {a:Nat}:List.take (l.length-a) (List.drop a (g8 l))=g8 (l.drop a):=by unfold g8;rw[←List.map_drop,List.take_of_length_le (by simp)]
theorem g5.seenG {c:Code}{sl:List AV}{H:c6}{Q:Exit→St→Prop}{β γ len e e' g:Nat}{A R:List AV}{zs:List Nat}(hβ:H[β]?=some ⟨g,false,e,1,A++.own γ 0 0 len::R,0⟩)(hγ:H[γ]?=some ⟨0,false,e',1,zs.map l5,0⟩)(hz:zs.length=len)(hne:β≠γ)
    (r:g5 Tryz.prog cfg c ⟨sl,(H.set γ ⟨0,false,e',1,zs.map l5,len⟩).set β ⟨g,false,e,1,A++.vec len (zs.map l5)::R,0⟩⟩ Q):g5 Tryz.prog cfg c ⟨sl,H⟩ Q:=by
  subst hz;refine g5.zR (γ:=γ) (β:=β) (k:=A.length) (off:=0) (len:=zs.length) (cs:=zs.map l5) hγ rfl (by simp) ?_ hβ hne (by simp) ?_
  · show p5 oA (List.take (zs.length*1) (List.drop 0 (zs.map l5)))=_
    rw[List.drop_zero,Nat.mul_one,List.take_of_length_le (by simp)];exact (N4 zs).OV
  · have e1:cL ⟨0,false,e',1,zs.map l5,0⟩ (0+zs.length*1)=⟨0,false,e',1,zs.map l5,zs.length⟩:=by simp only[cL,Nat.zero_add,Nat.mul_one,Nat.zero_max]
    have e2:(A++AV.own γ 0 0 zs.length::R).set A.length (.vec zs.length (zs.map l5))=A++.vec zs.length (zs.map l5)::R:=by simp
    show g5 Tryz.prog cfg c ⟨sl,(H.set γ (cL ⟨0,false,e',1,zs.map l5,0⟩ (0+zs.length*1))).set β ⟨g,false,e,1,(A++AV.own γ 0 0 zs.length::R).set A.length (.vec zs.length (zs.map l5)),0⟩⟩ Q;rw[e1,e2];exact r
theorem UQ {k:Nat}:(⟨g,false,22,1,n7 T++[AV.vec (k+1) ((List.replicate (k+1) 0).map l5)],0⟩:Blk)=o8 22 1 g (n7 (T++[List.replicate (k+1) 0])):=by rw[bS (by simp[n7])];simp[n7,bR]
theorem El {β len:Nat}{H:c6}{a:List (List Nat)}(hb:H[β]?=some (o8 22 1 g (n7 a)))(hn:n≤β)(hl:a.length=len)(hp:0<len):gH n H 6 (.own β g 0 len)=some (.vec len (n7 a)):=by rw[bS (by intro h0;have:=congrArg List.length h0;rw[v9]at this;replace this:=s6z this;omega)]at hb;exact S9 hb hn hl
def Ge (u:Un)(c:Clo)(mx:Nat)(l:List Int):List (List Nat):=(List.range c.insts.length).map fun i=>XG (l.drop (min l.length (i*(kM u mx+1)))) (kM u mx)
variable {u:Un}{c:Clo}{mx:Nat}
theorem tabT_tb:Tb (kM u mx) c.insts.length (Ge u c mx l):=by refine ⟨by simp[Ge],fun r hr=>?_⟩;obtain ⟨i,_,rfl⟩:=List.mem_map.1 hr;refine ⟨KN _ _,fun x hx=>?_⟩;obtain ⟨d,_,rfl⟩:=List.mem_map.1 hx;exact relV_lt _ _ _
theorem tab_snoc {i:Nat}(hi:i<c.insts.length):(Ge u c mx l).take i++[XG (l.drop (min l.length (i*(kM u mx+1)))) (kM u mx)]=(Ge u c mx l).take (i+1):=by
  have hl:i<(Ge u c mx l).length:=by rw[tabT_tb.1];exact hi
  rw[List.take_add_one,List.getElem?_eq_getElem hl];simp[Ge]
theorem UR {i:Nat}{S:List (List Nat)}(hi:i<c.insts.length):(yK u c mx S).take i++[exT u c mx S i]=(yK u c mx S).take (i+1):=by
  have hl:i<(yK u c mx S).length:=by rw[(jQ S).1];exact hi
  rw[List.take_add_one,List.getElem?_eq_getElem hl];simp[yK]
theorem US (h:T.length=n):T.take n=T:=List.take_of_length_le (by omega)
attribute [local go_sem] rd bR u5 z4 s6 o4 l9 bX v9 Int.natCast_nonneg Int.natCast_inj bV gD fA gE fM oN D2 wV jT wW T8 lL sD sE oO List.length_set List.length_replicate Int.toNat_natCast_add_one eT wrap64 M6 List.length_map kJ jD qK uA uB D7 jT
theorem UT (hu:WU u)(wc:WC u c)(hmx:mx<u.mutexes.length):CB 93 [.agg [.vec u.globals.length (g8 u.globals),.vec u.mutexes.length (g6 u.mutexes),.vec u.procs.length (g9 u.procs),.int .i64 u.main],.agg [.vec c.insts.length (j5 c.insts),.vec c.calls.length (j9 c.calls),.vec c.roots.length (g8 c.roots)],.int .i64 ((mx:Nat):Int)] h (.vec c.insts.length (n7 (sP u c mx))):=by
  refine .bz Tryz.f93 28 ?_;have hwl:=wc.len;have hk8:kM u mx≤8:=gR;have hk9:gT (u.mutexes.getD mx s8)≤8:=hk8;have hml:=hu.ml;refine c51z ?_;refine g5.qY 7 rfl ?_;refine .s4 (fun m st=>∃(i:Nat),(m=c.insts.length-i∧(i≤c.insts.length))∧st=⟨mkS 28 [(2,AV.int .i64 ((mx:Nat):Int)),(3,AV.ptr h.length 0 0),(4,AV.ptr (h.length+1) 0 0),(7,AV.own (h.length+2) i 0 i),(8,AV.int .i64 ((i:Nat):Int))],h++[⟨0,false,30,4,[.vec u.globals.length (g8 u.globals),.vec u.mutexes.length (g6 u.mutexes),.vec u.procs.length (g9 u.procs),.int .i64 u.main],0⟩,⟨0,false,34,3,[.vec c.insts.length (j5 c.insts),.vec c.calls.length (j9 c.calls),.vec c.roots.length (g8 c.roots)],0⟩,o8 22 1 i (n7 (List.replicate i (List.replicate (kM u mx+1) 0)))]⟩) (.v ⟨0,⟨rfl,by omega⟩,rfl⟩ (hs:=t11)) ?_;rintro m sl h' ⟨i,⟨hm,hi⟩,hst⟩;obtain ⟨rfl,rfl⟩:=St.mk.inj hst;clear hst;have hrl:(List.replicate i (List.replicate (kM u mx+1) 0)).length=i:=List.length_replicate;refine c0z ?_;refine u2z ?_ ?_
  ·intro e1 qe1;refine c3z ?_;refine .r ?_;refine .e 6 ?_;refine .ca rfl rfl (MM u mx) ?_;refine c27z ?_;refine .c7 [2,3,4,7,8] ?_;refine g5.seenG (β:=h.length+2) (γ:=h.length+3) (g:=i+1) (A:=n7 (List.replicate i (List.replicate (kM u mx+1) 0))) (R:=[]) (zs:=(List.replicate (kM u mx+1) 0)) (len:=kM u mx+1) t23 t23 (by simp) (by omega) ?_;refine c14z ?_;exact ⟨_,by omega,.v ⟨(i+1),⟨rfl,by omega⟩,rfl⟩ (he:=by (rw[UQ,←List.replicate_succ'];simp only[List.append_assoc,List.cons_append,List.nil_append];rfl)) (hk:=t97) (hs:=t11)⟩
  intro e1 qe1;refine .exit ?_;obtain rfl:i=c.insts.length:=by omega
  change g5 ..;refine .c7 [7] ?_;refine c17z ?_;exact ⟨_,_,rfl,El t23 (by omega) hrl (by omega),by rfl⟩
theorem UU (hu:WU u)(wc:WC u c)(hmx:mx<u.mutexes.length){S:List (List Nat)}(hS:Tb (kM u mx) c.insts.length S):CB 94 [.agg [.vec u.globals.length (g8 u.globals),.vec u.mutexes.length (g6 u.mutexes),.vec u.procs.length (g9 u.procs),.int .i64 u.main],.agg [.vec c.insts.length (j5 c.insts),.vec c.calls.length (j9 c.calls),.vec c.roots.length (g8 c.roots)],.int .i64 ((mx:Nat):Int),.vec c.insts.length (n7 S)] h (.vec c.insts.length (n7 (yK u c mx S))):=by
  refine .bz Tryz.f94 27 ?_;have hwl:=wc.len;have hk8:kM u mx≤8:=gR;have hk9:gT (u.mutexes.getD mx s8)≤8:=hk8;have hml:=hu.ml;have hSl:=hS.1;refine c51z ?_;refine g5.qY 9 rfl ?_;refine .s4 (fun m st=>∃(i:Nat),(m=c.insts.length-i∧(i≤c.insts.length))∧st=⟨mkS 27 [(2,AV.int .i64 ((mx:Nat):Int)),(3,AV.vec c.insts.length (n7 S)),(4,AV.ptr h.length 0 0),(5,AV.ptr (h.length+1) 0 0),(9,AV.own (h.length+2) i 0 i),(10,AV.int .i64 ((i:Nat):Int))],h++[⟨0,false,30,4,[.vec u.globals.length (g8 u.globals),.vec u.mutexes.length (g6 u.mutexes),.vec u.procs.length (g9 u.procs),.int .i64 u.main],0⟩,⟨0,false,34,3,[.vec c.insts.length (j5 c.insts),.vec c.calls.length (j9 c.calls),.vec c.roots.length (g8 c.roots)],0⟩,o8 22 1 i (n7 ((yK u c mx S).take i))]⟩) (.v ⟨0,⟨rfl,by omega⟩,rfl⟩ (hs:=t11)) ?_;rintro m sl h' ⟨i,⟨hm,hi⟩,hst⟩;obtain ⟨rfl,rfl⟩:=St.mk.inj hst;clear hst;have hrl:((yK u c mx S).take i).length=i:=by rw[List.length_take,(jQ S).1];omega
  refine c0z ?_;refine u2z ?_ ?_
  ·intro e1 qe1;refine c3z ?_;refine .r ?_;refine .e 6 ?_;refine .ca rfl rfl (UP hu wc hmx hS (show i<c.insts.length by omega)) ?_;refine c27z ?_;refine .c7 [2,3,4,5,9,10] ?_;refine .rz ?_;exact ⟨_,by omega,.v ⟨(i+1),⟨rfl,by omega⟩,rfl⟩ (he:=by (rw[UR (by omega)];simp only[List.append_assoc,List.cons_append,List.nil_append];rfl)) (hk:=t97) (hs:=t11)⟩
  intro e1 qe1;refine .exit ?_;obtain rfl:i=c.insts.length:=by omega
  rw[US (jQ S).1];change g5 ..;refine .c7 [9] ?_;refine c17z ?_;exact ⟨_,_,rfl,El t23 (by omega) (jQ S).1 (by omega),by rfl⟩
theorem UW {m:Nat}{a b:List (List Nat)}(ha:a.length=n)(hb:b.length=m)(hl:n<1000000)(hr:∀r∈a,r.length<100000):CB 33 [.vec n (n7 a),.vec m (n7 b)] h (.bool (decide (a=b))):=by subst ha hb;exact c_sameT (n:=0) a b hl hr
theorem En (hu:WU u)(wc:WC u c)(hmx:mx<u.mutexes.length):CB 56 [.agg [.vec u.globals.length (g8 u.globals),.vec u.mutexes.length (g6 u.mutexes),.vec u.procs.length (g9 u.procs),.int .i64 u.main],.agg [.vec c.insts.length (j5 c.insts),.vec c.calls.length (j9 c.calls),.vec c.roots.length (g8 c.roots)],.int .i64 ((mx:Nat):Int)] h (.vec c.insts.length (n7 (cR u c mx))):=by
  refine .bz Tryz.f56 23 ?_;have hwl:=wc.len;have hk8:kM u mx≤8:=gR;have hk9:gT (u.mutexes.getD mx s8)≤8:=hk8;have hml:=hu.ml;refine c91z ?_;refine .ca rfl rfl (UT hu wc hmx) ?_;refine c138z ?_;refine .cU (fun m st=>∃(Sx:List (List Nat)),(m=4608*c.insts.length-tot Sx∧(Low u c mx Sx))∧st=⟨mkS 23 [(2,AV.int .i64 ((mx:Nat):Int)),(3,AV.ptr h.length 0 0),(4,AV.ptr (h.length+1) 0 0),(7,AV.vec c.insts.length (n7 Sx))],h++[⟨0,false,30,4,[.vec u.globals.length (g8 u.globals),.vec u.mutexes.length (g6 u.mutexes),.vec u.procs.length (g9 u.procs),.int .i64 u.main],0⟩,⟨0,false,34,3,[.vec c.insts.length (j5 c.insts),.vec c.calls.length (j9 c.calls),.vec c.roots.length (g8 c.roots)],0⟩]⟩) _ (.v ⟨(sP u c mx),⟨rfl,Low.zero⟩,rfl⟩) ?_;rintro m sl h' ⟨Sx,⟨hm,hL⟩,hst⟩;obtain ⟨rfl,rfl⟩:=St.mk.inj hst;have hSl:=hL.tb.1;have hRl:=(jQ (u:=u) (c:=c) (m:=mx) Sx).1;refine .block ?_;refine c26z ?_;refine .ca rfl rfl (UU hu wc hmx hL.tb) ?_;refine c33z ?_;refine c34z ?_;refine .ca rfl rfl (UW hSl hRl (by omega) (fun r hr=>by have:=(hL.tb.2 r hr).1;omega)) ?_;refine .nil ?_;refine u2z ?_ ?_
  ·intro e1 qe1;refine .c7 [7] ?_;refine .z ?_;exact .ret (.ex (hq:=by (rw[hL.done hu wc (Eq.symm (by assumption))])))
  intro e1 qe1;refine .sk ?_;refine .c7 [2,3,4,8] ?_;refine .rz ?_;have hgr:=hL.grow hu wc (by assumption);exact ⟨_,by omega,.v ⟨(yK u c mx Sx),⟨rfl,(hL.round hu wc).1⟩,rfl⟩⟩
end Go.Proofs.YtonbocmibeikmaaGreat
end
section
namespace Go.Un
open Go.Ab
section
variable (u:Un)(c:Clo)(m:Nat)
structure EF (E:List Nat):Prop where
 es:Es u c m E
 le:Sub E (kN u c m)
 rt:∀i:Nat,(i:Int)∈c.roots→bt E i 0=true
structure sR (E:List Nat)(j:Nat):Prop where
 es:Es u c m E
 le:Sub E (kN u c m)
 rt:∀k,k<j→bt E (c.roots.getD k 0).toNat 0=true
 z:∀i:Nat,(i:Int)∉c.roots→E.getD i 0=0
noncomputable def qL (E:List Nat)(i pc:Nat):Nat:=applyN ((inS u c m i).getD pc []) (E.getD i 0)
def qM:List Nat:=c.roots.map Int.toNat
def wE (E:List Nat)(l:Nat):Nat:=2*(512*c.insts.length-E.sum)+l
structure NK (E:List Nat)(todo:List Nat):Prop where
 g:EF u c m E
 td:∀i∈todo,i<c.insts.length
 cl:∀i,i<c.insts.length→i∉todo→∀pc,pc<u7 u c i→ClE u c m E i pc
structure NL (i w0:Nat)(E:List Nat)(todo:List Nat)(j:Nat):Prop where
 g:EF u c m E
 td:∀x∈todo,x<c.insts.length
 cl:∀x,x<c.insts.length→x∉todo→x≠i→∀pc,pc<u7 u c x→ClE u c m E x pc
 ci:i∉todo→∀pc,pc<j→ClE u c m E i pc
 wt:wE c E todo.length≤w0
structure M9 (E0 E:List Nat)(again:Bool)(i j:Nat):Prop where
 g:EF u c m E
 mo:E0.sum≤E.sum
 up:again=true→E0.sum<E.sum
 no:again=false→E=E0∧(∀x,x<i→∀pc,pc<u7 u c x→ClE u c m E x pc)∧∀pc,pc<j→ClE u c m E i pc
def mEnt (E:List Nat)(again:Bool):Nat:=if again then 512*c.insts.length-E.sum+1 else 0
end
section
variable {u:Un}{c:Clo}{m:Nat}
variable {j:Nat}
theorem D8:(1:Nat).testBit j=true↔j=0:=by
 cases j with
 | zero=>simp
 | succ j=>simp[Nat.testBit_succ]
theorem XS:1<2^(kM u m+1):=by have:=Nat.one_lt_two_pow (n:=kM u m+1) (by omega);exact this
theorem root_at (wc:WC u c)(hj:j<c.roots.length):((c.roots.getD j 0).toNat:Int)=c.roots.getD j 0∧(c.roots.getD j 0).toNat<c.insts.length∧(((c.roots.getD j 0).toNat:Nat):Int)∈c.roots:=by
 have h1:c.roots.getD j 0∈c.roots:=j4 hj;have h2:=wc.rr _ h1;have h3:((c.roots.getD j 0).toNat:Int)=c.roots.getD j 0:=by omega
 exact ⟨h3,by omega,by rw[h3];exact h1⟩
theorem sR.start:sR u c m (List.replicate c.insts.length 0) 0:=
 ⟨Es.zero,fun i d h=>(by rw[wK]at h;cases h),fun k hk=>by omega,fun i _=>(by simp only[List.getD,List.getElem?_replicate];split<;>rfl)⟩
variable {E:List Nat}
theorem sR.next (hu:WU u)(wc:WC u c)(h:sR u c m E j)(hj:j<c.roots.length):sR u c m (E.set (c.roots.getD j 0).toNat 1) (j+1):=by
 obtain ⟨h1,h2,h3⟩:=root_at wc hj;have hl:(c.roots.getD j 0).toNat<E.length:=by rw[h.es.1];exact h2
 refine ⟨h.es.set XS,fun i d hb=>?_,fun k hk=>?_,fun i hi=>?_⟩
 ·rw[yL hl]at hb;split at hb
  ·rename_i e;subst e;rw[D8]at hb;subst hb;exact (lJ hu wc).2 (.root h3)
  ·exact h.le i d hb
 ·rw[yL hl];split
  ·exact D8.2 rfl
  ·rename_i hne;rcases Nat.lt_succ_iff_lt_or_eq.1 hk with hk | rfl
   ·exact h.rt k hk
   ·exact absurd rfl hne
 ·have hne:(c.roots.getD j 0).toNat≠i:=fun e=>by subst e;exact hi h3
  rw[List.getD_eq_getElem?_getD,List.getElem?_set_ne hne,←List.getD_eq_getElem?_getD];exact h.z i hi
theorem sR.all (wc:WC u c)(h:sR u c m E c.roots.length):EF u c m E:=by refine ⟨h.es,h.le,fun i hi=>?_⟩;obtain ⟨k,hk,he⟩:=List.getElem_of_mem hi;have:=h.rt k hk;rw[show c.roots.getD k 0=c.roots[k] from by simp[List.getD,hk],he]at this;simpa using this
variable {i:Nat}
theorem yO (wc:WC u c):i∈qM c↔(i:Int)∈c.roots:=by
 unfold qM;constructor
 ·intro h;obtain ⟨r,hr,rfl⟩:=List.mem_map.1 h;have:=wc.rr r hr;rwa[show ((r.toNat:Nat):Int)=r from by omega]
 ·intro h;exact List.mem_map.2 ⟨_,h,by simp⟩
theorem T9 (wc:WC u c):g8 c.roots=(qM c).map l5:=by unfold qM g8;rw[List.map_map];refine List.map_congr_left fun r hr=>?_;have:=wc.rr r hr;show AV.int .i64 r=l5 r.toNat;rw[l5,show ((r.toNat:Nat):Int)=r from by omega]
theorem yP:(qM c).length=c.roots.length:=by simp[qM]
theorem sI {r:List Nat}:∀n,bY r 0 n=0
 | 0=>rfl
 | n+1=>by rw[KM (by simp)];exact sI n
theorem NK.start (wc:WC u c)(h:sR u c m E c.roots.length):NK u c m E (qM c):=by
 refine ⟨h.all wc,fun i hi=>?_,fun i hi hn pc hp ho j hj=>?_⟩
 ·have:=wc.rr _ ((yO wc).1 hi);omega
 ·have h0:=h.z i (fun hm=>hn ((yO wc).2 hm));rw[h0]at hj;rw[show applyN ((inS u c m i).getD pc []) 0=0 from sI _]at hj;simp at hj
variable {todo:List Nat}
theorem NK.pop (h:NK u c m E (todo++[i])):i<c.insts.length∧NL u c m i (wE c E todo.length) E todo 0:=by refine ⟨h.td i (by simp),h.g,fun x hx=>h.td x (by simp[hx]),fun x hx hn hne=>h.cl x hx (by simp[hn,hne]),fun _ pc hp=>by omega,Nat.le_refl _⟩
variable {k:Nat}
theorem ClE.grow {pc y:Nat}(hc:ClE u c m E i pc)(hk:k<E.length)(hne:i≠k)(hy:∀j,bt E k j=true→y.testBit j=true):ClE u c m (E.set k y) i pc:=fun ho j hj=>by
 rw[List.getD_eq_getElem?_getD (l:=E.set k y),List.getElem?_set_ne (Ne.symm hne),←List.getD_eq_getElem?_getD]at hj;have h1:=hc ho j hj;rw[yL hk];split
 ·rename_i e;rw[e]at h1;exact hy j h1
 ·exact h1
theorem EF.set (hu:WU u)(wc:WC u c)(h:EF u c m E){pc:Nat}(hi:i<c.insts.length)(hp:pc<u7 u c i)(ho:(dP u c i pc).op=2) :
  EF u c m (E.set (dB c i pc) (E.getD (dB c i pc) 0|||qL u c m E i pc)):=by
 have hk:=jC hu wc hi hp ho;have hl:dB c i pc<E.length:=by rw[h.es.1];exact hk
 refine ⟨h.es.set (Nat.or_lt_two_pow (h.es.get _) (nK ((wR i).get hp) _)),fun x d hb=>?_,fun x hx=>?_⟩
 ·rw[yL hl]at hb;split at hb
  ·rename_i e;subst e;rw[Nat.testBit_or,Bool.or_eq_true]at hb;rcases hb with hb | hb
   ·exact h.le _ d hb
   ·obtain ⟨d0,k1,k2⟩:=(S8 hu wc hi hp).1 hb;exact (lJ hu wc).2 (.call ((lJ hu wc).1 (h.le _ _ k1)) k2 ho)
  ·exact h.le x d hb
 ·rw[yL hl];split
  ·rename_i e;subst e;rw[Nat.testBit_or,Bool.or_eq_true];exact .inl (h.rt _ hx)
  ·exact h.rt x hx
variable {x:Nat}
theorem EF.up (h:EF u c m E)(hk:k<c.insts.length)(hx:x<2^(kM u m+1))(hne:¬∀j,x.testBit j=true→bt E k j=true):E.sum<(E.set k (E.getD k 0|||x)).sum∧(E.set k (E.getD k 0|||x)).sum≤512*c.insts.length:=by
 refine ⟨TJ (by rw[h.es.1];exact hk) (fun j hj=>?_) (fun he=>hne fun j hj=>?_),XJ (h.es.set (Nat.or_lt_two_pow (h.es.get _) hx))⟩
 ·rw[Nat.testBit_or,Bool.or_eq_true];exact .inl hj
 ·have:=congrArg (fun n=>n.testBit j) he;simp only[Nat.testBit_or]at this;unfold bt;rw[this,hj,Bool.or_true]
theorem or_in {a:Nat}(h:a.testBit j=true):(a|||x).testBit j=true:=by rw[Nat.testBit_or,h,Bool.true_or]
theorem or_same:(E.getD k 0|||x)=E.getD k 0↔∀j,x.testBit j=true→bt E k j=true:=by
 constructor
 ·intro h j hj;have:=congrArg (fun n=>n.testBit j) h;simp only[Nat.testBit_or]at this;unfold bt;rw[←this,hj,Bool.or_true]
 ·intro h;refine rN fun j=>?_;rw[Nat.testBit_or,Bool.or_eq_true];exact ⟨fun hj=>hj.elim id (h j),.inl⟩
variable {w0:Nat}
theorem NL.skip (h:NL u c m i w0 E todo j)(hs:(dP u c i j).op=2→∀q,(qL u c m E i j).testBit q=true→bt E (dB c i j) q=true):NL u c m i w0 E todo (j+1):=
 ⟨h.g,h.td,h.cl,fun hn pc hp=>by
  rcases Nat.lt_succ_iff_lt_or_eq.1 hp with hp | rfl
  ·exact h.ci hn pc hp
  ·exact hs,h.wt⟩
theorem NL.grow (hu:WU u)(wc:WC u c)(h:NL u c m i w0 E todo j)(hi:i<c.insts.length)(hj:j<u7 u c i)(ho:(dP u c i j).op=2)(hne:¬∀q,(qL u c m E i j).testBit q=true→bt E (dB c i j) q=true) :
  NL u c m i w0 (E.set (dB c i j) (E.getD (dB c i j) 0|||qL u c m E i j)) (todo++[dB c i j]) (j+1):=by
 have hk:=jC hu wc hi hj ho;have hl:dB c i j<E.length:=by rw[h.g.es.1];exact hk
 have hx:=nK (s:=E.getD i 0) ((wR (u:=u) (c:=c) (m:=m) i).get hj);obtain ⟨s1,s2⟩:=h.g.up hk hx hne;have hw:=h.wt;refine ⟨h.g.set hu wc hi hj ho,fun x hx=>?_,fun x hx hn hxi pc hp=>?_,fun hn pc hp=>?_,?_⟩
 ·rcases List.mem_append.1 hx with hx | hx
  ·exact h.td x hx
  ·rw[List.mem_singleton.1 hx];exact hk
 ·simp only[List.mem_append,List.mem_singleton,not_or]at hn;exact (h.cl x hx hn.1 hxi pc hp).grow hl hn.2 fun q hq=>or_in hq
 ·simp only[List.mem_append,List.mem_singleton,not_or]at hn;rcases Nat.lt_succ_iff_lt_or_eq.1 hp with hp | rfl
  ·exact (h.ci hn.1 pc hp).grow hl hn.2 fun q hq=>or_in hq
  ·intro _ q hq;rw[List.getD_eq_getElem?_getD (l:=E.set _ _),List.getElem?_set_ne (Ne.symm hn.2),←List.getD_eq_getElem?_getD]at hq;rw[yL hl,if_pos rfl,Nat.testBit_or,Bool.or_eq_true];exact .inr hq
 ·unfold wE at hw ⊢;rw[List.length_append,List.length_singleton];unfold qL;omega
theorem NL.fin (h:NL u c m i w0 E todo (u7 u c i)):NK u c m E todo:=
 ⟨h.g,h.td,fun x hx hn pc hp=>by
  by_cases e:x=i
  ·subst e;exact h.ci hn pc hp
  ·exact h.cl x hx hn e pc hp⟩
theorem EF.done (hu:WU u)(wc:WC u c)(h:EF u c m E)(hc:∀i pc,i<c.insts.length→pc<u7 u c i→ClE u c m E i pc):E=kN u c m:=ent_eq hu wc h.es h.le h.rt hc
theorem NK.done (hu:WU u)(wc:WC u c)(h:NK u c m E []):E=kN u c m:=h.g.done hu wc fun i pc hi hp=>h.cl i hi (by simp) pc hp
theorem M9.start (h:EF u c m E):M9 u c m E E false 0 0:=⟨h,Nat.le_refl _,fun e=>(by cases e),fun _=>⟨rfl,fun x hx=>by omega,fun pc hp=>by omega⟩⟩
variable {E0:List Nat}{again:Bool}
theorem M9.skip (h:M9 u c m E0 E again i j)(hs:(dP u c i j).op=2→∀q,(qL u c m E i j).testBit q=true→bt E (dB c i j) q=true):M9 u c m E0 E again i (j+1):=
 ⟨h.g,h.mo,h.up,fun e=>⟨(h.no e).1,(h.no e).2.1,fun pc hp=>by
  rcases Nat.lt_succ_iff_lt_or_eq.1 hp with hp | rfl
  ·exact (h.no e).2.2 pc hp
  ·exact hs⟩⟩
theorem M9.grow (hu:WU u)(wc:WC u c)(h:M9 u c m E0 E again i j)(hi:i<c.insts.length)(hj:j<u7 u c i)(ho:(dP u c i j).op=2)(hne:¬∀q,(qL u c m E i j).testBit q=true→bt E (dB c i j) q=true) :
  M9 u c m E0 (E.set (dB c i j) (E.getD (dB c i j) 0|||qL u c m E i j)) true i (j+1):=by
 have hx:=nK (s:=E.getD i 0) ((wR (u:=u) (c:=c) (m:=m) i).get hj);obtain ⟨s1,s2⟩:=h.g.up (jC hu wc hi hj ho) hx hne;have:=h.mo;exact ⟨h.g.set hu wc hi hj ho,by unfold qL;omega,fun _=>by unfold qL;omega,fun e=>(by cases e)⟩
theorem M9.fin (h:M9 u c m E0 E again i (u7 u c i)):M9 u c m E0 E again (i+1) 0:=
 ⟨h.g,h.mo,h.up,fun e=>⟨(h.no e).1,fun x hx pc hp=>by
  rcases Nat.lt_succ_iff_lt_or_eq.1 hx with hx | rfl
  ·exact (h.no e).2.1 x hx pc hp
  ·exact (h.no e).2.2 pc hp,fun pc hp=>by omega⟩⟩
theorem M9.done (hu:WU u)(wc:WC u c)(h:M9 u c m E0 E false c.insts.length 0):E=kN u c m:=h.g.done hu wc fun i pc hi hp=>(h.no rfl).2.1 i hi pc hp
theorem mEnt_lt (h:M9 u c m E0 E again i j):mEnt c E again<mEnt c E0 true:=by
 have h1:=XJ h.g.es;have h2:=h.mo;unfold mEnt;cases again with
 | false=>simp
 | true=>have:=h.up rfl;simp;omega
theorem U0 (hi:i<c.insts.length):(AS u c m).getD i 0=applyN ((cR u c m).getD i []) ((kN u c m).getD i 0):=by simp[AS,List.getD,hi]
end
section
variable {u:Un}{c:Clo}{m:Nat}
variable {x:Nat}
theorem UX (hu:WU u)(wc:WC u c){d:Nat}:bt (kN u c m) x d=true↔((x:Int)∈c.roots∧d=0)∨∃i pc,i<c.insts.length∧pc<u7 u c i∧(dP u c i pc).op=2∧dB c i pc=x∧((lZ u c m i).getD pc 0).testBit d=true:=by
 rw[lJ hu wc];constructor
 ·intro h;cases h with
  | root h=>exact .inl ⟨h,rfl⟩
  | call h1 h2 h3=>
   have hi:=(h1.lt hu wc).1;have hp:=(h2.lt hu wc hi).1;exact .inr ⟨_,_,hi,hp,h3,rfl,(M3 hu wc hi hp).2 ⟨_,h1,h2⟩⟩
 ·rintro (⟨h,rfl⟩ | ⟨i,pc,hi,hp,ho,rfl,hb⟩)
  ·exact .root h
  ·obtain ⟨d0,h1,h2⟩:=(M3 hu wc hi hp).1 hb;exact .call h1 h2 ho
def UY (c:Clo)(x w j:Nat):Prop:=(w=0∨w=1)∧(w=1↔∃k,k<j∧c.roots.getD k 0=(x:Int))
theorem UY.start:UY c x 0 0:=⟨.inl rfl,⟨fun h=>by omega,fun ⟨k,h,_⟩=>by omega⟩⟩
structure D9 (u:Un)(c:Clo)(m x w i j:Nat):Prop where
 lt:w<2^(kM u m+1)
 bits:∀d,w.testBit d=true↔((x:Int)∈c.roots∧d=0)∨∃a b,(a<i∨a=i∧b<j)∧a<c.insts.length∧b<u7 u c a∧(dP u c a b).op=2∧dB c a b=x∧((lZ u c m a).getD b 0).testBit d=true
variable {w:Nat}
theorem UY.go (h:UY c x w c.roots.length):D9 u c m x w 0 0:=by
 have key:w=1↔(x:Int)∈c.roots:=h.2.trans ⟨fun ⟨k,hk,he⟩=>by rw[←he];exact j4 hk,fun hx=>by obtain ⟨k,hk,he⟩:=List.getElem_of_mem hx;exact ⟨k,hk,by simp[List.getD,hk,he]⟩⟩
 have h1:=h.1;have h2:=XS (u:=u) (m:=m);refine ⟨by omega,fun d=>⟨fun hd=>?_,fun hd=>?_⟩⟩
 ·rcases h1 with rfl | rfl
  ·simp at hd
  ·exact .inl ⟨key.1 rfl,D8.1 hd⟩
 ·rcases hd with ⟨hx,rfl⟩ | ⟨a,b,hab,_⟩
  ·rw[key.2 hx];exact D8.2 rfl
  ·omega
variable {i j:Nat}
theorem D9.skip (h:D9 u c m x w i j)(hn:¬((dP u c i j).op=2∧dB c i j=x)):D9 u c m x w i (j+1):=by
 refine ⟨h.lt,fun d=>(h.bits d).trans ⟨?_,?_⟩⟩
 ·rintro (hd | ⟨a,b,hab,hr⟩)
  ·exact .inl hd
  ·exact .inr ⟨a,b,by omega,hr⟩
 ·rintro (hd | ⟨a,b,hab,k1,k2,k3,k4,k5⟩)
  ·exact .inl hd
  ·refine .inr ⟨a,b,?_,k1,k2,k3,k4,k5⟩;by_cases e:a=i∧b=j
   ·obtain ⟨rfl,rfl⟩:=e;exact absurd ⟨k3,k4⟩ hn
   ·omega
theorem D9.add (h:D9 u c m x w i j)(hi:i<c.insts.length)(hj:j<u7 u c i)(ho:(dP u c i j).op=2)(hx:dB c i j=x):D9 u c m x (w|||(lZ u c m i).getD j 0) i (j+1):=by
 refine ⟨Nat.or_lt_two_pow h.lt (rQ hj),fun d=>?_⟩;rw[Nat.testBit_or,Bool.or_eq_true,h.bits d];constructor
 ·rintro ((hd | ⟨a,b,hab,hr⟩) | hd)
  ·exact .inl hd
  ·exact .inr ⟨a,b,by omega,hr⟩
  ·exact .inr ⟨i,j,by omega,hi,hj,ho,hx,hd⟩
 ·rintro (hd | ⟨a,b,hab,k1,k2,k3,k4,k5⟩)
  ·exact .inl (.inl hd)
  ·by_cases e:a=i∧b=j
   ·obtain ⟨rfl,rfl⟩:=e;exact .inr k5
   ·exact .inl (.inr ⟨a,b,by omega,k1,k2,k3,k4,k5⟩)
theorem D9.done (hu:WU u)(wc:WC u c)(h:D9 u c m x w c.insts.length 0):(kN u c m).getD x 0=w:=rN fun d=>by
 refine Iff.trans (UX hu wc (x:=x) (d:=d)) (Iff.trans ⟨?_,?_⟩ (h.bits d).symm)
 ·rintro (hd | ⟨a,b,k1,hr⟩)
  ·exact .inl hd
  ·exact .inr ⟨a,b,.inl k1,k1,hr⟩
 ·rintro (hd | ⟨a,b,_,hr⟩)
  ·exact .inl hd
  ·exact .inr ⟨a,b,hr⟩
structure xM (u:Un)(c:Clo)(m i w j:Nat):Prop where
 lt:w<2^(kM u m+1)
 bits:∀d,w.testBit d=true↔∃b,b<j∧b<u7 u c i∧(dP u c i b).op=8∧((lZ u c m i).getD b 0).testBit d=true
theorem xM.start:xM u c m i 0 0:=⟨Nat.two_pow_pos _,fun d=>by simp⟩
theorem xM.skip (h:xM u c m i w j)(hn:¬(dP u c i j).op=8):xM u c m i w (j+1):=by
 refine ⟨h.lt,fun d=>(h.bits d).trans ⟨fun ⟨b,k1,k2⟩=>⟨b,by omega,k2⟩,fun ⟨b,k1,k2,k3,k4⟩=>⟨b,?_,k2,k3,k4⟩⟩⟩;by_cases e:b=j
 ·subst e;exact absurd k3 hn
 ·omega
theorem xM.add (h:xM u c m i w j)(hj:j<u7 u c i)(ho:(dP u c i j).op=8):xM u c m i (w|||(lZ u c m i).getD j 0) (j+1):=by
 refine ⟨Nat.or_lt_two_pow h.lt (rQ hj),fun d=>?_⟩;rw[Nat.testBit_or,Bool.or_eq_true,h.bits d];constructor
 ·rintro (⟨b,k1,k2⟩ | hd)
  ·exact ⟨b,by omega,k2⟩
  ·exact ⟨j,by omega,hj,ho,hd⟩
 ·rintro ⟨b,k1,k2,k3,k4⟩;by_cases e:b=j
  ·subst e;exact .inr k4
  ·exact .inl ⟨b,by omega,k2,k3,k4⟩
theorem xM.done (hu:WU u)(wc:WC u c)(hi:i<c.insts.length)(h:xM u c m i w (u7 u c i)):(AS u c m).getD i 0=w:=rN fun d=>by
 have hR:Rl (kM u m) ((cR u c m).getD i []):=w7.get hi;rw[U0 hi,M1 hR,h.bits d];constructor
 ·rintro ⟨d0,h1,h2⟩;obtain ⟨pc,k1,k2,k3⟩:=(oK hu wc hi).1 h2;exact ⟨pc,k1,k1,k2,(M3 hu wc hi k1).2 ⟨d0,(lJ hu wc).1 h1,k3⟩⟩
 ·rintro ⟨pc,_,k1,k2,k3⟩;obtain ⟨d0,h1,h2⟩:=(M3 hu wc hi k1).1 k3;exact ⟨d0,(lJ hu wc).2 h1,(oK hu wc hi).2 ⟨pc,k1,k2,h2⟩⟩
theorem XT:((List.range 512).all fun s=>(bits .andNot .i64 (s:Int) 1 != 0)==decide (1<(s:Int))&&(bits .and .i64 (s:Int) 1==0)==decide (s%2=0))=true:=by kernel_rfl
theorem U1 {s:Nat}(hs:s<512):bits .andNot .i64 (s:Int) 1=0↔s≤1:=by
 have:=List.all_eq_true.1 XT s (List.mem_range.2 hs);simp only[Bool.and_eq_true,beq_iff_eq]at this;have h1:=this.1;by_cases e:bits .andNot .i64 (s:Int) 1=0
 ·simp only[e,bne_self_eq_false]at h1;have:=of_decide_eq_false h1.symm;exact ⟨fun _=>by omega,fun _=>e⟩
 ·have e2:(bits .andNot .i64 (s:Int) 1 != 0)=true:=by simpa using e
  rw[e2]at h1;have:=of_decide_eq_true h1.symm;exact ⟨fun h=>absurd h e,fun h=>by omega⟩
theorem BJ {s:Nat}(hs:s<512):bits .and .i64 (s:Int) 1=0↔s%2=0:=by
 have:=List.all_eq_true.1 XT s (List.mem_range.2 hs);simp only[Bool.and_eq_true,beq_iff_eq]at this;have h1:=this.2;by_cases e:bits .and .i64 (s:Int) 1=0
 ·simp only[e,beq_self_eq_true]at h1;exact ⟨fun _=>of_decide_eq_true h1.symm,fun _=>e⟩
 ·have e2:(bits .and .i64 (s:Int) 1==0)=false:=by simpa using e
  rw[e2]at h1;exact ⟨fun h=>absurd h e,fun h=>absurd h (of_decide_eq_false h1.symm)⟩
end
end Go.Un
end
section
namespace Go.Proofs.YtonbocmibeikmaaGreat
open Go.Ab Go.Un
noncomputable def sS (u:Un)(c:Clo)(mx j:Nat):List (List (List Nat)):=(List.range j).map (kH u c mx (cR u c mx))
def eJ (L:List (List (List Nat))):List AV:=L.map fun T=>.vec T.length (n7 T)
variable {L:List (List (List Nat))}
theorem mS:(eJ L).length=L.length:=by simp[eJ]
variable {u:Un}{c:Clo}{mx j:Nat}
theorem jE:(sS u c mx j).length=j:=by simp[sS]
theorem N0:sS u c mx 0=[]:=rfl
theorem MP:sS u c mx (j+1)=sS u c mx j++[kH u c mx (cR u c mx) j]:=by simp[sS,List.range_succ]
variable {T:List (List Nat)}
theorem yQ:eJ (L++[T])=eJ L++[.vec T.length (n7 T)]:=by simp[eJ]
theorem UZ (L:List (List (List Nat))):v5 (eJ L):=v5.map fun _=>.vec
variable {i:Nat}
theorem read_TT (h:i<L.length):List.take 1 (List.drop i (eJ L))=[.vec (L.getD i []).length (n7 (L.getD i []))]:=by unfold eJ;rw[←List.map_drop,←List.map_take,List.drop_eq_getElem_cons h,List.take_succ_cons,List.take_zero];simp[List.getD,h]
theorem VA (h:i<j):(sS u c mx j).getD i []=kH u c mx (cR u c mx) i:=by simp[sS,List.getD,h]
theorem oP:(kH u c mx (cR u c mx) i).length=u7 u c i:=(iP _ _).1
theorem E4 (h:i<j):List.take 1 (List.drop i (eJ (sS u c mx j)))=[.vec (u7 u c i) (n7 (kH u c mx (cR u c mx) i))]:=by rw[read_TT (by rw[jE];exact h),VA h,oP]
theorem E5 {l:List Nat}(h:i<l.length):List.take i (l.map l5)++AV.int .i64 1::List.drop (i+1) (l.map l5)=(l.set i 1).map l5:=wD h
theorem eE:(kN u c mx).length=c.insts.length:=rP.1
theorem qN:(AS u c mx).length=c.insts.length:=by simp[AS]
theorem dY:(jR u c mx).length=c.insts.length:=by simp[jR]
theorem kK (h:i<c.insts.length):(jR u c mx).getD i []=lZ u c mx i:=by simp[jR,List.getD,h]
theorem E6 (h:i<c.insts.length):List.take 1 (List.drop i (n7 (jR u c mx)))=[.vec (u7 u c i) ((lZ u c mx i).map l5)]:=by rw[D2 (by rw[dY];exact h),kK h,bR,aQ]
variable {h l:c6}{b0 b1 b2 b3 b4:Blk}{g n:Nat}
theorem app_tt5 {m:Nat}(hn:L.length=n)(hx:T.length=m)(hl:n<100000):j0 cfg 32 (h++(b0::b1::b2::b3::b4::o8 32 1 g (eJ L)::⟨0,false,32,1,[.vec m (n7 T)],0⟩::l)) (.own (h.length+5) g 0 n) (.own (h.length+6) 0 0 1)=some (.own (h.length+5) (g+1) 0 (n+1),h++(b0::b1::b2::b3::b4::o8 32 1 (g+1) (eJ (L++[T]))::⟨0,false,32,1,[.vec m (n7 T)],0⟩::l)):=by subst hn hx;rw[u3 (C:=cfg) (K:=1) (m:=1) (new:=[.vec T.length (n7 T)]) (zs:=eJ L) t23 rfl (by omega) (by simp[eJ]) rfl (by omega) t98 rfl (by decide) (by omega),←yQ,l8];rfl
theorem app_tt3 {m:Nat}(hn:L.length=n)(hx:T.length=m)(hl:n<100000):j0 cfg 32 (h++(b0::b1::b2::o8 32 1 g (eJ L)::⟨0,false,32,1,[.vec m (n7 T)],0⟩::l)) (.own (h.length+3) g 0 n) (.own (h.length+4) 0 0 1)=some (.own (h.length+3) (g+1) 0 (n+1),h++(b0::b1::b2::o8 32 1 (g+1) (eJ (L++[T]))::⟨0,false,32,1,[.vec m (n7 T)],0⟩::l)):=by subst hn hx;rw[u3 (C:=cfg) (K:=1) (m:=1) (new:=[.vec T.length (n7 T)]) (zs:=eJ L) t23 rfl (by omega) (by simp[eJ]) rfl (by omega) t98 rfl (by decide) (by omega),←yQ,l8];rfl
theorem MQ {b5:Blk}{R:List Int}(hn:R.length=n):EO cfg 3 (h++(b0::b1::b2::b3::b4::b5::⟨0,false,3,1,(List.replicate n (0:Nat)).map l5,0⟩::l)) (.own (h.length+6) 0 0 n) (.vec n (g8 R))=some (.int .i64 ((n:Nat):Int),h++(b0::b1::b2::b3::b4::b5::⟨0,false,3,1,g8 R,0⟩::l)):=by subst hn;have e1:cfg.sz 3=1:=rfl;simp[EO,rd,lenOf,e1,l9,mA,p8,l8,over]
theorem MR {b5 b7:Blk}{W:List Nat}{q:Nat}(hn:n≤W.length)(hl:n<1000000000):j0 cfg 3 (h++(b0::b1::b2::b3::b4::b5::⟨g,false,3,1,W.map l5,0⟩::b7::⟨0,false,3,1,[.int .i64 ((q:Nat):Int)],0⟩::l)) (.own (h.length+6) g 0 n) (.own (h.length+8) 0 0 1)=some (.own (h.length+6) (xL W g n) 0 (n+1),h++(b0::b1::b2::b3::b4::b5::⟨xL W g n,false,3,1,(sQ W n q).map l5,0⟩::b7::⟨0,false,3,1,[.int .i64 ((q:Nat):Int)],0⟩::l)):=by
  have e1:cfg.sz 3=1:=rfl;have e2:(cfg.ti 3).bytes=8:=rfl;have h1:n+1≤maxLen:=by
    have:(1000000001:Nat)≤maxLen:=by decide
    omega
  have h2:(n+1)*8≤140737488355328:=by omega
  by_cases hc:n+1≤W.length
  · have e3:List.take n (W.map l5)++AV.int .i64 ((q:Nat):Int)::List.drop (n+1) (W.map l5)=(W.set n q).map l5:=wD (by omega)
    simp[j0,rd,lenOf,e1,e2,h1,h2,hc,hn,over,p8,l8,sQ,xL];rw[e3];simp
  · have h3:List.take n (W.map l5)=W.map l5:=List.take_of_length_le t55
    have h4:List.take n W=W:=List.take_of_length_le (by omega);simp[j0,rd,lenOf,e1,e2,h1,h2,hc,hn,p8,l8,sQ,xL,h4,l5];exact h3
theorem Ey {β len:Nat}{H:c6}{a:List Nat}(hb:H[β]?=some ⟨g,false,3,1,a.map l5,0⟩)(hn:n≤β)(hl:a.length=len):gH n H 6 (.own β g 0 len)=some (.vec len (a.map l5)):=by subst hl;rw[aY,if_neg (by omega),dE,hb];simp only[hn,and_self,if_true,Bool.false_eq_true,if_false,Nat.zero_add,Nat.mul_one,List.length_map,Nat.le_refl,List.drop_zero];rw[List.take_of_length_le (by rw[List.length_map];exact Nat.le_refl _),(N4 a).frz]
theorem E7 {f:AV→Bool}{l:List Nat}:(l.map l5).all f=l.all fun n=>f (.int .i64 ((n:Nat):Int)):=by rw[List.all_map];rfl
theorem U2 {l:List Nat}:(l.all fun _=>true)=true:=by simp
theorem mayB {s:Nat}(hs:s<512):(bits .andNot .i64 (s:Int) 1 != 0)=decide (1<s):=by have:=U1 hs;rw[Bool.eq_iff_iff];simp only[bne_iff_ne,ne_eq,decide_eq_true_eq];rw[this];omega
def qO (T:List Nat)(j:Nat):List Nat:=T.take j++List.replicate (T.length-j) 0
theorem yR {T:List Nat}:qO T 0=List.replicate T.length 0:=by simp[qO]
theorem N1 {T:List Nat}:qO T T.length=T:=by simp[qO]
theorem mT {T:List Nat}(h:j≤T.length):(qO T j).length=T.length:=by simp[qO];omega
theorem yS {T:List Nat}(h:j<T.length):(qO T j).set j (T.getD j 0)=qO T (j+1):=by unfold qO;rw[List.set_append_right _ _ t55,List.length_take,Nat.min_eq_left (by omega),Nat.sub_self,show T.length-j=(T.length-(j+1))+1 from by omega,List.replicate_succ,List.set_cons_zero,mQ h,List.append_assoc];rfl
theorem wZ {x:AV}{R:List AV}(h:i≤T.length):List.take 1 (List.drop i (n7 (T.take i)++x::R))=[x]:=by
  have e:(n7 (T.take i)).length=i:=by rw[v9,List.length_take,Nat.min_eq_left h]
  rw[List.drop_append_of_le_length (by omega),List.drop_of_length_le (by omega),List.nil_append,List.take_succ_cons,List.take_zero]
attribute [local go_sem] rd bR u5 z4 s6 o4 l9 bX v9 Int.natCast_nonneg Int.natCast_inj bV gD fA gE fM oN D2 wV jT wW T8 lL sD sE oO List.length_set List.length_replicate Int.toNat_natCast_add_one eT wrap64 M6 List.length_map kJ jD qK uA uB D7 jT mS jE E4 E5 MQ wZ mT eE dY qN E6 v9 E7 U2 orN wD
section
attribute [local go_sem] app_tt5 MR
theorem c_solve (hu:WU u)(wc:WC u c)(hmx:mx<u.mutexes.length):CB 60 [.agg [.vec u.globals.length (g8 u.globals),.vec u.mutexes.length (g6 u.mutexes),.vec u.procs.length (g9 u.procs),.int .i64 u.main],.agg [.vec c.insts.length (j5 c.insts),.vec c.calls.length (j9 c.calls),.vec c.roots.length (g8 c.roots)],.int .i64 ((mx:Nat):Int)] h (.agg [.vec c.insts.length (n7 (cR u c mx)),.vec c.insts.length (eJ (sS u c mx c.insts.length)),.vec c.insts.length ((kN u c mx).map l5)]):=by
  refine .bz Tryz.f60 143 ?_;have hwl:=wc.len;have hk8:kM u mx≤8:=gR;have hk9:gT (u.mutexes.getD mx s8)≤8:=hk8;have hml:=hu.ml;have hrl:=wc.rl;have hrc:c.roots.length≤c.insts.length:=by have:=bW wc.rs wc.rr;omega
  have hel:(kN u c mx).length=c.insts.length:=eE;have hsl:(cR u c mx).length=c.insts.length:=w7.1;have hcl:=wc.cl;refine .z ?_;refine .sg u4 (mkH 11 [0,0,0,7,0,16,48,112,255,0,1023] [7,9,10] [(7,0),(9,1)] [0,128,512,640,1664] [0,1,2,3,4,5,6,7,8]) 2 ?_;refine .rm [true] ?_;refine c136z ?_;refine .cl rfl rfl (fun _=>c_of hu wc hmx) ?_;refine c30z ?_;refine .p 1 ?_;refine .em [true] [128,0] [_] ?_;refine .p 1 ?_;refine .en [true,true] [640,512,128,0] [_,_] ?_;refine .en [true,false,false,false] [1664,640,512,128,0] [_] ?_;refine c100z ?_;refine .po [false,true,true,true,true] ?_;refine c147z ?_;refine .seq ?_;refine .c7 [2,3,4,6,7] ?_;refine c15z ?_;refine g5.mI (β:=h.length+4) (k:=1) t23 rfl ?_;simp only[List.append_assoc,List.cons_append,List.nil_append,p8,l8,List.set_cons_succ,List.set_cons_zero,List.length_append,List.length_cons,List.length_nil,Nat.reduceAdd,Nat.zero_add];refine .s4 (fun m st=>∃(i:Nat),(m=c.insts.length-i∧(i≤c.insts.length))∧st=⟨mkS 143 [(2,AV.int .i64 ((mx:Nat):Int)),(3,AV.ptr h.length 0 0),(4,AV.ptr (h.length+1) 0 0),(6,AV.ptr (h.length+2) 0 0),(7,AV.ptr (h.length+4) 1 0),(28,AV.int .i64 ((c.insts.length:Nat):Int)),(29,AV.int .i64 ((i:Nat):Int))],h++[⟨0,false,30,4,[.vec u.globals.length (g8 u.globals),.vec u.mutexes.length (g6 u.mutexes),.vec u.procs.length (g9 u.procs),.int .i64 u.main],0⟩,⟨0,false,34,3,[.vec c.insts.length (j5 c.insts),.vec c.calls.length (j9 c.calls),.vec c.roots.length (g8 c.roots)],0⟩,⟨0,false,104,3,[.nils,.nils,.nils],0⟩,⟨1,false,3,1,(List.replicate c.insts.length 0).map l5,0⟩,⟨1,false,104,3,[.vec c.insts.length (n7 (cR u c mx)),.own (h.length+5) i 0 i,.own (h.length+3) 1 0 c.insts.length],0⟩,o8 32 1 i (eJ (sS u c mx i))]⟩) (.v ⟨0,⟨rfl,by omega⟩,rfl⟩) ?_ (he:=by (first | rfl | (rw[N0];rfl)));rintro m sl h' ⟨i,⟨hm,hi0⟩,hst⟩;obtain ⟨rfl,rfl⟩:=St.mk.inj hst;clear hst;have hinl:(sS u c mx i).length=i:=jE;refine c10z ?_;refine u2z ?_ ?_
  ·intro e1 qe1;refine c45z ?_;have hi:i<c.insts.length:=by omega
   have hTi0:(kH u c mx (cR u c mx) i).length=u7 u c i:=oP;refine .og u4 (mkH 13 [0,1,0,0,0,0,32,0,252,508,1023,2047,4095] [9,10,12] [] [0,512,1536,5632] [0,1]) 0 ?_;refine c30z ?_;refine .rn [true] ?_;refine .rn [true] ?_;refine c171z ?_;refine .cl rfl rfl (fun _=>M8 hu wc hmx w7 hi (fun l0=>EC hu wc hmx w7 hi _)) ?_;refine .en [true] [512,0] [_] ?_;refine .en [true,false] [1536,512,0] [_] ?_;refine .p 1 ?_;refine .en [true,false,false] [5632,1536,512,0] [_] ?_;refine c140z ?_;refine .c7 [2,3,4,6,7,28,29] ?_;refine .rz ?_;exact ⟨_,by omega,.v ⟨(i+1),⟨rfl,by omega⟩,rfl⟩ (he:=t172) (hk:=by exact (u6.refl _).app rfl ⟨.inl rfl,.inl rfl,.inl rfl,.inl rfl,.inr (fF.get ⟨.vec _ _,.own _ _ _ _ (by simp),.own _ _ _ _ (by simp),trivial⟩),.inr (by rw[o1];exact (UZ _).refs _),trivial⟩)⟩
  intro e1 qe1;refine .exit ?_;obtain rfl:i=c.insts.length:=by omega
  refine g5.nO (γ:=h.length+5) (β:=h.length+4) (k:=1) (len:=c.insts.length) t23 (by rw[mS,jE,Nat.mul_one]) (by omega) (UZ _) t23 (by omega) rfl ?_;simp only[List.append_assoc,List.cons_append,List.nil_append,p8,l8,List.set_cons_succ,List.set_cons_zero,List.length_append,List.length_cons,List.length_nil,Nat.reduceAdd,Nat.zero_add];generalize fG _ _ _ _ _=Ib;refine c223z ?_;refine .c7 [3,4,6,7,9] ?_;refine c19z ?_;refine .s4 (fun m st=>∃(j:Nat) (E:List Nat),(m=c.roots.length-j∧(sR u c mx E j∧j≤c.roots.length))∧st=⟨mkS 143 [(3,AV.ptr h.length 0 0),(4,AV.ptr (h.length+1) 0 0),(6,AV.ptr (h.length+2) 0 0),(7,AV.ptr (h.length+4) 1 0),(9,AV.own (h.length+6) 0 0 c.roots.length),(54,AV.vec c.roots.length (g8 c.roots)),(55,AV.int .i64 ((c.roots.length:Nat):Int)),(56,AV.int .i64 ((j:Nat):Int))],h++[⟨0,false,30,4,[.vec u.globals.length (g8 u.globals),.vec u.mutexes.length (g6 u.mutexes),.vec u.procs.length (g9 u.procs),.int .i64 u.main],0⟩,⟨0,false,34,3,[.vec c.insts.length (j5 c.insts),.vec c.calls.length (j9 c.calls),.vec c.roots.length (g8 c.roots)],0⟩,⟨0,false,104,3,[.nils,.nils,.nils],0⟩,⟨1,false,3,1,E.map l5,0⟩,⟨1,false,104,3,[.vec c.insts.length (n7 (cR u c mx)),.vec c.insts.length (eJ (sS u c mx c.insts.length)),.own (h.length+3) 1 0 c.insts.length],0⟩,Ib,⟨0,false,3,1,(qM c).map l5,0⟩]⟩) (.v ⟨0,(List.replicate c.insts.length 0),⟨rfl,⟨sR.start,by omega⟩⟩,rfl⟩) ?_ (he:=by (rw[T9 wc]));rintro m sl h' ⟨j,E,⟨hm,⟨hR,hj⟩⟩,hst⟩;obtain ⟨rfl,rfl⟩:=St.mk.inj hst;clear hst;have hEl:=hR.es.1;refine c10z ?_;refine u2z ?_ ?_
  ·intro e2 qe2;refine c3z ?_;have hr:=wc.rr _ (j4 (d:=0) (show j<c.roots.length by omega));refine .z ?_;refine c1z ?_;refine .c7 [3,4,6,7,9,54,55,56] ?_;refine .rz ?_;exact ⟨_,by omega,.v ⟨(j+1),(E.set (c.roots.getD j 0).toNat 1),⟨rfl,⟨hR.next hu wc (by omega),by omega⟩⟩,rfl⟩ (he:=t12) (hk:=by exact (u6.refl _).app rfl ⟨.inl rfl,.inl rfl,.inl rfl,.inr ((N4 _).refs _),.inl rfl,.inl rfl,.inl rfl,trivial⟩)⟩
  intro e2 qe2;refine .exit ?_;obtain rfl:j=c.roots.length:=by omega
  change g5 ..;refine .sb ?_;refine .s4 (fun m st=>∃(E:List Nat) (W:List Nat) (l:Nat) (g:Nat),(m=wE c E l∧(NK u c mx E (W.take l)∧l≤W.length∧wE c E l≤70000))∧st=⟨mkS 143 [(3,AV.ptr h.length 0 0),(4,AV.ptr (h.length+1) 0 0),(6,AV.ptr (h.length+2) 0 0),(7,AV.ptr (h.length+4) 1 0),(9,AV.own (h.length+6) g 0 l)],h++[⟨0,false,30,4,[.vec u.globals.length (g8 u.globals),.vec u.mutexes.length (g6 u.mutexes),.vec u.procs.length (g9 u.procs),.int .i64 u.main],0⟩,⟨0,false,34,3,[.vec c.insts.length (j5 c.insts),.vec c.calls.length (j9 c.calls),.vec c.roots.length (g8 c.roots)],0⟩,⟨0,false,104,3,[.nils,.nils,.nils],0⟩,⟨1,false,3,1,E.map l5,0⟩,⟨1,false,104,3,[.vec c.insts.length (n7 (cR u c mx)),.vec c.insts.length (eJ (sS u c mx c.insts.length)),.own (h.length+3) 1 0 c.insts.length],0⟩,Ib,⟨g,false,3,1,W.map l5,0⟩]⟩) (.v ⟨E,(qM c),c.roots.length,0,⟨rfl,⟨by rw[List.take_of_length_le (Nat.le_of_eq yP)];exact NK.start wc hR,Nat.le_of_eq yP.symm,by unfold wE;omega⟩⟩,rfl⟩) ?_;rintro m sl h' ⟨E,W,l,g,⟨hm,⟨hI,hl,hlb⟩⟩,hst⟩;obtain ⟨rfl,rfl⟩:=St.mk.inj hst;clear hst;have hlm:l≤wE c E l:=by unfold wE;omega
  have hEl:=hI.g.es.1;refine c0z ?_;refine u2z ?_ ?_
  ·intro e3 qe3;refine c123z ?_;obtain ⟨k1,rfl⟩:∃k1,l=k1+1:=⟨l-1,by omega⟩;refine .z ?_;refine .c7 [3,4,6,7,9,12] ?_;refine .z ?_;rw[mQ (by omega)]at hI;generalize W.getD k1 0=i at hI ⊢;obtain ⟨hi,hJ0⟩:=hI.pop;have w:=dX wc hi;have w1:=w.lo;have w2:=w.hi;have hsz:(c5 u (itI c i)).length≤1664:=n8 hu w;have hcll:(c.calls.getD i []).length=(c5 u (itI c i)).length:=wc.cll i hi;have hlI:u7 u c i=(c5 u (itI c i)).length:=rfl;have hTl:(kH u c mx (cR u c mx) i).length=u7 u c i:=oP;have hcall:∀j,j<u7 u c i→(dP u c i j).op=2→0≤(c.calls.getD i []).getD j 0∧(c.calls.getD i []).getD j 0<c.insts.length:=fun j hp ho=>by have:=(wc.call i hi j hp).1 (.inl ho);exact ⟨this.1,this.2.1⟩
   refine .ss u4 (mkP 13 [0,1,0,4,0,28,60,124,255,511,1023,2047,0] []) ?_;refine c36z ?_;refine .block ?_;refine .s4 (fun m st=>∃(E1:List Nat) (W1:List Nat) (l1:Nat) (g1:Nat) (j:Nat),(m=u7 u c i-j∧(NL u c mx i (wE c E (W.take k1).length) E1 (W1.take l1) j∧l1≤W1.length∧j≤u7 u c i))∧st=⟨mkS 143 [(3,AV.ptr h.length 0 0),(4,AV.ptr (h.length+1) 0 0),(6,AV.ptr (h.length+2) 0 0),(7,AV.ptr (h.length+4) 1 0),(9,AV.own (h.length+6) g1 0 l1),(12,AV.int .i64 ((i:Nat):Int)),(89,AV.vec (c5 u (itI c i)).length (p9 (c5 u (itI c i)))),(90,AV.int .i64 (((c5 u (itI c i)).length:Nat):Int)),(91,AV.int .i64 ((j:Nat):Int))],h++[⟨0,false,30,4,[.vec u.globals.length (g8 u.globals),.vec u.mutexes.length (g6 u.mutexes),.vec u.procs.length (g9 u.procs),.int .i64 u.main],0⟩,⟨0,false,34,3,[.vec c.insts.length (j5 c.insts),.vec c.calls.length (j9 c.calls),.vec c.roots.length (g8 c.roots)],0⟩,⟨0,false,104,3,[.nils,.nils,.nils],0⟩,⟨1,false,3,1,E1.map l5,0⟩,⟨1,false,104,3,[.vec c.insts.length (n7 (cR u c mx)),.vec c.insts.length (eJ (sS u c mx c.insts.length)),.own (h.length+3) 1 0 c.insts.length],0⟩,Ib,⟨g1,false,3,1,W1.map l5,0⟩]⟩) (.v ⟨E,W,k1,g,0,⟨rfl,⟨hJ0,by omega,by omega⟩⟩,rfl⟩) ?_;rintro m sl h' ⟨E1,W1,l1,g1,j,⟨hm,⟨hJ,hl1,hj⟩⟩,hst⟩;obtain ⟨rfl,rfl⟩:=St.mk.inj hst;clear hst;have hE1:E1.length=c.insts.length:=hJ.g.es.1;have hlm1:l1≤70000:=by have:=hJ.wt;rw[List.length_take,List.length_take,Nat.min_eq_left hl1,Nat.min_eq_left (show k1≤W.length from by omega)]at this;unfold wE at this hlb;omega
   refine c10z ?_;refine u2z ?_ ?_
   ·intro e4 qe4;refine c3z ?_;have hjp:j<u7 u c i:=by omega
    have hop0:(dP u c i j).op=((c5 u (itI c i)).getD j c8).op:=rfl;refine c66z ?_;refine u2z ?_ ?_
    ·intro e5 qe5;refine c6z ?_;refine .c7 [3,4,6,7,9,12,89,90,91] ?_;refine .rz ?_;exact ⟨_,by omega,.v ⟨E1,W1,l1,g1,(j+1),⟨rfl,⟨hJ.skip (fun ho=>absurd ho (by rw[hop0];omega)),hl1,by omega⟩⟩,rfl⟩ (he:=t12) (hk:=t68)⟩
    intro e5 qe5;refine .sk ?_;refine .c7 [3,4,6,7,9,12,13,89,90,91] ?_;have hop:(dP u c i j).op=2:=by rw[hop0];omega
    obtain ⟨hc1,hc2⟩:=hcall j hjp hop;obtain ⟨q,hqe⟩:∃q:Nat,(c.calls.getD i []).getD j 0=(q:Int):=⟨_,(Int.toNat_of_nonneg hc1).symm⟩;have hqc:dB c i j=q:=by unfold dB;rw[hqe];rfl
    rw[hqe]at hc1 hc2;have hTi:=(iP (u:=u) (c:=c) (m:=mx) (cR u c mx) i).get hjp;have hq3:q<c.insts.length:=by omega
    refine .ss u4 (mkP 24 [0,1,0,7,15,0,63,127,0,256,0,1792,3840,0,16128,32512,0,65536,0,458752,983040,2096896,4194303,8388607] []) ?_;refine .k 8 [] ?_;refine .k 8 [] ?_;refine .k 5 [] ?_;refine .ca rfl rfl (tZ _ _ (hTi.lt hk8) (hJ.g.es.lt _ (j4 (by have:=hJ.g.es.1;omega))) t208) ?_;refine .n [] ?_;refine .c7 [3,4,6,7,9,12,15,16,89,90,91,104] ?_;rw[hqe];have hfl:applyN ((kH u c mx (cR u c mx) i).getD j []) (E1.getD i 0)<512:=Nat.lt_of_lt_of_le (nK hTi _) (sF hk8).2;have hEq:E1.getD q 0<512:=hJ.g.es.lt _ (j4 (by omega));have hne:bits .andNot .i64 ((applyN ((kH u c mx (cR u c mx) i).getD j []) (E1.getD i 0):Nat):Int) ((E1.getD q 0:Nat):Int)=0↔∀b,(qL u c mx E1 i j).testBit b=true→bt E1 (dB c i j) b=true:=by rw[hqc];exact R9 hfl hEq
    refine .z ?_;refine u2z ?_ ?_
    ·intro e6 qe6;refine .c7 [3,4,6,7,9,12,15,16,89,90,91,104] ?_;refine c124z ?_;refine .c7 [3,4,6,7,9,12,15,89,90,91,104] ?_;refine c52z ?_;exact ⟨_,by omega,.v ⟨(E1.set q (E1.getD q 0|||qL u c mx E1 i j)),(sQ W1 l1 q),(l1+1),(xL W1 g1 l1),(j+1),⟨rfl,⟨by rw[yN hl1,←hqc];exact hJ.grow hu wc hi hjp hop (fun hs=>absurd (hne.2 hs) (by assumption)),M7 hl1,by omega⟩⟩,rfl⟩ (he:=t12) (hk:=t68)⟩
    intro e6 qe6;refine c4z ?_;refine .c7 [3,4,6,7,9,12,89,90,91,104] ?_;refine .rz ?_;exact ⟨_,by omega,.v ⟨E1,W1,l1,g1,(j+1),⟨rfl,⟨hJ.skip (fun _=>hne.1 (by assumption)),hl1,by omega⟩⟩,rfl⟩ (he:=t12) (hk:=t68)⟩
   intro e4 qe4;refine .exit ?_;obtain rfl:j=u7 u c i:=by omega
   have hwt:=hJ.wt;rw[List.length_take,List.length_take,Nat.min_eq_left hl1,Nat.min_eq_left (show k1≤W.length from by omega)]at hwt;have hwk:wE c E k1<wE c E (k1+1):=by unfold wE;omega
   exact ⟨_,by omega,.v ⟨E1,W1,l1,g1,⟨rfl,⟨hJ.fin,hl1,by omega⟩⟩,rfl⟩ (he:=t12) (hk:=t68)⟩
  intro e3 qe3;refine .exit ?_;obtain rfl:l=0:=by omega
  have hE:E=(kN u c mx):=NK.done hu wc (by simpa using hI);rw[hE];refine g5.nO (γ:=h.length+3) (β:=h.length+4) (k:=2) (len:=c.insts.length) (by rw[p8];exact congrArg some (bS t157).symm) (by rw[List.length_map,hel,Nat.mul_one]) (by omega) (N4 _) t23 (by omega) rfl ?_;simp only[List.append_assoc,List.cons_append,List.nil_append,p8,l8,List.set_cons_succ,List.set_cons_zero,List.length_append,List.length_cons,List.length_nil,Nat.reduceAdd,Nat.zero_add];generalize fG _ _ _ _ _=Eb;refine c223z ?_;exact .ret (.ex (hq:=by rfl))
end
theorem c_ent (hu:WU u)(wc:WC u c)(hmx:mx<u.mutexes.length):CB 28 [.agg [.vec u.globals.length (g8 u.globals),.vec u.mutexes.length (g6 u.mutexes),.vec u.procs.length (g9 u.procs),.int .i64 u.main],.agg [.vec c.insts.length (j5 c.insts),.vec c.calls.length (j9 c.calls),.vec c.roots.length (g8 c.roots)],.int .i64 ((mx:Nat):Int)] h (.vec c.insts.length ((kN u c mx).map l5)):=by
  refine .bz Tryz.f28 12 ?_;have hwl:=wc.len;have hk8:kM u mx≤8:=gR;have hk9:gT (u.mutexes.getD mx s8)≤8:=hk8;have hml:=hu.ml;have hrl:=wc.rl;have hrc:c.roots.length≤c.insts.length:=by have:=bW wc.rs wc.rr;omega
  have hel:(kN u c mx).length=c.insts.length:=eE;have hsl:(cR u c mx).length=c.insts.length:=w7.1;have hcl:=wc.cl;refine c262z ?_;refine .n ?_;exact .ret (.ex (hq:=by rfl))
theorem c_exi (hu:WU u)(wc:WC u c)(hmx:mx<u.mutexes.length):CB 34 [.agg [.vec u.globals.length (g8 u.globals),.vec u.mutexes.length (g6 u.mutexes),.vec u.procs.length (g9 u.procs),.int .i64 u.main],.agg [.vec c.insts.length (j5 c.insts),.vec c.calls.length (j9 c.calls),.vec c.roots.length (g8 c.roots)],.int .i64 ((mx:Nat):Int)] h (.vec c.insts.length ((AS u c mx).map l5)):=by
  refine .bz Tryz.f34 39 ?_;have hwl:=wc.len;have hk8:kM u mx≤8:=gR;have hk9:gT (u.mutexes.getD mx s8)≤8:=hk8;have hml:=hu.ml;have hrl:=wc.rl;have hrc:c.roots.length≤c.insts.length:=by have:=bW wc.rs wc.rr;omega
  have hel:(kN u c mx).length=c.insts.length:=eE;have hsl:(cR u c mx).length=c.insts.length:=w7.1;have hcl:=wc.cl;have hxl:(AS u c mx).length=c.insts.length:=qN;refine c262z ?_;refine .n ?_;refine .c7 [7] ?_;refine c19z ?_;refine .s4 (fun m st=>∃(i:Nat),(m=c.insts.length-i∧(i≤c.insts.length))∧st=⟨mkS 39 [(7,AV.ptr (h.length+2) 0 0),(8,AV.own (h.length+3) 0 0 c.insts.length),(20,AV.vec c.insts.length (n7 (cR u c mx))),(21,AV.int .i64 ((c.insts.length:Nat):Int)),(22,AV.int .i64 ((i:Nat):Int))],h++[⟨0,false,30,4,[.vec u.globals.length (g8 u.globals),.vec u.mutexes.length (g6 u.mutexes),.vec u.procs.length (g9 u.procs),.int .i64 u.main],0⟩,⟨0,false,34,3,[.vec c.insts.length (j5 c.insts),.vec c.calls.length (j9 c.calls),.vec c.roots.length (g8 c.roots)],0⟩,⟨0,false,104,3,[.vec c.insts.length (n7 (cR u c mx)),.vec c.insts.length (eJ (sS u c mx c.insts.length)),.vec c.insts.length ((kN u c mx).map l5)],0⟩,⟨0,false,3,1,(qO (AS u c mx) i).map l5,0⟩]⟩) (.v ⟨0,⟨rfl,by omega⟩,rfl⟩) ?_ (he:=by (rw[yR,hxl]));rintro m sl h' ⟨i,⟨hm,hi0⟩,hst⟩;obtain ⟨rfl,rfl⟩:=St.mk.inj hst;clear hst;have hfl:(qO (AS u c mx) i).length=c.insts.length:=by rw[mT (by rw[hxl];omega),hxl]
  refine c10z ?_;refine u2z ?_ ?_
  ·intro e1 qe1;refine c45z ?_;have hSi:=(w7 (u:=u) (c:=c) (m:=mx)).get (i:=i) (by omega);refine c93z ?_;refine .ca rfl rfl (tZ _ _ (hSi.lt hk8) (rP.lt _ (j4 (by omega))) (by have:=hSi.1;omega)) ?_;refine c27z ?_;refine .c7 [7,8,20,21,22] ?_;refine .rz ?_;exact ⟨_,by omega,.v ⟨(i+1),⟨rfl,by omega⟩,rfl⟩ (he:=by (rw[←yS (by rw[hxl];omega),U0 (by omega)];exact (List.append_nil _).symm)) (hk:=by exact (u6.refl _).app rfl ⟨.inl rfl,.inl rfl,.inl rfl,.inr ((N4 _).refs _),trivial⟩)⟩
  intro e1 qe1;refine .exit ?_;obtain rfl:i=c.insts.length:=by omega
  refine c197z ?_;exact ⟨_,_,rfl,Ey t23 (by omega) (by rw[hfl]),by (have e:=N1 (T:=AS u c mx);rw[hxl]at e;rw[e])⟩
attribute [local go_sem] overN D6
theorem Fa (hu:WU u)(wc:WC u c)(hmx:mx<u.mutexes.length):CB 22 [.agg [.vec u.globals.length (g8 u.globals),.vec u.mutexes.length (g6 u.mutexes),.vec u.procs.length (g9 u.procs),.int .i64 u.main],.agg [.vec c.insts.length (j5 c.insts),.vec c.calls.length (j9 c.calls),.vec c.roots.length (g8 c.roots)],.int .i64 ((mx:Nat):Int)] h (.vec c.insts.length (n7 (jR u c mx))):=by
  refine .bz Tryz.f22 58 ?_;have hwl:=wc.len;have hk8:kM u mx≤8:=gR;have hk9:gT (u.mutexes.getD mx s8)≤8:=hk8;have hml:=hu.ml;have hrl:=wc.rl;have hrc:c.roots.length≤c.insts.length:=by have:=bW wc.rs wc.rr;omega
  have hel:(kN u c mx).length=c.insts.length:=eE;have hsl:(cR u c mx).length=c.insts.length:=w7.1;have hcl:=wc.cl;have hbl:(jR u c mx).length=c.insts.length:=dY;refine c262z ?_;refine .n ?_;refine .c7 [7] ?_;refine c19z ?_;refine .s4 (fun m st=>∃(i:Nat),(m=c.insts.length-i∧(i≤c.insts.length))∧st=⟨mkS 58 [(7,AV.ptr (h.length+2) 0 0),(8,AV.own (h.length+3) 0 0 c.insts.length),(22,AV.vec c.insts.length (eJ (sS u c mx c.insts.length))),(23,AV.int .i64 ((c.insts.length:Nat):Int)),(24,AV.int .i64 ((i:Nat):Int))],h++[⟨0,false,30,4,[.vec u.globals.length (g8 u.globals),.vec u.mutexes.length (g6 u.mutexes),.vec u.procs.length (g9 u.procs),.int .i64 u.main],0⟩,⟨0,false,34,3,[.vec c.insts.length (j5 c.insts),.vec c.calls.length (j9 c.calls),.vec c.roots.length (g8 c.roots)],0⟩,⟨0,false,104,3,[.vec c.insts.length (n7 (cR u c mx)),.vec c.insts.length (eJ (sS u c mx c.insts.length)),.vec c.insts.length ((kN u c mx).map l5)],0⟩,⟨0,false,22,1,BH c.insts.length i (jR u c mx),0⟩]⟩) (.v ⟨0,⟨rfl,by omega⟩,rfl⟩) ?_ (he:=by (rw[MJ]));rintro m sl h' ⟨i,⟨hm,hi0⟩,hst⟩;obtain ⟨rfl,rfl⟩:=St.mk.inj hst;clear hst;have hrl0:(BH c.insts.length i (jR u c mx)).length=c.insts.length:=D6 hbl (by omega);have htk:(List.take i (jR u c mx)).length=i:=by rw[List.length_take];omega
  refine c10z ?_;refine u2z ?_ ?_
  ·intro e1 qe1;refine c3z ?_;have hi:i<c.insts.length:=by omega
   have hsz:u7 u c i≤1664:=n8 hu (dX wc hi);have hTl:(kH u c mx (cR u c mx) i).length=u7 u c i:=oP;refine c78z ?_;refine .c7 [7,8,9,10,22,23,24] ?_;refine c15z ?_;refine .s4 (fun m st=>∃(j:Nat),(m=u7 u c i-j∧(j≤u7 u c i))∧st=⟨mkS 58 [(7,AV.ptr (h.length+2) 0 0),(8,AV.own (h.length+3) 0 0 c.insts.length),(9,AV.int .i64 ((i:Nat):Int)),(22,AV.vec c.insts.length (eJ (sS u c mx c.insts.length))),(23,AV.int .i64 ((c.insts.length:Nat):Int)),(24,AV.int .i64 ((i:Nat):Int)),(35,AV.vec (u7 u c i) (n7 (kH u c mx (cR u c mx) i))),(36,AV.int .i64 ((u7 u c i:Nat):Int)),(37,AV.int .i64 ((j:Nat):Int))],h++[⟨0,false,30,4,[.vec u.globals.length (g8 u.globals),.vec u.mutexes.length (g6 u.mutexes),.vec u.procs.length (g9 u.procs),.int .i64 u.main],0⟩,⟨0,false,34,3,[.vec c.insts.length (j5 c.insts),.vec c.calls.length (j9 c.calls),.vec c.roots.length (g8 c.roots)],0⟩,⟨0,false,104,3,[.vec c.insts.length (n7 (cR u c mx)),.vec c.insts.length (eJ (sS u c mx c.insts.length)),.vec c.insts.length ((kN u c mx).map l5)],0⟩,⟨0,false,22,1,n7 ((jR u c mx).take i)++.own (h.length+4) 0 0 (u7 u c i)::List.replicate (c.insts.length-(i+1)) AV.nils,0⟩,⟨0,false,3,1,(qO (lZ u c mx i) j).map l5,0⟩]⟩) (.v ⟨0,⟨rfl,by omega⟩,rfl⟩) ?_ (he:=by (rw[yR,aQ]));rintro m sl h' ⟨j,⟨hm,hj0⟩,hst⟩;obtain ⟨rfl,rfl⟩:=St.mk.inj hst;clear hst;have hfl:(qO (lZ u c mx i) j).length=u7 u c i:=by rw[mT (by rw[aQ];omega),aQ]
   refine c10z ?_;refine u2z ?_ ?_
   ·intro e2 qe2;refine c45z ?_;have hTi:=(iP (u:=u) (c:=c) (m:=mx) (cR u c mx) i).get (i:=j) (by omega);refine .so u4 (mkP 14 [0,0,3,7,0,0,0,64,0,448,960,2016,4095,8191] [13]) ?_;refine .k 8 [] ?_;refine .k 3 [] ?_;refine .ca rfl rfl (tZ _ _ (hTi.lt hk8) (rP.lt _ (j4 (by omega))) t208) ?_;refine .n [] ?_;change g5 ..;refine .c7 [7,8,9,22,23,24,35,36,37] ?_;refine .rz ?_;exact ⟨_,by omega,.v ⟨(j+1),⟨rfl,by omega⟩,rfl⟩ (he:=by (rw[←yS (by rw[aQ];omega),tY (by omega)];exact (List.append_nil _).symm)) (hk:=by exact (u6.refl _).app rfl ⟨.inl rfl,.inl rfl,.inl rfl,.inl rfl,.inr ((N4 _).refs _),trivial⟩)⟩
   intro e2 qe2;refine .exit ?_;obtain rfl:j=u7 u c i:=by omega
   have efl:qO (lZ u c mx i) (u7 u c i)=(lZ u c mx i):=by have:=N1 (T:=(lZ u c mx i));rwa[aQ]at this
   rw[efl];refine g5.EB (β:=h.length+3) (γ:=h.length+4) (A:=n7 ((jR u c mx).take i)) (R:=List.replicate (c.insts.length-(i+1)) AV.nils) (zs:=(lZ u c mx i)) (len:=u7 u c i) t23 t23 aQ (by omega) ?_;refine c13z ?_;refine .rz ?_;exact ⟨_,by omega,.v ⟨(i+1),⟨rfl,by omega⟩,rfl⟩ (he:=by (rw[←ML hbl (by omega) (kK (by omega)),aQ];simp only[List.append_assoc,List.cons_append,List.nil_append];rfl)) (hk:=by exact (u6.refl _).app rfl ⟨.inl rfl,.inl rfl,.inl rfl,.inr (MK _),trivial⟩)⟩
  intro e1 qe1;refine .exit ?_;obtain rfl:i=c.insts.length:=by omega
  simp only[UM hbl];refine c197z ?_;exact ⟨_,_,rfl,S9 t23 (by omega) hbl,by rfl⟩
section
attribute [local go_sem] kK aQ
theorem c_may (hu:WU u)(wc:WC u c)(hmx:mx<u.mutexes.length)(hi:i<c.insts.length){pc:Nat}(hp:pc<u7 u c i):CB 19 [.agg [.vec u.globals.length (g8 u.globals),.vec u.mutexes.length (g6 u.mutexes),.vec u.procs.length (g9 u.procs),.int .i64 u.main],.agg [.vec c.insts.length (j5 c.insts),.vec c.calls.length (j9 c.calls),.vec c.roots.length (g8 c.roots)],.int .i64 ((mx:Nat):Int),.int .i64 ((i:Nat):Int),.int .i64 ((pc:Nat):Int)] h (.bool (decide (1<((lZ u c mx i).getD pc 0)))):=by
  refine .bz Tryz.f19 23 ?_;have hwl:=wc.len;have hk8:kM u mx≤8:=gR;have hk9:gT (u.mutexes.getD mx s8)≤8:=hk8;have hml:=hu.ml;have hrl:=wc.rl;have hrc:c.roots.length≤c.insts.length:=by have:=bW wc.rs wc.rr;omega
  have hel:(kN u c mx).length=c.insts.length:=eE;have hsl:(cR u c mx).length=c.insts.length:=w7.1;have hcl:=wc.cl;have hbl:(jR u c mx).length=c.insts.length:=dY;have hbi:(lZ u c mx i).length=u7 u c i:=aQ;have hs5:(lZ u c mx i).getD pc 0<512:=Nat.lt_of_lt_of_le (rQ hp) (sF hk8).2;have hq1:=U1 hs5;have hq2:=BJ hs5;refine c91z ?_;refine .ca rfl rfl (Fa hu wc hmx) ?_;refine .e 8 ?_;refine .n ?_;exact .ret (.ex (hq:=by (exact congrArg AV.bool (mayB hs5))))
end
section
attribute [local go_sem] kK aQ
theorem c_must (hu:WU u)(wc:WC u c)(hmx:mx<u.mutexes.length)(hi:i<c.insts.length){pc:Nat}(hp:pc<u7 u c i):CB 20 [.agg [.vec u.globals.length (g8 u.globals),.vec u.mutexes.length (g6 u.mutexes),.vec u.procs.length (g9 u.procs),.int .i64 u.main],.agg [.vec c.insts.length (j5 c.insts),.vec c.calls.length (j9 c.calls),.vec c.roots.length (g8 c.roots)],.int .i64 ((mx:Nat):Int),.int .i64 ((i:Nat):Int),.int .i64 ((pc:Nat):Int)] h (.bool (decide (0<((lZ u c mx i).getD pc 0)∧((lZ u c mx i).getD pc 0)%2=0))):=by
  refine .bz Tryz.f20 29 ?_;have hwl:=wc.len;have hk8:kM u mx≤8:=gR;have hk9:gT (u.mutexes.getD mx s8)≤8:=hk8;have hml:=hu.ml;have hrl:=wc.rl;have hrc:c.roots.length≤c.insts.length:=by have:=bW wc.rs wc.rr;omega
  have hel:(kN u c mx).length=c.insts.length:=eE;have hsl:(cR u c mx).length=c.insts.length:=w7.1;have hcl:=wc.cl;have hbl:(jR u c mx).length=c.insts.length:=dY;have hbi:(lZ u c mx i).length=u7 u c i:=aQ;have hs5:(lZ u c mx i).getD pc 0<512:=Nat.lt_of_lt_of_le (rQ hp) (sF hk8).2;have hq1:=U1 hs5;have hq2:=BJ hs5;refine c91z ?_;refine .ca rfl rfl (Fa hu wc hmx) ?_;refine .n ?_;refine .c7 [11] ?_;refine c18z ?_;refine .spl 24 rfl rfl (fun e1=>?_) (fun e1=>?_)
  ·try simp only[e1]
   have qe1:=fact e1;refine .m [(2,24)] ?_;exact .ret (.ex (hq:=t127))
  try simp only[e1]
  have qe1:=fact e1;refine .m [(2,24)] ?_;exact .ret (.ex (hq:=t127))
end
end Go.Proofs.YtonbocmibeikmaaGreat
end
