/- My own texts, put together by a program of mine. -/
import Derived.Test.YtonbocmibeikmaaGreatIX18
set_option linter.unusedSimpArgs false
set_option linter.unusedVariables false
set_option maxRecDepth 100000
set_option maxHeartbeats 4000000
section
namespace Go.Proofs.YtonbocmibeikmaaGreat
open Go.Ab
set_option maxRecDepth 1000000
def mA16:List AV:=YZ
def mH16:c6:=[wv2,kE,iK,iV]
def mX16:AV:=.tup [.vec 1 Uq,wv32]
def mK16:c6:=[wv2,kE,iK,iV]
theorem m16:xX jU fJ (kG NZ gG) 37 mA16 mH16=some (mX16,mK16):=by kernel_rfl
def OA:sX:=(37,mA16,mH16,mX16,mK16)::NZ
theorem Q5:dN Tryz.prog jU OA:=aM (cZ lS s7 (bB Q4 aE)) m16 Q4
def mA17:List AV:=[.agg Hi,.agg Up,wv5,.vec 1 Uq,wv32]
def mH17:c6:=[wv2,kE,iK,iV]
def mX17:AV:=.tup [wvI 1,wv5]
def mK17:c6:=[wv2,kE,iK,iV]
theorem m17:xX jU fJ (kG OA gG) 39 mA17 mH17=some (mX17,mK17):=by kernel_rfl
def OB:sX:=(39,mA17,mH17,mX17,mK17)::OA
theorem Q6:dN Tryz.prog jU OB:=aM (cZ lS s7 (bB Q5 aE)) m17 Q5
def mA18:List AV:=[.agg Hi,.agg Up,wv5,.vec 1 Uq,.own 4 0 0 1]
def mH18:c6:=[wv2,kE,iK,iV,⟨0,false,3,1,[wv5],0⟩]
def mX18:AV:=.tup [wv5,wvI 12]
def mK18:c6:=[wv2,kE,iK,iV,⟨0,false,3,1,[wv5],0⟩]
theorem m18:xX jU fJ (kG OB gG) 39 mA18 mH18=some (mX18,mK18):=by kernel_rfl
def ZD:sX:=(39,mA18,mH18,mX18,mK18)::OB
theorem OC:dN Tryz.prog jU ZD:=aM (cZ lS s7 (bB Q6 aE)) m18 Q6
theorem WB:xX jU fJ (kG ZD gG) 41 [] []=some (.bool true,[]):=by kernel_rfl
theorem awake41 (h:c6):CallA Tryz.prog cfg 41 [] h fun y h'=>y=.bool true∧h'=h:=CallA.frame0 (C:=jU) rfl (cZ lS s7 (bB OC aE) _ _ _ _ _ WB) h
end Go.Proofs.YtonbocmibeikmaaGreat
end
section
namespace Go.Proofs.YtonbocmibeikmaaGreat
open Go.Ab Go.Un
variable {n:Nat}
theorem sP (x:Int)(h0:0<n):∃k:Nat,k<n∧within x n=(k:Int):=by have h1:=@wM x n (by omega);have h2:=@wN x n (by omega);exact ⟨(within x n).toNat,by omega,by omega⟩
variable {h:c6}{k:Nat}
theorem Q7 {x:Int}(hk:within x n=(k:Int))(h0:0<n)(hn:n≤100000):CB 27 [.int .i64 x,.int .i64 ((n:Nat):Int)] h (.int .i64 ((k:Nat):Int)):=by rw[←hk];exact uP x n (by omega) (by omega)
theorem OD {x v:Int}(hk:within x 8=v):CB 27 [.int .i64 x,.int .i64 8] h (.int .i64 v):=by rw[←hk];exact uP x 8 (by omega) (by omega)
variable {u:Un}{c:Clo}{mx i:Nat}{x:AV}
theorem OE (h:i<n):List.take 1 (List.drop i ((s9 (dM u c mx n)).set i x))=[x]:=by
  have hl:i<((s9 (dM u c mx n)).set i x).length:=by rw[List.length_set,u4,w9];exact h
  rw[List.drop_eq_getElem_cons hl,List.take_succ_cons,List.take_zero];simp
theorem c9.PA {P:Program}{C:Cfg}{cd:Code}{sl:List AV}{Q:Exit→St→Prop}(r:∀H,H=h→c9 P C cd ⟨sl,H⟩ Q):c9 P C cd ⟨sl,h⟩ Q:=r h rfl
variable {T:List (List Nat)}
theorem sQ:fY (dE T)=aL T:=by unfold fY dE aL;rw[List.map_map];refine List.map_congr_left fun r hr=>?_;show AV.vec (z1 r).length (g8 (z1 r))=bH r;rw[dR,dS,bH]
variable {L:List (List (List Nat))}
theorem oT:encTI (gU L)=s9 L:=by unfold encTI gU s9;rw[List.map_map];refine List.map_congr_left fun T hT=>?_;show AV.vec (dE T).length (fY (dE T))=AV.vec T.length (aL T);rw[sQ,iS]
variable {t:List (List (List Int))}
theorem OF {T:List (List Int)}:encTI (t.set i T)=(encTI t).set i (.vec T.length (fY T)):=by unfold encTI;rw[List.map_set];rfl
theorem plnRI (T:List (List Int)):z7 (fY T):=z7.map fun _=>.vec
theorem plnI (r:List Int):z7 (g8 r):=z7.map fun _=>.int
theorem rP {l:List AV}(h:i<l.length):List.take i l++x::List.drop (i+1) l=l.set i x:=by rw[List.set_eq_take_append_cons_drop,if_pos h]
theorem OG {raw:List (List (List Int))}{dd:Decidable ((10:Int)<(raw.length:Int))}:AV.vec ((@ite Int (10<(raw.length:Int)) dd 10 (raw.length:Int)).toNat-0) (List.take ((@ite Int (10<(raw.length:Int)) dd 10 (raw.length:Int)).toNat-0) (List.drop 0 (encTI raw)))=.vec (raw.take 10).length (encTI (raw.take 10)):=by
  have e:(@ite Int (10<(raw.length:Int)) dd 10 (raw.length:Int)).toNat-0=(raw.take 10).length:=by rw[List.length_take];split<;>omega
  rw[e,List.drop_zero];refine congrArg (AV.vec _) ?_;unfold encTI;rw[←List.map_take];refine congrArg _ ?_;rw[List.take_eq_take_iff,List.length_take];omega
theorem OH {Z:List Int}{dd:Decidable ((20:Int)<(Z.length:Int))}:AV.vec ((@ite Int (20<(Z.length:Int)) dd 20 (Z.length:Int)).toNat-0) (List.take ((@ite Int (20<(Z.length:Int)) dd 20 (Z.length:Int)).toNat-0) (List.drop 0 (g8 Z)))=.vec (Z.take 20).length (g8 (Z.take 20)):=by
  have e:(@ite Int (20<(Z.length:Int)) dd 20 (Z.length:Int)).toNat-0=(Z.take 20).length:=by rw[List.length_take];split<;>omega
  rw[e,List.drop_zero];refine congrArg (AV.vec _) ?_;unfold g8;rw[←List.map_take];refine congrArg _ ?_;rw[List.take_eq_take_iff,List.length_take];omega
theorem OI (hk:k≤T.length):AV.vec (k-0) (List.take (k-0) (aL T))=.vec ((dE T).take k).length (fY ((dE T).take k)):=by rw[Nat.sub_zero,List.length_take,iS,Nat.min_eq_left hk];refine congrArg (AV.vec _) ?_;rw[←sQ];unfold fY;rw[List.map_take]
theorem OJ (hk:k≤L.length):AV.vec (k-0) (List.take (k-0) (List.drop 0 (s9 L)))=.vec ((gU L).take k).length (encTI ((gU L).take k)):=by rw[Nat.sub_zero,List.drop_zero,List.length_take,xU,Nat.min_eq_left hk];refine congrArg (AV.vec _) ?_;rw[←oT];unfold encTI;rw[List.map_take]
theorem sR {α β:Type}{f:α→Option β}:∀{l:List α} {l':List β},l.length=l'.length→(∀(j:Nat) x y,l[j]?=some x→l'[j]?=some y→f x=some y)→o6 f l=some l'
  | [],[],_,_=>rfl
  | [],_::_,h,_=>by simp at h
  | _::_,[],h,_=>by simp at h
  | x::l,y::l',h,hf=>by have h1:f x=some y:=hf 0 x y rfl rfl;have h2:o6 f l=some l':=sR t173 fun j a b ha hb=>hf (j+1) a b (by simpa using ha) t203;simp only[o6,h1,h2]
theorem OK {T:List (List Int)}{j:Nat}(h:j<T.length):(fY T)[j]?=some (.vec (T.getD j []).length (g8 (T.getD j []))):=by unfold fY;simp[List.getD,h]
variable {H:c6}{β len d:Nat}{zs:List AV}
theorem frz_off {off:Nat}{e:TypeId}(hb:H[β]?=some ⟨0,false,e,1,zs,0⟩)(hz:off+len≤zs.length)(hp:z7 zs):iT 0 H (d+2) (.own β 0 off len)=some (.vec len ((zs.drop off).take len)):=by rw[eN,hb];simp only[Nat.zero_le,and_self,if_true,Bool.false_eq_true,if_false,Nat.mul_one,hz];have h1:z7 ((zs.drop off).take len):=fun x hx=>hp x (List.mem_of_mem_drop (List.mem_of_mem_take hx));rw[h1.frz]
variable {g:Nat}
theorem mR {e:TypeId}{zs':List AV}(hb:H[β]?=some ⟨g,false,e,1,zs,0⟩)(hn:n≤β)(hz:zs.length=len)(ho:o6 (iT n H d) zs=some zs'):iT n H (d+1) (.own β g 0 len)=some (.vec len zs'):=by rw[eN,hb];simp only[hn,and_self,if_true,Bool.false_eq_true,if_false,Nat.zero_add,Nat.mul_one,hz,Nat.le_refl,List.drop_zero];rw[List.take_of_length_le (by omega),ho]
theorem vE {T:List (List Int)}(hx:iT 0 H (d+1) x=some (.vec T.length (fY T))):o6 (iT 0 H (d+1)) ((s9 L).set i x)=some (encTI ((gU L).set i T)):=by
  refine sR (by rw[List.length_set,u4,xS,List.length_set,xU]) fun j a b ha hb=>?_;rw[OF,oT]at hb;by_cases e:i=j
  · subst e
    by_cases hi:i<(s9 L).length
    · rw[List.getElem?_set_self hi]at ha hb
      cases ha;cases hb;exact hx
    · rw[List.getElem?_eq_none (by rw[List.length_set];omega)]at ha
      cases ha
  · rw[List.getElem?_set_ne e]at ha hb
    rw[ha]at hb;cases hb;exact ((xR L) a (List.mem_of_getElem? ha)).fz _ _ _
theorem DI {e:TypeId}(hb:H[β]?=some ⟨g,false,e,1,zs,0⟩)(hn:t.length=n)(ho:o6 (iT 0 H 5) zs=some (encTI t))(hz:zs.length=n):pJ 0 H (.own β g 0 n)=some (.vec t.length (encTI t)):=by rw[hn];exact mR hb (Nat.zero_le _) hz ho
theorem frz_SE {e:TypeId}{r:List Int}(hb:H[β]?=some ⟨0,false,e,1,g8 r,0⟩)(hn:r.length=n):pJ 0 H (.own β 0 0 n)=some (.vec r.length (g8 r)):=by rw[hn];exact mR hb (Nat.zero_le _) (by rw[l8];exact hn) ((plnI r).frz _ _ _)
theorem Q8 {H:c6}{d K len k:Nat}{A:List Nat}{T:List (List Nat)}{x:AV}{r:List Int}{cells:List AV}(hA:A.length=len)(hT:T.length=len)(hc:cells=(u5 K A len).set k x)(hK:∀j,j<len→(T.getD j []).length=K)
    (hx:iT 0 H (d+2) x=some (.vec r.length (g8 r))) (ho:∀j,j<len→j≠k→H[A.getD j 0]?=some (mW (T.getD j []))):o6 (iT 0 H (d+2)) cells=some (fY ((dE T).set k r)):=by
  subst hc;have hl:(u5 K A len).length=len:=xT (by omega);refine sR (by rw[List.length_set,hl,rN,List.length_set,iS,hT]) fun j a b ha hb=>?_;have hj:j<len:=by have:=(List.getElem?_eq_some_iff.1 ha).1;rw[List.length_set,hl]at this;exact this
  rw[OK (by rw[List.length_set,iS,hT];exact hj)]at hb;cases hb;by_cases e:k=j
  · subst e
    rw[List.getElem?_set_self (by rw[hl];exact hj)]at ha;cases ha;have e1:((dE T).set k r).getD k []=r:=by rw[List.getD_eq_getElem?_getD,List.getElem?_set_self (by rw[iS,hT];exact hj)];rfl
    rw[e1];exact hx
  · rw[List.getElem?_set_ne e,NI (by omega)]at ha
    cases ha;have e1:((dE T).set k r).getD j []=z1 (T.getD j []):=by rw[List.getD_eq_getElem?_getD,List.getElem?_set_ne e];simp[dE,List.getD,show j<T.length from by omega]
    rw[e1,dS,dR,hK j hj];exact mR (ho j hj (Ne.symm e)) (Nat.zero_le _) (by rw[List.length_map];exact hK j hj) ((CC _).frz _ _ _)
variable {r:List Nat}
theorem OL:fY (dE T++[z1 r])=aL T++[.vec r.length (r.map l5)]:=by
  have:fY (dE T++[z1 r])=fY (dE T)++[.vec (z1 r).length (g8 (z1 r))]:=by simp[fY]
  rw[this,sQ,dS,dR]
theorem WD (h:r.length=n+1):AV.vec (n+1-1) (List.take (n+1-1) (List.drop 1 (r.map l5)))=.vec ((z1 r).drop 1).length (g8 ((z1 r).drop 1)):=by rw[List.length_drop,dS,h];refine congrArg (AV.vec _) ?_;rw[List.take_of_length_le (by rw[List.length_drop,List.length_map,h];omega),←dR];unfold g8;rw[List.map_drop]
theorem WE {v:Int}(h:0<r.length):AV.int .i64 v::List.drop 1 (r.map l5)=g8 ((z1 r).set 0 v):=by
  cases r with
  | nil=>simp at h
  | cons x l=>
    show AV.int .i64 v::l.map l5=AV.int .i64 v::g8 (z1 l);rw[dR]
theorem cx_self {K:Nat}{A:List Nat}(h:k<A.length):u5 K A n=(u5 K A n).set k (.own (A.getD k 0) 0 0 K):=by obtain ⟨h1,h2⟩:=List.getElem?_eq_some_iff.1 (NI (K:=K) (n:=n) h);rw[←h2,List.set_getElem_self]
theorem app_c3a {a0 a1 a2 a3 a4 a5:Blk}{l:c6}{m:Nat}(hT:T.length=m)(hm:0<m)(hl:m<100000):j9 cfg 22 (a0::a1::a2::a3::a4::a5::⟨g,false,22,1,[],0⟩::l) (.own 6 g 0 0) (.vec m (aL T))=some (.own 6 (g+1) 0 m,a0::a1::a2::a3::a4::a5::⟨g+1,false,22,1,aL T,0⟩::l):=by
  subst hT;have e1:cfg.sz 22=1:=rfl;have e2:(cfg.ti 22).bytes=24:=rfl;have h1:T.length≤maxLen:=by
    have:(100000:Nat)≤maxLen:=by decide
    omega
  have h2:T.length*24≤140737488355328:=by omega
  have h3:¬T.length=0:=by omega
  simp[j9,rd,lenOf,e1,e2,h1,h2,h3,o5]
theorem app_c3b {a0 a1 a2 a3 a4 a5:Blk}{l:c6}{g' m:Nat}(hz:zs.length=m)(hm:0<m)(hl:m<100000):j9 cfg 22 (a0::a1::a2::a3::a4::a5::⟨g,false,22,1,zs,0⟩::⟨g',false,22,1,[x],0⟩::l) (.own 6 g 0 m) (.own 7 g' 0 1)=some (.own 6 (g+1) 0 (m+1),a0::a1::a2::a3::a4::a5::⟨g+1,false,22,1,zs++[x],0⟩::⟨g',false,22,1,[x],0⟩::l):=by
  subst hz;have e1:cfg.sz 22=1:=rfl;have e2:(cfg.ti 22).bytes=24:=rfl;have h1:zs.length+1≤maxLen:=by
    have:(100001:Nat)≤maxLen:=by decide
    omega
  have h2:(zs.length+1)*24≤140737488355328:=by omega
  simp[j9,rd,lenOf,e1,e2,h1,h2]
theorem tH (hu:WU u)(wc:WC u c)(hmx:mx<u.c4.length){y:AV}{e:List Int}(hf1:pJ 0 h x=some (.vec t.length (encTI t)))(hf2:pJ 0 h y=some (.vec e.length (g8 e)))(hg:X1 t e):CB 39 [AV.agg [.vec u.globals.length (g8 u.globals),.vec u.c4.length (g6 u.c4),.vec u.procs.length (l4 u.procs),.int .i64 u.main],AV.agg [.vec c.insts.length (l7 c.insts),.vec c.calls.length (n4 c.calls),.vec c.roots.length (g8 c.roots)],AV.int .i64 ((mx:Nat):Int),x,y] h (AV.tup [.int .i64 (OY u c mx t e),.int .i64 (OZ u c mx t e)]):=
  CallA.borrow (args':=[AV.agg [.vec u.globals.length (g8 u.globals),.vec u.c4.length (g6 u.c4),.vec u.procs.length (l4 u.procs),.int .i64 u.main],AV.agg [.vec c.insts.length (l7 c.insts),.vec c.calls.length (n4 c.calls),.vec c.roots.length (g8 c.roots)],AV.int .i64 ((mx:Nat):Int),.vec t.length (encTI t),.vec e.length (g8 e)]) (args:=[AV.agg [.vec u.globals.length (g8 u.globals),.vec u.c4.length (g6 u.c4),.vec u.procs.length (l4 u.procs),.int .i64 u.main],AV.agg [.vec c.insts.length (l7 c.insts),.vec c.calls.length (n4 c.calls),.vec c.roots.length (g8 c.roots)],AV.int .i64 ((mx:Nat):Int),x,y]) ⟨.inr rfl,.inr rfl,.inr rfl,.inr hf1,.inr hf2,trivial⟩ ((FG hu wc hmx hg).mono fun y k hq=>hq.1)
theorem tI (hu:WU u)(wc:WC u c)(hmx:mx<u.c4.length){y:AV}{e:List Int}(hf1:pJ 0 h x=some (.vec t.length (encTI t)))(hf2:pJ 0 h y=some (.vec e.length (g8 e)))(hg:X1 t e):CB 44 [AV.agg [.vec u.globals.length (g8 u.globals),.vec u.c4.length (g6 u.c4),.vec u.procs.length (l4 u.procs),.int .i64 u.main],AV.agg [.vec c.insts.length (l7 c.insts),.vec c.calls.length (n4 c.calls),.vec c.roots.length (g8 c.roots)],AV.int .i64 ((mx:Nat):Int),x,y] h (AV.tup [.int .i64 (OY u c mx t e),.int .i64 (OZ u c mx t e)]):=
  CallA.borrow (args':=[AV.agg [.vec u.globals.length (g8 u.globals),.vec u.c4.length (g6 u.c4),.vec u.procs.length (l4 u.procs),.int .i64 u.main],AV.agg [.vec c.insts.length (l7 c.insts),.vec c.calls.length (n4 c.calls),.vec c.roots.length (g8 c.roots)],AV.int .i64 ((mx:Nat):Int),.vec t.length (encTI t),.vec e.length (g8 e)]) (args:=[AV.agg [.vec u.globals.length (g8 u.globals),.vec u.c4.length (g6 u.c4),.vec u.procs.length (l4 u.procs),.int .i64 u.main],AV.agg [.vec c.insts.length (l7 c.insts),.vec c.calls.length (n4 c.calls),.vec c.roots.length (g8 c.roots)],AV.int .i64 ((mx:Nat):Int),x,y]) ⟨.inr rfl,.inr rfl,.inr rfl,.inr hf1,.inr hf2,trivial⟩ ((VH hu wc hmx hg).mono fun y k hq=>hq.1)
theorem pT:∀T∈gU (dM u c mx n),RgT T:=fun T hT=>by obtain ⟨T',hT',rfl⟩:=List.mem_map.1 hT;unfold dM at hT';obtain ⟨i,_,rfl⟩:=List.mem_map.1 hT';exact P6 dV (nW _ _)
theorem xW:RgR (z1 (gR u c mx)):=fun x hx=>by obtain ⟨n,hn,rfl⟩:=List.mem_map.1 hx;have:=W7.lt n hn;exact ⟨by omega,by omega⟩
theorem kM_pos:1≤kM u mx:=by unfold kM nD;split<;>omega
theorem vF {α:Type}{p:α→Prop}{l:List α}{x:α}(h:∀y∈l,p y)(hx:p x):∀y∈l.set i x,p y:=fun y hy=>(List.mem_or_eq_of_mem_set hy).elim (h y) fun e=>by rw[e];exact hx
attribute [local go_sem] rd bH r7 u6 p7 n6 l8 z6 o5 Int.natCast_nonneg Int.natCast_inj aD cW cJ cX gD fV nX kC aZ kD pR dL jE jF fW List.length_set List.length_replicate Int.toNat_natCast_add_one eG wrap64 List.length_map cL cY fP fQ u4 w9 gS gT bQ orN lP beq_self_eq_true bne_self_eq_false yL rL NB NC xS rN G7 xT CL P4 G8 OE u4 w9 Option.bind_eq_bind o5
theorem WG (hu:WU u)(m:Int):CB 36 [.agg [.vec u.globals.length (g8 u.globals),.vec u.c4.length (g6 u.c4),.vec u.procs.length (l4 u.procs),.int .i64 u.main],.int .i64 m] h (.int .i64 (within m u.c4.length)):=by refine .bz Tryz.f36 10 ?_;have hml:=hu.ml;refine .z ?_;refine c30z ?_;refine .ca rfl rfl (uP _ _ (by omega) (by omega)) ?_;refine .n ?_;exact .ret (.ex (hq:=by rfl))
section
attribute [local go_sem] app_c3a app_c3b
theorem c_lawRaw (L:List Int)(hL:L.length<4611686018427387904)(m:Int)(raw:List (List (List Int)))(hraw:∀T∈raw,RgT T)(hrawl:raw.length<4611686018427387904)(Z:List Int)(hZ:RgR Z)(hZl:Z.length<4611686018427387904)(which ax n:Int)(hn:I64 n):CB 11 [.vec L.length (g8 L),.int .i64 m,.vec raw.length (encTI raw),.vec Z.length (g8 Z),.int .i64 which,.int .i64 ax,.int .i64 n] [] (.bool true):=by
  refine .bz Tryz.f11 166 ?_;refine c259z ?_;refine o4.cx rfl rfl hb15 (c_unit L hL) (fun y1 h1 hq1=>?_);obtain ⟨⟨p,u,c,gp,hu,wc,rfl⟩,rfl⟩:=hq1;have hml:=hu.ml;have hwl:=wc.len;simp only[QS];refine .e 8 ?_;refine .n ?_;refine .c7 [1,2,3,4,5,6,16,17] ?_;refine c17z ?_;refine .ca rfl rfl (WG hu m) ?_;refine .n ?_;have hw8:within which 8=0∨within which 8=1∨within which 8=2∨within which 8=3∨within which 8=4∨within which 8=5∨within which 8=6∨within which 8=7:=by have h1:=@wM which 8 (by omega);have h2:=@wN which 8 (by omega);omega
  obtain ⟨mx,hmx,hme⟩:=sP m (n:=u.c4.length) (by omega);simp only[hme];have hk8:kM u mx≤8:=dV;have hel:(gR u c mx).length=c.insts.length:=bQ;have hcl:=wc.cl;obtain ⟨i0,hi00,hie⟩:=sP ax (n:=c.insts.length) (by omega);have w:=gE wc hi00;have hsz:r9 u c i0≤1664:=q9 hu w;have hlp:1≤r9 u c i0:=(dU hu w).1;obtain ⟨k,hk,hke⟩:=sP (ax.fdiv (2^min 4 64)) (n:=r9 u c i0) (by omega);have hT0:=nW (u:=u) (c:=c) (m:=mx) (z9 u c mx) i0;have hTl:(bV u c mx (z9 u c mx) i0).length=r9 u c i0:=hT0.1;have hinl:(dM u c mx c.insts.length).length=c.insts.length:=w9;have hcl0:(gU (dM u c mx c.insts.length)).length=c.insts.length:=by rw[xU];exact hinl
  have hRk:=hT0.get hk;have hRkl:=hRk.1;have hk1:=kM_pos (u:=u) (mx:=mx);have hTe:(aL (bV u c mx (z9 u c mx) i0)).length=r9 u c i0:=by rw[o5];exact hTl
  have hKr:∀j,j<r9 u c i0→((bV u c mx (z9 u c mx) i0).getD j []).length=kM u mx+1:=fun j hj=>(hT0.get hj).1;rcases hw8 with hwe | hwe | hwe | hwe | hwe | hwe | hwe | hwe
  ·skip;refine c278z ?_;refine c227z ?_;refine c71z ?_;refine .c7 [1,2,16,17,19] ?_;refine c2z ?_;refine c9.PA fun H5 hH5=>?_;have hb1:H5[1]?=some (bU u):=by rw[hH5];rfl
   have hb2:H5[2]?=some (bC c):=by rw[hH5];rfl
   have hf2:pJ 0 H5 (AV.vec c.insts.length ((gR u c mx).map l5))=some (.vec (z1 (gR u c mx)).length (g8 (z1 (gR u c mx)))):=by show some _=some _;rw[dR,dS,hel]
   have hf1:pJ 0 H5 (.vec ((if 10<(raw.length:Int) then 10 else (raw.length:Int)).toNat-0) (List.take ((if 10<(raw.length:Int) then 10 else (raw.length:Int)).toNat-0) (List.drop 0 (encTI raw))))=some (.vec (raw.take 10).length (encTI (raw.take 10))):=by show some _=some _;rw[OG]
   have hg:X1 (raw.take 10) (z1 (gR u c mx)):=⟨fun T hT=>hraw T (List.mem_of_mem_take hT),xW⟩;refine .s ?_;refine .e 5 ?_ (h:=t12);refine .ca rfl rfl (tH hu wc hmx hf1 hf2 hg) ?_;refine .n ?_ (h:=t12);refine c76z ?_;refine .e 5 ?_ (h:=t12);refine .ca rfl rfl (tI hu wc hmx hf1 hf2 hg) ?_;refine .n ?_ (h:=t12);refine c228z ?_;exact .ret (.ex (hq:=by rfl))
  ·skip;refine c278z ?_;refine c227z ?_;refine c175z ?_;refine .c7 [1,3,16,17,18] ?_;refine c2z ?_;refine c9.PA fun H5 hH5=>?_;have hb1:H5[1]?=some (bU u):=by rw[hH5];rfl
   have hb2:H5[2]?=some (bC c):=by rw[hH5];rfl
   have hf1:pJ 0 H5 (AV.vec c.insts.length (s9 (dM u c mx c.insts.length)))=some (.vec (gU (dM u c mx c.insts.length)).length (encTI (gU (dM u c mx c.insts.length)))):=by show some _=some _;rw[oT,hcl0]
   have hf2:pJ 0 H5 (.vec ((if 20<(Z.length:Int) then 20 else (Z.length:Int)).toNat-0) (List.take ((if 20<(Z.length:Int) then 20 else (Z.length:Int)).toNat-0) (List.drop 0 (g8 Z))))=some (.vec (Z.take 20).length (g8 (Z.take 20))):=by show some _=some _;rw[OH]
   have hg:X1 (gU (dM u c mx c.insts.length)) (Z.take 20):=⟨pT,fun x hx=>hZ x (List.mem_of_mem_take hx)⟩;refine .s ?_;refine .e 5 ?_ (h:=t12);refine .ca rfl rfl (tH hu wc hmx hf1 hf2 hg) ?_;refine .n ?_ (h:=t12);refine c76z ?_;refine .e 5 ?_ (h:=t12);refine .ca rfl rfl (tI hu wc hmx hf1 hf2 hg) ?_;refine .n ?_ (h:=t12);refine c228z ?_;exact .ret (.ex (hq:=by rfl))
  ·skip;refine c12z ?_;refine .ch rfl rfl (CO hu wc hmx) ?_;refine c266z ?_;refine c71z ?_;refine c115z ?_;refine .c7 [1,16,17,18,19] ?_;refine c9.PA fun H5 hH5=>?_;have hb1:H5[1]?=some (bU u):=by rw[hH5];rfl
   have hb2:H5[2]?=some (bC c):=by rw[hH5];rfl
   have hzs:(s9 (dM u c mx c.insts.length)).length=c.insts.length:=by rw[u4];exact hinl
   have h5:H5[5]?=some ⟨c.insts.length,false,32,1,(s9 (dM u c mx c.insts.length)).set i0 (.vec ((dE (bV u c mx (z9 u c mx) i0)).take k).length (fY ((dE (bV u c mx (z9 u c mx) i0)).take k))),0⟩:=by rw[hH5,←OI (by omega),←rP (by omega)];rfl
   have hf2:pJ 0 H5 (AV.vec c.insts.length ((gR u c mx).map l5))=some (.vec (z1 (gR u c mx)).length (g8 (z1 (gR u c mx)))):=by show some _=some _;rw[dR,dS,hel]
   have hf1:pJ 0 H5 (.own 5 c.insts.length 0 c.insts.length)=some (.vec ((gU (dM u c mx c.insts.length)).set i0 ((dE (bV u c mx (z9 u c mx) i0)).take k)).length (encTI ((gU (dM u c mx c.insts.length)).set i0 ((dE (bV u c mx (z9 u c mx) i0)).take k)))):=DI h5 t187 (vE rfl) t191;have hg:X1 ((gU (dM u c mx c.insts.length)).set i0 ((dE (bV u c mx (z9 u c mx) i0)).take k)) (z1 (gR u c mx)):=⟨vF pT ((P6 dV hT0).take k),xW⟩;refine .s ?_;refine .e 5 ?_ (h:=t12);refine .ca rfl rfl (tH hu wc hmx hf1 hf2 hg) ?_;refine .n ?_ (h:=t12);refine c76z ?_;refine .e 5 ?_ (h:=t12);refine .ca rfl rfl (tI hu wc hmx hf1 hf2 hg) ?_;refine .n ?_ (h:=t12);refine c228z ?_;exact .ret (.ex (hq:=by rfl))
  ·skip;refine c12z ?_;refine .ch rfl rfl (CO hu wc hmx) ?_;refine c266z ?_;refine c175z ?_;refine .og z8 (mkH 19 [0,0,0,0,0,24,56,124,0,0,768,1792,0,7936,16128,32512,65532,131071,262143] [2,7,15,16,18] [(2,0),(15,1)] [0,4,132,32768,32772,32900,98436,360580] [0,1,2,3,4,5,6,7]) 2 ?_;refine .p 2 ?_;refine .em [true] [4,0] [_] ?_;refine .p 3 ?_;refine .rm [true,true] ?_;refine .em [true,false] [132,4,0] [_] ?_;refine .p 3 ?_;refine .rn [true,true,true] ?_;refine .p 2 ?_;refine .rn [true,true,true] ?_;refine .en [true,true,true] [32900,32772,32768,132,4,0] [_,_,_] ?_;refine .en [true,false,false,false,false,false] [98436,32900,32772,32768,132,4,0] [_] ?_;refine .p 1 ?_;refine .en [true,false,false,false,false,false,false] [360580,98436,32900,32772,32768,132,4,0] [_] ?_;refine .po [false,false,false,true,false,false,true,false] ?_;refine .po [false,false,false,true,true,false,true,true] ?_;refine .po [false,false,false,false,true,false,false,true] ?_;refine aB.nil rfl ?_;change c9 ..;refine .c7 [1,16,17,18,19] ?_;refine c9.PA fun H5 hH5=>?_;have hb1:H5[1]?=some (bU u):=by rw[hH5];rfl
   have hb2:H5[2]?=some (bC c):=by rw[hH5];rfl
   have hzs:(s9 (dM u c mx c.insts.length)).length=c.insts.length:=by rw[u4];exact hinl
   have h5:H5[5]?=some ⟨c.insts.length,false,32,1,(s9 (dM u c mx c.insts.length)).set i0 (.own 6 3 0 (r9 u c i0+1)),0⟩:=by rw[hH5,←rP (by omega)];rfl
   have h6:H5[6]?=some ⟨3,false,22,1,fY (dE (bV u c mx (z9 u c mx) i0)++[z1 ((bV u c mx (z9 u c mx) i0).getD k [])]),0⟩:=by rw[hH5,OL];rfl
   have hl3:(dE (bV u c mx (z9 u c mx) i0)++[z1 ((bV u c mx (z9 u c mx) i0).getD k [])]).length=r9 u c i0+1:=by rw[List.length_append,iS,hTl];rfl
   have hx3:iT 0 H5 5 (.own 6 3 0 (r9 u c i0+1))=some (.vec (dE (bV u c mx (z9 u c mx) i0)++[z1 ((bV u c mx (z9 u c mx) i0).getD k [])]).length (fY (dE (bV u c mx (z9 u c mx) i0)++[z1 ((bV u c mx (z9 u c mx) i0).getD k [])]))):=by rw[hl3];exact mR h6 (Nat.zero_le _) (by rw[rN];exact hl3) ((plnRI _).frz _ _ _)
   have hf2:pJ 0 H5 (AV.vec c.insts.length ((gR u c mx).map l5))=some (.vec (z1 (gR u c mx)).length (g8 (z1 (gR u c mx)))):=by show some _=some _;rw[dR,dS,hel]
   have hf1:pJ 0 H5 (.own 5 c.insts.length 0 c.insts.length)=some (.vec ((gU (dM u c mx c.insts.length)).set i0 (dE (bV u c mx (z9 u c mx) i0)++[z1 ((bV u c mx (z9 u c mx) i0).getD k [])])).length (encTI ((gU (dM u c mx c.insts.length)).set i0 (dE (bV u c mx (z9 u c mx) i0)++[z1 ((bV u c mx (z9 u c mx) i0).getD k [])])))):=DI h5 t187 (vE hx3) t191;have hg:X1 ((gU (dM u c mx c.insts.length)).set i0 (dE (bV u c mx (z9 u c mx) i0)++[z1 ((bV u c mx (z9 u c mx) i0).getD k [])])) (z1 (gR u c mx)):=⟨vF pT ((P6 dV hT0).app (CP dV hRk)),xW⟩;refine .s ?_;refine .e 5 ?_ (h:=t12);refine .ca rfl rfl (tH hu wc hmx hf1 hf2 hg) ?_;refine .n ?_ (h:=t12);refine c76z ?_;refine .e 5 ?_ (h:=t12);refine .ca rfl rfl (tI hu wc hmx hf1 hf2 hg) ?_;refine .n ?_ (h:=t12);refine c228z ?_;exact .ret (.ex (hq:=by rfl))
  ·skip;refine c12z ?_;refine o4.cx rfl rfl hb38 (YS hu wc hmx hi00) (fun y1 h1 hq1=>?_);obtain ⟨A,J,hRw,rfl,rfl⟩:=hq1;have hAl:A.length=r9 u c i0:=hRw.len;refine c266z ?_;refine c33z ?_;refine c71z ?_;refine .c7 [1,16,17,18,19,20,21] ?_;refine c9.aG (⟨0,false,27,3,[.vec p.globals.length (u0 p.globals),.vec p.c4.length (g6 p.c4),.vec p.funcs.length (o8 p.funcs)],0⟩::bU u::bC c::bU u::bC c::⟨c.insts.length,false,32,1,(s9 (dM u c mx c.insts.length)).set i0 (.own 9 0 0 (r9 u c i0)),0⟩::bU u::bC c::⟨0,false,46,2,[.int .i64 (itI c i0).proc,.vec (itI c i0).j5.length (g8 (itI c i0).j5)],0⟩::⟨0,false,22,1,u5 (kM u mx+1) A (r9 u c i0),0⟩::J) rfl ?_;refine c9.PA fun H hH=>?_;have g1:H[1]?=some (bU u):=by rw[hH];rfl
   have g2:H[2]?=some (bC c):=by rw[hH];rfl
   have g5:H[5]?=some ⟨c.insts.length,false,32,1,(s9 (dM u c mx c.insts.length)).set i0 (.own 9 0 0 (r9 u c i0)),0⟩:=by rw[hH];rfl
   have g9:H[9]?=some ⟨0,false,22,1,u5 (kM u mx+1) A (r9 u c i0),0⟩:=by rw[hH];rfl
   have gr:∀j,j<r9 u c i0→10≤A.getD j 0∧H[A.getD j 0]?=some (mW ((bV u c mx (z9 u c mx) i0).getD j [])):=fun j hj=>⟨(hRw.at' j hj).1,t94⟩;have hrk:=(gr k hk).2;have hrk2:=(gr k hk).1;have hcx:(u5 (kM u mx+1) A (r9 u c i0)).length=r9 u c i0:=xT (by omega);unfold mW at hrk;refine .so z8 (mkP 15 [0,0,3,7,0,0,0,96,224,0,992,2016,4064,8191,16383] [14]) ?_;refine .k 8 [] ?_ (h:=t95);refine .n [] ?_ (h:=t95);change c9 ..;refine .c7 [1,16,17,18,19] ?_;refine c9.PA fun H5 hH5=>?_;have hb1:H5[1]?=some (bU u):=by rw[hH5,List.getElem?_set_ne (by decide)];exact g1
   have hb2:H5[2]?=some (bC c):=by rw[hH5,List.getElem?_set_ne (by decide)];exact g2
   have h5:H5[5]?=some ⟨c.insts.length,false,32,1,(s9 (dM u c mx c.insts.length)).set i0 (.own 9 0 0 (r9 u c i0)),0⟩:=by rw[hH5,List.getElem?_set_ne (by decide)];exact g5
   have hzs:(s9 (dM u c mx c.insts.length)).length=c.insts.length:=by rw[u4];exact hinl
   have h9:H5[9]?=some ⟨0,false,22,1,((u5 (kM u mx+1) A (r9 u c i0)).set k (.own (A.getD k 0) 0 1 (kM u mx+1-1))),0⟩:=by rw[hH5,List.getElem?_set_self (List.getElem?_eq_some_iff.1 g9).1,rP (by omega)];rfl
   have ho:∀j,j<r9 u c i0→j≠k→H5[A.getD j 0]?=some (mW ((bV u c mx (z9 u c mx) i0).getD j [])):=fun j hj _=>by have h7:=(gr j hj).1;rw[hH5,List.getElem?_set_ne (by omega)];exact (gr j hj).2
   have hak:H5[A.getD k 0]?=some ⟨0,false,3,1,((bV u c mx (z9 u c mx) i0).getD k []).map l5,0⟩:=by rw[hH5,List.getElem?_set_ne (by omega)];exact hrk
   have hx5:iT 0 H5 4 (.own (A.getD k 0) 0 1 (kM u mx+1-1))=some (.vec ((z1 ((bV u c mx (z9 u c mx) i0).getD k [])).drop 1).length (g8 ((z1 ((bV u c mx (z9 u c mx) i0).getD k [])).drop 1))):=by rw[←WD hRkl];exact frz_off hak (by rw[List.length_map,hRkl];omega) (CC _)
   have hop5:=Q8 (H:=H5) (d:=2) (r:=((z1 ((bV u c mx (z9 u c mx) i0).getD k [])).drop 1)) hAl hTl (rfl:((u5 (kM u mx+1) A (r9 u c i0)).set k (.own (A.getD k 0) 0 1 (kM u mx+1-1)))=_) hKr hx5 ho;have hlt5:((dE (bV u c mx (z9 u c mx) i0)).set k ((z1 ((bV u c mx (z9 u c mx) i0).getD k [])).drop 1)).length=r9 u c i0:=by rw[List.length_set,iS];exact hTl
   have hX5:iT 0 H5 5 (.own 9 0 0 (r9 u c i0))=some (.vec ((dE (bV u c mx (z9 u c mx) i0)).set k ((z1 ((bV u c mx (z9 u c mx) i0).getD k [])).drop 1)).length (fY ((dE (bV u c mx (z9 u c mx) i0)).set k ((z1 ((bV u c mx (z9 u c mx) i0).getD k [])).drop 1)))):=by rw[hlt5];exact mR h9 (Nat.zero_le _) (by rw[List.length_set];exact hcx) hop5
   have hf2:pJ 0 H5 (AV.vec c.insts.length ((gR u c mx).map l5))=some (.vec (z1 (gR u c mx)).length (g8 (z1 (gR u c mx)))):=by show some _=some _;rw[dR,dS,hel]
   have hf1:pJ 0 H5 (.own 5 c.insts.length 0 c.insts.length)=some (.vec ((gU (dM u c mx c.insts.length)).set i0 ((dE (bV u c mx (z9 u c mx) i0)).set k ((z1 ((bV u c mx (z9 u c mx) i0).getD k [])).drop 1))).length (encTI ((gU (dM u c mx c.insts.length)).set i0 ((dE (bV u c mx (z9 u c mx) i0)).set k ((z1 ((bV u c mx (z9 u c mx) i0).getD k [])).drop 1))))):=DI h5 t187 (vE hX5) t191;have hg:X1 ((gU (dM u c mx c.insts.length)).set i0 ((dE (bV u c mx (z9 u c mx) i0)).set k ((z1 ((bV u c mx (z9 u c mx) i0).getD k [])).drop 1))) (z1 (gR u c mx)):=⟨vF pT ((P6 dV hT0).set ((CP dV hRk).drop 1) k),xW⟩;refine .s ?_;refine .e 5 ?_ (h:=t12);refine .ca rfl rfl (tH hu wc hmx hf1 hf2 hg) ?_;refine .n ?_ (h:=t12);refine c76z ?_;refine .e 5 ?_ (h:=t12);refine .ca rfl rfl (tI hu wc hmx hf1 hf2 hg) ?_;refine .n ?_ (h:=t12);refine c228z ?_;exact .ret (.ex (hq:=by rfl))
  ·skip;refine c12z ?_;refine o4.cx rfl rfl hb38 (YS hu wc hmx hi00) (fun y1 h1 hq1=>?_);obtain ⟨A,J,hRw,rfl,rfl⟩:=hq1;have hAl:A.length=r9 u c i0:=hRw.len;refine c266z ?_;refine c33z ?_;refine c175z ?_;refine .c7 [1,6,16,17,18,19,20,21] ?_;refine c9.aG (⟨0,false,27,3,[.vec p.globals.length (u0 p.globals),.vec p.c4.length (g6 p.c4),.vec p.funcs.length (o8 p.funcs)],0⟩::bU u::bC c::bU u::bC c::⟨c.insts.length,false,32,1,(s9 (dM u c mx c.insts.length)).set i0 (.own 9 0 0 (r9 u c i0)),0⟩::bU u::bC c::⟨0,false,46,2,[.int .i64 (itI c i0).proc,.vec (itI c i0).j5.length (g8 (itI c i0).j5)],0⟩::⟨0,false,22,1,u5 (kM u mx+1) A (r9 u c i0),0⟩::J) rfl ?_;refine c9.PA fun H hH=>?_;have g1:H[1]?=some (bU u):=by rw[hH];rfl
   have g2:H[2]?=some (bC c):=by rw[hH];rfl
   have g5:H[5]?=some ⟨c.insts.length,false,32,1,(s9 (dM u c mx c.insts.length)).set i0 (.own 9 0 0 (r9 u c i0)),0⟩:=by rw[hH];rfl
   have g9:H[9]?=some ⟨0,false,22,1,u5 (kM u mx+1) A (r9 u c i0),0⟩:=by rw[hH];rfl
   have gr:∀j,j<r9 u c i0→10≤A.getD j 0∧H[A.getD j 0]?=some (mW ((bV u c mx (z9 u c mx) i0).getD j [])):=fun j hj=>⟨(hRw.at' j hj).1,t94⟩;have hrk:=(gr k hk).2;have hrk2:=(gr k hk).1;have hcx:(u5 (kM u mx+1) A (r9 u c i0)).length=r9 u c i0:=xT (by omega);unfold mW at hrk;refine .r ?_;refine .e 8 ?_ (h:=t95);refine .n ?_ (h:=t95);change c9 ..;refine .c7 [1,16,17,18,19] ?_;refine c9.PA fun H5 hH5=>?_;have hb1:H5[1]?=some (bU u):=by rw[hH5,List.getElem?_set_ne (by omega)];exact g1
   have hb2:H5[2]?=some (bC c):=by rw[hH5,List.getElem?_set_ne (by omega)];exact g2
   have h5:H5[5]?=some ⟨c.insts.length,false,32,1,(s9 (dM u c mx c.insts.length)).set i0 (.own 9 0 0 (r9 u c i0)),0⟩:=by rw[hH5,List.getElem?_set_ne (by omega)];exact g5
   have hzs:(s9 (dM u c mx c.insts.length)).length=c.insts.length:=by rw[u4];exact hinl
   have h9:H5[9]?=some ⟨0,false,22,1,((u5 (kM u mx+1) A (r9 u c i0)).set k (.own (A.getD k 0) 0 0 (kM u mx+1))),0⟩:=by rw[hH5,List.getElem?_set_ne (by omega),←cx_self (by omega)];exact g9
   have ho:∀j,j<r9 u c i0→j≠k→H5[A.getD j 0]?=some (mW ((bV u c mx (z9 u c mx) i0).getD j [])):=fun j hj hne=>by have h7:A.getD k 0≠A.getD j 0:=fun he=>hne (hRw.nd k j hk hj he).symm;rw[hH5,List.getElem?_set_ne h7];exact (gr j hj).2
   have hak:H5[A.getD k 0]?=some ⟨0,false,3,1,g8 ((z1 ((bV u c mx (z9 u c mx) i0).getD k [])).set 0 n),0⟩:=by rw[hH5,List.getElem?_set_self (List.getElem?_eq_some_iff.1 hrk).1,WE (by omega)]
   have hl5:((z1 ((bV u c mx (z9 u c mx) i0).getD k [])).set 0 n).length=kM u mx+1:=by rw[List.length_set,dS];exact hRkl
   have hx5:iT 0 H5 4 (.own (A.getD k 0) 0 0 (kM u mx+1))=some (.vec ((z1 ((bV u c mx (z9 u c mx) i0).getD k [])).set 0 n).length (g8 ((z1 ((bV u c mx (z9 u c mx) i0).getD k [])).set 0 n))):=by rw[hl5];exact mR hak (Nat.zero_le _) (by rw[l8];exact hl5) ((plnI _).frz _ _ _)
   have hop5:=Q8 (H:=H5) (d:=2) (r:=((z1 ((bV u c mx (z9 u c mx) i0).getD k [])).set 0 n)) hAl hTl (rfl:((u5 (kM u mx+1) A (r9 u c i0)).set k (.own (A.getD k 0) 0 0 (kM u mx+1)))=_) hKr hx5 ho;have hlt5:((dE (bV u c mx (z9 u c mx) i0)).set k ((z1 ((bV u c mx (z9 u c mx) i0).getD k [])).set 0 n)).length=r9 u c i0:=by rw[List.length_set,iS];exact hTl
   have hX5:iT 0 H5 5 (.own 9 0 0 (r9 u c i0))=some (.vec ((dE (bV u c mx (z9 u c mx) i0)).set k ((z1 ((bV u c mx (z9 u c mx) i0).getD k [])).set 0 n)).length (fY ((dE (bV u c mx (z9 u c mx) i0)).set k ((z1 ((bV u c mx (z9 u c mx) i0).getD k [])).set 0 n)))):=by rw[hlt5];exact mR h9 (Nat.zero_le _) (by rw[List.length_set];exact hcx) hop5
   have hf2:pJ 0 H5 (AV.vec c.insts.length ((gR u c mx).map l5))=some (.vec (z1 (gR u c mx)).length (g8 (z1 (gR u c mx)))):=by show some _=some _;rw[dR,dS,hel]
   have hf1:pJ 0 H5 (.own 5 c.insts.length 0 c.insts.length)=some (.vec ((gU (dM u c mx c.insts.length)).set i0 ((dE (bV u c mx (z9 u c mx) i0)).set k ((z1 ((bV u c mx (z9 u c mx) i0).getD k [])).set 0 n))).length (encTI ((gU (dM u c mx c.insts.length)).set i0 ((dE (bV u c mx (z9 u c mx) i0)).set k ((z1 ((bV u c mx (z9 u c mx) i0).getD k [])).set 0 n))))):=DI h5 t187 (vE hX5) t191;have hg:X1 ((gU (dM u c mx c.insts.length)).set i0 ((dE (bV u c mx (z9 u c mx) i0)).set k ((z1 ((bV u c mx (z9 u c mx) i0).getD k [])).set 0 n))) (z1 (gR u c mx)):=⟨vF pT ((P6 dV hT0).set ((CP dV hRk).set hn 0) k),xW⟩;refine .s ?_;refine .e 5 ?_ (h:=t12);refine .ca rfl rfl (tH hu wc hmx hf1 hf2 hg) ?_;refine .n ?_ (h:=t12);refine c76z ?_;refine .e 5 ?_ (h:=t12);refine .ca rfl rfl (tI hu wc hmx hf1 hf2 hg) ?_;refine .n ?_ (h:=t12);refine c228z ?_;exact .ret (.ex (hq:=by rfl))
  ·skip;refine c12z ?_;refine o4.cx rfl rfl hb38 (c_tabRO hu wc hmx) (fun y1 h1 hq1=>?_);obtain ⟨Ib,rfl,rfl⟩:=hq1;refine c266z ?_;refine c33z ?_;refine c33z ?_;refine .c7 [1,6,16,17,18,19,20,55] ?_;refine c71z ?_;refine c2z ?_;refine .c7 [1,16,17,18,19] ?_;refine c9.PA fun H5 hH5=>?_;have hb1:H5[1]?=some (bU u):=by rw[hH5];rfl
   have hb2:H5[2]?=some (bC c):=by rw[hH5];rfl
   have hf1:pJ 0 H5 (AV.vec c.insts.length (s9 (dM u c mx c.insts.length)))=some (.vec (gU (dM u c mx c.insts.length)).length (encTI (gU (dM u c mx c.insts.length)))):=by show some _=some _;rw[oT,hcl0]
   have h8:H5[8]?=some ⟨0,false,3,1,g8 ((z1 (gR u c mx)).set i0 n),0⟩:=by rw[hH5];show some _=some _;refine congrArg (fun z=>some (⟨0,false,3,1,z,0⟩:Blk)) ?_;rw[rP (by rw[List.length_map];omega),←dR];unfold g8;rw[List.map_set]
   have hf2:pJ 0 H5 (.own 8 0 0 c.insts.length)=some (.vec ((z1 (gR u c mx)).set i0 n).length (g8 ((z1 (gR u c mx)).set i0 n))):=frz_SE h8 (by rw[List.length_set,dS];exact hel);have hg:X1 (gU (dM u c mx c.insts.length)) ((z1 (gR u c mx)).set i0 n):=⟨pT,xW.set hn i0⟩;refine .s ?_;refine .e 5 ?_ (h:=t12);refine .ca rfl rfl (tH hu wc hmx hf1 hf2 hg) ?_;refine .n ?_ (h:=t12);refine c76z ?_;refine .e 5 ?_ (h:=t12);refine .ca rfl rfl (tI hu wc hmx hf1 hf2 hg) ?_;refine .n ?_ (h:=t12);refine c228z ?_;exact .ret (.ex (hq:=by rfl))
  ·skip;refine c278z ?_;refine c266z ?_;refine c33z ?_;refine c33z ?_;refine .c7 [1,6,16,17,18,19,20,55] ?_;refine c6z ?_;refine c2z ?_;refine .c7 [1,16,17,18,19] ?_;refine c9.PA fun H5 hH5=>?_;have hb1:H5[1]?=some (bU u):=by rw[hH5];rfl
   have hb2:H5[2]?=some (bC c):=by rw[hH5];rfl
   have hf1:pJ 0 H5 (.vec (i0-0) (List.take (i0-0) (List.drop 0 (s9 (dM u c mx c.insts.length)))))=some (.vec ((gU (dM u c mx c.insts.length)).take i0).length (encTI ((gU (dM u c mx c.insts.length)).take i0))):=by show some _=some _;rw[OJ (by omega)]
   have hf2:pJ 0 H5 (AV.vec c.insts.length ((gR u c mx).map l5))=some (.vec (z1 (gR u c mx)).length (g8 (z1 (gR u c mx)))):=by show some _=some _;rw[dR,dS,hel]
   have hg:X1 ((gU (dM u c mx c.insts.length)).take i0) (z1 (gR u c mx)):=⟨fun T hT=>pT T (List.mem_of_mem_take hT),xW⟩;refine .s ?_;refine .e 5 ?_ (h:=t12);refine .ca rfl rfl (tH hu wc hmx hf1 hf2 hg) ?_;refine .n ?_ (h:=t12);refine c76z ?_;refine .e 5 ?_ (h:=t12);refine .ca rfl rfl (tI hu wc hmx hf1 hf2 hg) ?_;refine .n ?_ (h:=t12);refine c228z ?_;exact .ret (.ex (hq:=by rfl))
end
end Go.Proofs.YtonbocmibeikmaaGreat
end
section
namespace Go.Ab
open Go.RowKit
def FH (w:World):List Value→List AV→Prop
 | [],[]=>True
 | v::vs,x::xs=>PRel w (fun k _=>k<w.heap.size) v x∧FH w vs xs
 | _,_=>False
theorem FH.get {w:World}:∀{vs:List Value} {xs:List AV},FH w vs xs→vs.length=xs.length∧∀(j:Nat) v x,vs[j]?=some v→xs[j]?=some x→PRel w (fun k _=>k<w.heap.size) v x
 | [],[],_=>⟨rfl,fun j v x h=>by simp at h⟩
 | v::vs,x::xs,h=>by
  obtain ⟨h1,h2⟩:=h;obtain ⟨k1,k2⟩:=FH.get h2;refine ⟨by simp[k1],fun j u y hu hy=>?_⟩
  match j with
  | 0=>simp at hu hy;subst hu hy;exact h1
  | j+1=>exact k2 j u y t149 (by simpa using hy)
 | [],_::_,h=>h.elim
 | _::_,[],h=>h.elim
theorem CallA.law {P:Program}{C:Cfg}{f:FuncId}{args:List AV}(hG:C.eJ=fun _=>.any)(r:CallA P C f args [] (fun x h'=>x=.bool true∧h'=[]))(w:World)(cargs:Array Value)(hr:FH w cargs.toList args) :
  Calls P f cargs w fun e w'=>e=.returned (.bool true)∧Below w.heap.size w w':=by
 obtain ⟨k1,k2⟩:=FH.get hr;exact CallA.top hG (r.mono fun _ _ h=>h.1) w cargs (by simpa using k1) fun j v x h1 h2=>k2 j v x t141 h2
theorem prel_ints {w:World}{a:Option Addr}{len cap:Nat}{zs:List Int}
  (h:(a=none∧len=0∧cap=0∧zs=[])∨∃x,a=some x∧len≤cap∧cap≤maxLen∧zs.length=cap∧(∀i,i<zs.length→w.cell? (x.add i)=some (.int .i64 (zs.getD i 0)))∧∀n∈zs,(Lit.int .i64 n).wf=true) :
  PRel w (fun k _=>k<w.heap.size) (.slice a len cap) (Hp (zs.take len))∧(zs.take len).length=len∧len≤maxLen∧∀n∈zs.take len,-9223372036854775808≤n∧n<9223372036854775808:=by
 rcases h with ⟨rfl,rfl,rfl,rfl⟩ | ⟨x,rfl,h1,h2,h3,h4,h5⟩
 ·exact ⟨PS _ _,rfl,by omega,by simp⟩
 ·refine ⟨PT h1 h3 h4,t65,by omega,fun n hn=>?_⟩;have:=h5 n (List.mem_of_mem_take hn);simp only[Lit.wf,Bool.and_eq_true,decide_eq_true_eq]at this;have e1:IntKind.min .i64 = -9223372036854775808:=rfl;have e2:IntKind.max .i64=9223372036854775807:=rfl;rw[e1,e2]at this;omega
end Go.Ab
end
section
namespace Go.Ab
open Go.ChangeShapes Go.WideShapes
theorem OM {w:World}{x:Addr}{len cap:Nat}{V:Nat→Value}{g:Nat→AV}(hl:len≤cap)(hc:∀i,i<len→w.cell? (x.add i)=some (V i)∧(V i).oneCell'=true∧PRel w (fun k _=>k<w.heap.size) (V i) (g i)) :
  PRel w (fun k _=>k<w.heap.size) (.slice (some x) len cap) (.vec len ((List.range len).map g)):=by
 by_cases hn:len=0
 ·subst hn;exact .yE _ _
 ·have c0:=(hc 0 (by omega)).1;obtain ⟨b,o,s⟩:=x;have hs:s=none:=by
   cases s with
   | none=>rfl
   | some k=>
    simp only[Addr.add,if_true,World.cell?]at c0;split at c0<;>simp at c0
  subst hs;have hb:b<w.heap.size:=by
   simp only[Addr.add,if_true,World.cell?]at c0;split at c0
   ·rename_i hh;exact (Array.getElem?_eq_some_iff.1 hh).1
   ·cases c0
  refine .vec b o len cap _ ((List.range len).map V) (fun _ _=>hb) hl (by simp) (fun j v hv=>?_) (fun j v y hv hy=>?_)
  ·simp only[List.getElem?_map,Option.map_eq_some_iff]at hv;obtain ⟨i,hi,rfl⟩:=hv;obtain ⟨h1,h2⟩:=List.getElem?_eq_some_iff.1 hi;rw[List.length_range]at h1;rw[List.getElem_range]at h2;subst h2;obtain ⟨e1,e2,_⟩:=hc j h1;rw[add_plain]at e1;exact ⟨e1,e2⟩
  ·simp only[List.getElem?_map,Option.map_eq_some_iff]at hv hy;obtain ⟨i,hi,rfl⟩:=hv;obtain ⟨i',hi',rfl⟩:=hy;rw[hi]at hi';cases hi';obtain ⟨h1,h2⟩:=List.getElem?_eq_some_iff.1 hi;rw[List.length_range]at h1;rw[List.getElem_range]at h2;subst h2;exact (hc j h1).2.2
section
variable {H:Type}{enc:TypeId×Value→H}{P:Program}{W:World}{α:Type}[Inhabited α]
theorem sS {t e:TypeId}(ht:P.underlying t=some (.slice e))(hc:P.cellsOf e=1)(pic:α→AV)(ok:α→Prop)
  (hel:∀(n:Nat) (v:Value) (y:DataW H×List MemPlace),DataW.trod enc P W 0 (fun _=>true) true n e [v]=some y→∃x,PRel W (fun k _=>k<W.heap.size) v (pic x)∧v.oneCell'=true∧ok x)
  {n:Nat} {v:Value} {y:DataW H×List MemPlace} (h:DataW.trod enc P W 0 (fun _=>true) true n t [v]=some y) :
  ∃l:List α,PRel W (fun k _=>k<W.heap.size) v (.vec l.length (l.map pic))∧v.oneCell'=true∧(∀x∈l,ok x)∧∀b,(∀k∈y.1.weights P t,k≤b)→l.length*P.bytesOf e≤b:=by
 rcases Deep.open_slice1 ht hc h with ⟨h1,h2⟩ | ⟨a,len,cap,m,n',V,D,Pl,h1,_,hl,hm,hmm,h2,hx⟩
 ·cases h1;exact ⟨[],.yE _ _,rfl,(fun x hx=>nomatch hx),fun b _=>by simp⟩
 ·cases h1;simp only[if_true]at hmm;subst hmm;obtain ⟨g,hg⟩:=Deep.choose_lt (α:=α) (n:=len) (p:=fun i x=>W.cell? (a.add i)=some (V i)∧(V i).oneCell'=true∧PRel W (fun k _=>k<W.heap.size) (V i) (pic x)∧ok x) fun i hi=>by obtain ⟨c1,t1⟩:=hx i (by omega);obtain ⟨x,q1,q2,q3⟩:=hel _ _ _ t1;exact ⟨x,c1,q2,q1,q3⟩
  refine ⟨(List.range len).map g,?_,rfl,fun x hx=>?_,fun b hb=>?_⟩
  ·rw[List.length_map,List.length_range,List.map_map];exact OM hl fun i hi=>⟨(hg i hi).1,(hg i hi).2.1,(hg i hi).2.2.1⟩
  ·obtain ⟨i,hi,rfl⟩:=List.mem_map.1 hx;exact (hg i (List.mem_range.1 hi)).2.2.2
  ·rw[List.length_map,List.length_range];refine Nat.le_trans ?_ (hb ((len+(m-len))*P.bytesOf e) ?_)
   ·exact Nat.mul_le_mul_right _ (by omega)
   ·rw[h2];simp[DataW.weights,ht]
end
section
variable {H:Type}{enc:TypeId×Value→H}{P:Program}{W:World}
def Hk (x:Int):Prop := -9223372036854775808≤x∧x<9223372036854775808
theorem in64_of {n:Int}(h:(Lit.int .i64 n).wf=true):Hk n:=by simp only[Lit.wf,Bool.and_eq_true,decide_eq_true_eq]at h;have e1:IntKind.min .i64 = -9223372036854775808:=rfl;have e2:IntKind.max .i64=9223372036854775807:=rfl;rw[e1,e2]at h;exact ⟨by omega,by omega⟩
theorem WH {e:TypeId}(he:P.underlying e=some (.int .i64)){n:Nat}{v:Value}{y:DataW H×List MemPlace}(h:DataW.trod enc P W 0 (fun _=>true) true n e [v]=some y) :
  ∃x:Int,PRel W (fun k _=>k<W.heap.size) v (.int .i64 x)∧v.oneCell'=true∧Hk x:=by
 obtain ⟨z,e1,q⟩:=DataW.trod_int he h;cases e1;exact ⟨z,.int _ _,rfl,in64_of (by simp_all)⟩
theorem open_rows3 {t3 t2 t1 e:TypeId}(h3:P.underlying t3=some (.slice t2))(h2:P.underlying t2=some (.slice t1))(h1:P.underlying t1=some (.slice e))(he:P.underlying e=some (.int .i64))(c2:P.cellsOf t2=1)(c1:P.cellsOf t1=1)(ce:P.cellsOf e=1)
  {n:Nat} {v:Value} {y:DataW H×List MemPlace} (h:DataW.trod enc P W 0 (fun _=>true) true n t3 [v]=some y) :
  ∃l:List (List (List Int)),PRel W (fun k _=>k<W.heap.size) v (.vec l.length (l.map fun T=>.vec T.length (T.map fun r=>.vec r.length (r.map (.int .i64)))))∧(∀T∈l,∀r∈T,∀x∈r,Hk x)∧∀b,(∀k∈y.1.weights P t3,k≤b)→l.length*P.bytesOf t2≤b:=by
 obtain ⟨l,q1,_,q3,q4⟩:=sS (α:=List (List Int)) h3 c2 (fun T=>.vec T.length (T.map fun r=>.vec r.length (r.map (.int .i64)))) (fun T=>∀r∈T,∀x∈r,Hk x) (fun n v y h=>by
  obtain ⟨l,q1,q2,q3,_⟩:=sS (α:=List Int) h2 c1 (fun r=>.vec r.length (r.map (.int .i64))) (fun r=>∀x∈r,Hk x) (fun n v y h=>by obtain ⟨l,q1,q2,q3,_⟩:=sS (α:=Int) h1 ce (.int .i64) Hk (fun n v y h=>WH he h) h;exact ⟨l,q1,q2,q3⟩) h
  exact ⟨l,q1,q2,q3⟩) h
 exact ⟨l,q1,q3,q4⟩
end
end Go.Ab
end
