/- My own texts, put together by a program of mine. -/
import Derived.Laws.BitsLemmas
import Derived.Test.YtapdldekgbbomaaGreatMV5
set_option linter.unusedSimpArgs false
set_option linter.unusedVariables false
set_option maxRecDepth 100000
set_option maxHeartbeats 4000000
section
namespace Go.Proofs.YtapdldekgbbomaaGreat
open Go.Ab Go.Un
variable {p : Go.Un.Pg} {f : Fu}
theorem CW (h : GH p) (hf : f ∈ p.funcs) : ∀ x ∈ f.params, rG x.name = false := by
  obtain ⟨i, hi, rfl⟩ := bL (d := j6) hf
  intro x hx
  have hm : x.name ∈ (p.funcs.getD i j6).params.map (·.name) := List.mem_map.2 ⟨x, hx, rfl⟩
  rcases (h.fn i hi).2.2 with e | e | e <;> rw [e] at hm <;> simp at hm
  · rw [hm]; exact D9 1 (by omega)
  · rcases hm with e | e <;> rw [e]
    · exact D9 2 (by omega)
    · exact D9 1 (by omega)
variable {i : Nat}
theorem mA {α : Type} (f : α → List AV) (K j : Nat) (hK : ∀ a, (f a).length = K) (hj : j < K) (d : α) {l : List α} (h : i < l.length) : List.take 1 (List.drop (i * K + j) (l.flatMap f)) = List.take 1 (List.drop j (f (l.getD i d))) := by
  rw [← aW f K hK d h, List.drop_take, List.take_take, List.drop_drop, Nat.min_eq_left (by omega)]
theorem KA {l : List Gl} (h : i < l.length) : List.take 1 (List.drop (i * 2) (r8 l)) = [.str (l.getD i kI).name] := mA R9 2 0 (fun _ => rfl) (by omega) kI h
theorem KB {l : List Gl} (h : i < l.length) : List.take 1 (List.drop (i * 2 + 1) (r8 l)) = [.int .i64 (l.getD i kI).init] := mA R9 2 1 (fun _ => rfl) (by omega) kI h
variable {l : List Pm}
theorem KC (h : i < l.length) : List.take 1 (List.drop (i * 2) (u7 l)) = [.str (l.getD i gN).name] := mA R8 2 0 (fun _ => rfl) (by omega) gN h
theorem KD (h : i < l.length) : List.take 1 (List.drop (i * 2 + 1) (u7 l)) = [.bool (l.getD i gN).mu] := mA R8 2 1 (fun _ => rfl) (by omega) gN h
theorem txtGl_0 {l : List Gl} (h : (l.getD i kI).init = 0) : jT l (i + 1) = jT l i ++ zB ++ (l.getD i kI).name ++ pD := by rw [jT, if_pos h]
theorem txtGl_1 {l : List Gl} (h : ¬ (l.getD i kI).init = 0) : jT l (i + 1) = jT l i ++ zB ++ (l.getD i kI).name ++ HQ ++ S2 (l.getD i kI).init ++ pD := by rw [jT, if_neg h]
variable {out : BA}
theorem KE {l : List Mx} (h1 : (l.getD i u5).re = false) (h : ¬ 0 < (l.getD i u5).size) : dJ l out (i + 1) = dJ l out i ++ bE ++ (l.getD i u5).name ++ pD := by rw [dJ, if_neg h, if_neg (by rw [h1]; decide)]
theorem KF {l : List Mx} (h1 : (l.getD i u5).re = true) (h : ¬ 0 < (l.getD i u5).size) : dJ l out (i + 1) = dJ l out i ++ t_r ++ bE ++ (l.getD i u5).name ++ pD := by rw [dJ, if_neg h, if_pos h1]
theorem KG {l : List Mx} (h1 : (l.getD i u5).re = false) (h : 0 < (l.getD i u5).size) : dJ l out (i + 1) = dJ l out i ++ bE ++ (l.getD i u5).name ++ FP ++ S2 (l.getD i u5).size ++ FQ ++ pD := by rw [dJ, if_pos h, if_neg (by rw [h1]; decide)]
theorem KH {l : List Mx} (h1 : (l.getD i u5).re = true) (h : 0 < (l.getD i u5).size) : dJ l out (i + 1) = dJ l out i ++ t_r ++ bE ++ (l.getD i u5).name ++ FP ++ S2 (l.getD i u5).size ++ FQ ++ pD := by rw [dJ, if_pos h, if_pos h1]
theorem KI (h1 : (l.getD i gN).mu = false) (h : ¬ 0 < i) : eQ l out (i + 1) = eQ l out i ++ (l.getD i gN).name := by rw [eQ, if_neg h, if_neg (by rw [h1]; decide)]
theorem KJ (h1 : (l.getD i gN).mu = true) (h : ¬ 0 < i) : eQ l out (i + 1) = eQ l out i ++ bE ++ (l.getD i gN).name := by rw [eQ, if_neg h, if_pos h1]
theorem KK (h1 : (l.getD i gN).mu = false) (h : 0 < i) : eQ l out (i + 1) = eQ l out i ++ kQ ++ (l.getD i gN).name := by rw [eQ, if_pos h, if_neg (by rw [h1]; decide)]
theorem KL (h1 : (l.getD i gN).mu = true) (h : 0 < i) : eQ l out (i + 1) = eQ l out i ++ kQ ++ bE ++ (l.getD i gN).name := by rw [eQ, if_pos h, if_pos h1]
theorem GHgres (h : GH p) (hf : f ∈ p.funcs) : pM (HV p f) := by
  refine ⟨⟨fun m hm => ?_, fun x hx => ?_⟩, fun x hx => ?_⟩
  · obtain ⟨i, hi, rfl⟩ := bL (d := u5) hm
    show rG (p.c4.getD i u5).name = false
    rw [(h.mn i hi).1]
    exact CD i (by have := h.ml; have hi2 : i < p.c4.length := hi; omega)
  · exact CW h hf x hx
  · obtain ⟨g, hg, rfl⟩ := List.mem_map.1 hx
    obtain ⟨i, hi, rfl⟩ := bL (d := j6) hg
    show rG (p.funcs.getD i j6).name = false
    rw [(h.fn i hi).1]
    exact CE i (by have := h.fl; omega)
theorem CX (h : GH p) (hf : f ∈ p.funcs) : w9 (HW p f) := by
  intro x hx
  refine ⟨h.QG hf x hx, ?_⟩
  rcases List.mem_append.1 hx with hx | hx
  · obtain ⟨g, hg, rfl⟩ := List.mem_map.1 hx
    obtain ⟨i, hi, rfl⟩ := bL (d := kI) hg
    rw [(h.gn i hi).1]
    exact CC i (by have := h.gl; omega)
  · obtain ⟨g, hg, rfl⟩ := List.mem_map.1 hx
    exact CW h hf g (List.mem_filter.1 hg).1
theorem E8 {l : List Fu} (h : i < l.length) : (l.getD i j6).body.wt ≤ qJ l l.length := by
  have key : ∀ n, i < n → (l.getD i j6).body.wt ≤ qJ l n := by
    intro n hn
    induction n with
    | zero => omega
    | succ n ih =>
      rw [qJ]
      by_cases e : i = n
      · rw [e]; omega
      · have := ih (by omega); omega
  exact key _ h
variable {h : c6}
theorem c_lexF {L : Bs} (hx : LX L 4000) (hl : L.length ≤ 262144) : CB 50 [.vec L.length (rF L)] h (.tup [.any, .int .i64 L.length, .int .i64 0]) :=
  zK rfl ((c_lex0 L 4000 hx (Nat.le_refl _) hl).mono fun _ _ h => h.1) h
theorem encB_8 {b : BA} : b.toList.map (fun c => AV.int .u8 ((c.toNat : Nat) : Int)) = rF (L8 b) := by rw [ByteArray.toList_eq]; rfl
theorem c_lexB {b : BA} (hx : LX (L8 b) 4000) (hl : b.size ≤ 262144) : CB 50 [.vec b.size (b.toList.map fun c => AV.int .u8 ((c.toNat : Nat) : Int))] h (.tup [.any, .int .i64 b.size, .int .i64 0]) := by
  rw [encB_8, jS]
  exact c_lexF hx (by rw [← jS]; exact hl)
attribute [local go_sem] lY aB o2 aX bZ aZ n6 cV s3 aT aI Int.natCast_nonneg Int.natCast_inj List.length_map wrap64 T0 kT wX aA lJ eq_mk lK Nat.reduceMul KA KB KC KD wH sM dI
theorem N2 {l : List Pm} (hn : ∀ x ∈ l, isName (L8 x.name)) (out : BA) : ∀ i, i ≤ l.length → (eQ l out i).size ≤ out.size + 30 * i
  | 0, _ => Nat.le_refl _
  | i + 1, hi => by
    have ih := N2 hn out i (by omega)
    have hs := w5 (hn _ (l3 (d := gN) (show i < l.length from by omega)))
    have e1 : bE.size = 6 := rfl
    have e2 : kQ.size = 2 := rfl
    unfold eQ
    repeat' split
    all_goals simp only [aA]
    all_goals omega
theorem CY {l : List Fu} : ∀ {a b : Nat}, a ≤ b → qJ l a ≤ qJ l b := by
  intro a b h
  induction h with
  | refl => exact Nat.le_refl _
  | step _ ih => rw [qJ]; omega
theorem c_progT (hp : GP p) : CB 65 [.agg [.vec p.globals.length (r8 p.globals), .vec p.c4.length (g9 p.c4), .vec p.funcs.length (o7 p.funcs)]] h (.str (txtP p)) := by
  refine .bz Tryz.f65 131 ?_
  have hgl := rB hp.toGH p.globals.length (Nat.le_refl _)
  have hmx := rC hp.toGH hgl.1 p.c4.length (Nat.le_refl _)
  have hgl0 := hp.gl
  have hml0 := hp.ml
  have hfl0 := hp.fl
  have htot := hp.wt
  have hwm : ∀ i, i ≤ p.funcs.length → qJ p.funcs i ≤ 48 := fun i hi => Nat.le_trans (CY hi) htot
  refine c73z ?_
  refine .fZ (fun m st => ∃ (i : Nat), (m = p.globals.length - i ∧ i ≤ p.globals.length) ∧ st = ⟨mkS 131 [(1, AV.ptr h.length 0 0), (3, AV.str (jT p.globals i)), (4, AV.int .i64 ((i : Nat) : Int))], h ++ [⟨0, false, 27, 3, [.vec p.globals.length (r8 p.globals), .vec p.c4.length (g9 p.c4), .vec p.funcs.length (o7 p.funcs)], 0⟩]⟩) _ (.v ⟨0, ⟨rfl, by omega⟩, rfl⟩ (hs := t55)) ?_
  rintro m sl h' ⟨i, ⟨hm, hi⟩, hst⟩
  obtain ⟨rfl, rfl⟩ := St.mk.inj hst
  have hsz := (rB hp.toGH i hi).2
  refine c0z ?_
  refine u2z ?_ ?_
  ·intro e1 qe1
   refine c3z ?_
   have hgn := dZ (hp.toGH.AR (l3 (d := kI) (l := p.globals) (i := i) (by omega)))
   have hgi := (hp.gn i (by omega)).2
   refine .s ?_
   refine .e 8 ?_
   refine c42z ?_
   refine .c8 [1, 3, 4] ?_
   refine .z ?_
   refine u2z ?_ ?_
   ·intro e2 qe2
    have hns := (sP hgi.1 hgi.2).2
    refine c130z ?_
    refine c217z ?_
    refine .c8 [1, 3, 4] ?_
    refine c62z ?_
    exact ⟨_, by omega, .v ⟨(i + 1), ⟨rfl, by omega⟩, rfl⟩ (hs := t55)⟩
   intro e2 qe2
   refine .sk ?_
   refine c99z ?_
   exact ⟨_, by omega, .v ⟨(i + 1), ⟨rfl, by omega⟩, rfl⟩ (hs := t55)⟩
  intro e1 qe1
  refine .exit ?_
  obtain rfl : i = p.globals.length := by omega
  change g5 ..
  refine c5z ?_
  refine .aG (fun m st => ∃ (i : Nat), (m = p.c4.length - i ∧ i ≤ p.c4.length) ∧ st = ⟨mkS 131 [(1, AV.ptr h.length 0 0), (3, AV.str (dJ p.c4 (jT p.globals p.globals.length) i)), (5, AV.int .i64 ((i : Nat) : Int))], h ++ [⟨0, false, 27, 3, [.vec p.globals.length (r8 p.globals), .vec p.c4.length (g9 p.c4), .vec p.funcs.length (o7 p.funcs)], 0⟩]⟩) (.v ⟨0, ⟨rfl, by omega⟩, rfl⟩ (hs := t20)) ?_
  rintro m sl h' ⟨i, ⟨hm, hi⟩, hst⟩
  obtain ⟨rfl, rfl⟩ := St.mk.inj hst; clear hst
  have hsz := (rC hp.toGH hgl.1 i hi).2
  refine c0z ?_
  refine u2z ?_ ?_
  ·intro e3 qe3
   refine c3z ?_
   have hmn := dZ (hp.toGH.IA (l3 (d := u5) (l := p.c4) (i := i) (by omega)))
   have hmi := (hp.mn i (by omega)).2
   refine c12z ?_
   refine .c8 [1, 3, 5, 6] ?_
   refine .z ?_
   refine u2z ?_ ?_
   ·intro e4 qe4
    refine c1z ?_
    refine c12z ?_
    refine .c8 [1, 3, 5, 6] ?_
    refine .z ?_
    refine u2z ?_ ?_
    ·intro e5 qe5
     have hns := (sP (n := (p.c4.getD i u5).size) (by omega) (by omega)).2
     refine c189z ?_
     refine c217z ?_
     refine .c8 [1, 3, 5] ?_
     refine c62z ?_
     exact ⟨_, by omega, .v ⟨(i + 1), ⟨rfl, by omega⟩, rfl⟩ (he := t41) (hs := t20)⟩
    intro e5 qe5
    refine .sk ?_
    refine c62z ?_
    exact ⟨_, by omega, .v ⟨(i + 1), ⟨rfl, by omega⟩, rfl⟩ (he := t41) (hs := t20)⟩
   intro e4 qe4
   refine .sk ?_
   refine c59z ?_
   refine u2z ?_ ?_
   ·intro e6 qe6
    refine .c8 [1, 3, 5, 6] ?_
    have hns := (sP (n := (p.c4.getD i u5).size) (by omega) (by omega)).2
    refine c189z ?_
    refine c217z ?_
    refine .c8 [1, 3, 5] ?_
    refine c62z ?_
    exact ⟨_, by omega, .v ⟨(i + 1), ⟨rfl, by omega⟩, rfl⟩ (he := t41) (hs := t20)⟩
   intro e6 qe6
   refine .sk ?_
   refine .c8 [1, 3, 5] ?_
   refine c62z ?_
   exact ⟨_, by omega, .v ⟨(i + 1), ⟨rfl, by omega⟩, rfl⟩ (he := t41) (hs := t20)⟩
  intro e3 qe3
  refine .exit ?_
  obtain rfl : i = p.c4.length := by omega
  change g5 ..
  refine c5z ?_
  refine .aG (fun m st => ∃ (i : Nat), (m = p.funcs.length - i ∧ i ≤ p.funcs.length) ∧ st = ⟨mkS 131 [(1, AV.ptr h.length 0 0), (3, AV.str (qI p.funcs (dJ p.c4 (jT p.globals p.globals.length) p.c4.length) i)), (7, AV.int .i64 ((i : Nat) : Int))], h ++ [⟨0, false, 27, 3, [.vec p.globals.length (r8 p.globals), .vec p.c4.length (g9 p.c4), .vec p.funcs.length (o7 p.funcs)], 0⟩]⟩) (.v ⟨0, ⟨rfl, by omega⟩, rfl⟩) ?_
  rintro m sl h' ⟨i, ⟨hm, hi⟩, hst⟩
  obtain ⟨rfl, rfl⟩ := St.mk.inj hst; clear hst
  have hsz := (wP hp hmx.1 i hi).2
  have hwi := hwm i hi
  refine c0z ?_
  refine u2z ?_ ?_
  ·intro e7 qe7
   refine c3z ?_
   have hfm := l3 (d := j6) (l := p.funcs) (i := i) (by omega)
   have hfn := dZ (hp.toGH.AS hfm)
   have hpn := hp.toGH.oA hfm
   have hbd := hp.body i (by omega)
   have hwt := E8 (l := p.funcs) (i := i) (by omega)
   have hww := hp.wt
   have hlw := cQ (p.funcs.getD i j6).body
   refine .z ?_
   refine .c8 [1, 3, 7, 8] ?_
   refine c21z ?_
   refine .fZ (fun m st => ∃ (j : Nat), (m = (p.funcs.getD i j6).params.length - j ∧ j ≤ (p.funcs.getD i j6).params.length) ∧ st = ⟨mkS 131 [(1, AV.ptr h.length 0 0), (3, AV.str (eQ (p.funcs.getD i j6).params (qI p.funcs (dJ p.c4 (jT p.globals p.globals.length) p.c4.length) i ++ pZ ++ (p.funcs.getD i j6).name ++ tZ) j)), (7, AV.int .i64 ((i : Nat) : Int)), (8, AV.ptr (h.length + 1) 0 0), (9, AV.int .i64 ((j : Nat) : Int))], h ++ [⟨0, false, 27, 3, [.vec p.globals.length (r8 p.globals), .vec p.c4.length (g9 p.c4), .vec p.funcs.length (o7 p.funcs)], 0⟩, ⟨0, false, 106, 3, [.str (p.funcs.getD i j6).name, .vec (p.funcs.getD i j6).params.length (u7 (p.funcs.getD i j6).params), .vec (p.funcs.getD i j6).body.len (o9 (p.funcs.getD i j6).body)], 0⟩]⟩) _ (.v ⟨0, ⟨rfl, by omega⟩, rfl⟩ (hs := t28)) ?_
   rintro m sl h' ⟨j, ⟨hm, hj⟩, hst⟩
   obtain ⟨rfl, rfl⟩ := St.mk.inj hst
   have hsp := N2 (l := (p.funcs.getD i j6).params) hpn.2 (qI p.funcs (dJ p.c4 (jT p.globals p.globals.length) p.c4.length) i ++ pZ ++ (p.funcs.getD i j6).name ++ tZ) j hj
   have hs0 : (qI p.funcs (dJ p.c4 (jT p.globals p.globals.length) p.c4.length) i ++ pZ ++ (p.funcs.getD i j6).name ++ tZ).size ≤ (qI p.funcs (dJ p.c4 (jT p.globals p.globals.length) p.c4.length) i).size + 30 := by simp only [aA]; have e1 : pZ.size = 5 := rfl; have e2 : tZ.size = 1 := rfl; omega
   refine c0z ?_
   refine u2z ?_ ?_
   ·intro e8 qe8
    refine c3z ?_
    refine c0z ?_
    refine u2z ?_ ?_
    ·intro e9 qe9
     refine c1z ?_
     refine .seq ?_
     refine .c8 [1, 3, 7, 8, 9] ?_
     have hpj := dZ (hpn.2 _ (l3 (d := gN) (l := (p.funcs.getD i j6).params) (i := j) (by omega)))
     refine .z ?_
     refine u2z ?_ ?_
     ·intro e10 qe10
      refine c1z ?_
      refine .c8 [1, 3, 7, 8, 9] ?_
      refine c221z ?_
      refine .rz ?_
      exact ⟨_, by omega, .v ⟨(j + 1), ⟨rfl, by omega⟩, rfl⟩ (hs := t28)⟩
     intro e10 qe10
     refine .sk ?_
     refine c221z ?_
     refine .rz ?_
     exact ⟨_, by omega, .v ⟨(j + 1), ⟨rfl, by omega⟩, rfl⟩ (hs := t28)⟩
    intro e9 qe9
    refine c152z ?_
    have hpj := dZ (hpn.2 _ (l3 (d := gN) (l := (p.funcs.getD i j6).params) (i := j) (by omega)))
    refine .z ?_
    refine u2z ?_ ?_
    ·intro e11 qe11
     refine .c8 [1, 3, 7, 8, 9] ?_
     refine c1z ?_
     refine c221z ?_
     refine .rz ?_
     exact ⟨_, by omega, .v ⟨(j + 1), ⟨rfl, by omega⟩, rfl⟩ (hs := t28)⟩
    intro e11 qe11
    refine .sk ?_
    refine .c8 [1, 3, 7, 8, 9] ?_
    refine c221z ?_
    refine .rz ?_
    exact ⟨_, by omega, .v ⟨(j + 1), ⟨rfl, by omega⟩, rfl⟩ (hs := t28)⟩
   intro e8 qe8
   refine .exit ?_
   obtain rfl : j = (p.funcs.getD i j6).params.length := by omega
   change g5 ..
   have htab : gB.size = 1 := rfl
   have hbs := (iV (hp.toGH.genv hfm) (p.funcs.getD i j6).body _ gB ByteArray.empty 0 (hp.toGH.QG hfm) hbd.1 (by omega) zC Cl.nil).2
   have he0 : ByteArray.empty.size = 0 := rfl
   refine c189z ?_
   refine .ca rfl rfl (CF (hp.toGH.genv hfm) 1000 _ (by omega) (Nat.le_refl _) _ gB (CX hp.toGH hfm) hbd.1 (by omega) zC _) ?_
   refine c30z ?_
   refine .c8 [1, 3, 7] ?_
   refine .rz ?_
   exact ⟨_, by omega, .v ⟨(i + 1), ⟨rfl, by omega⟩, rfl⟩ (he := t41)⟩
  intro e7 qe7
  refine .exit ?_
  obtain rfl : i = p.funcs.length := by omega
  change g5 ..
  refine .z ?_
  exact .ret (.ex (hq := by rfl))
theorem c_valid (hp : GP p) : CB 35 [.agg [.vec p.globals.length (r8 p.globals), .vec p.c4.length (g9 p.c4), .vec p.funcs.length (o7 p.funcs)]] h (.bool true) := by
  refine .bz Tryz.f35 140 ?_
  have hgl0 := hp.gl
  have hml0 := hp.ml
  have hfl0 := hp.fl
  refine c12z ?_
  refine c26z ?_
  refine .spl 16 rfl rfl (fun e1 => by exfalso; have q := fact e1; omega) (fun e1 => ?_)
  try simp only [e1]
  have qe1 := fact e1
  refine .k 6 [(4, 16)] ?_
  refine .spl 22 rfl rfl (fun e2 => by exfalso; have q := fact e2; omega) (fun e2 => ?_)
  try simp only [e2]
  have qe2 := fact e2
  refine .m [(10, 22)] ?_
  refine uFbz ?_
  intro e3 qe3
  refine c152z ?_
  refine .c8 [1] ?_
  refine c24z ?_
  refine .fZ (fun m st => ∃ (i : Nat), (m = p.globals.length - i ∧ i ≤ p.globals.length) ∧ st = ⟨mkS 140 [(1, AV.ptr h.length 0 0), (3, AV.int .i64 ((i : Nat) : Int))], h ++ [⟨0, false, 27, 3, [.vec p.globals.length (r8 p.globals), .vec p.c4.length (g9 p.c4), .vec p.funcs.length (o7 p.funcs)], 0⟩]⟩) _ (.v ⟨0, ⟨rfl, by omega⟩, rfl⟩) ?_
  rintro m sl h' ⟨i, ⟨hm, hi⟩, hst⟩
  obtain ⟨rfl, rfl⟩ := St.mk.inj hst
  refine c0z ?_
  refine u2z ?_ ?_
  ·intro e4 qe4
   refine c3z ?_
   have hgi := (hp.gn i (by omega)).2
   have hgr : rG (p.globals.getD i kI).name = false := by rw [(hp.gn i (by omega)).1]; exact CC i (by omega)
   refine c117z ?_
   refine .ca rfl rfl (lI _ (hp.toGH.AR (l3 (d := kI) (l := p.globals) (i := i) (by omega))) hgr) ?_
   refine .k 8 [(8, 43)] ?_
   refine .m [(8, 43)] ?_
   refine uFbz ?_
   intro e5 qe5
   refine c4z ?_
   refine .c8 [1, 3] ?_
   refine .rz ?_
   exact ⟨_, by omega, .v ⟨(i + 1), ⟨rfl, by omega⟩, rfl⟩⟩
  intro e4 qe4
  refine c8z ?_
  refine c5z ?_
  refine .aG (fun m st => ∃ (i : Nat), (m = p.c4.length - i ∧ i ≤ p.c4.length) ∧ st = ⟨mkS 140 [(1, AV.ptr h.length 0 0), (4, AV.int .i64 ((i : Nat) : Int))], h ++ [⟨0, false, 27, 3, [.vec p.globals.length (r8 p.globals), .vec p.c4.length (g9 p.c4), .vec p.funcs.length (o7 p.funcs)], 0⟩]⟩) (.v ⟨0, ⟨rfl, by omega⟩, rfl⟩) ?_
  rintro m sl h' ⟨i, ⟨hm, hi⟩, hst⟩
  obtain ⟨rfl, rfl⟩ := St.mk.inj hst; clear hst
  refine c0z ?_
  refine u2z ?_ ?_
  ·intro e6 qe6
   refine c3z ?_
   have hmi := (hp.mn i (by omega)).2
   have hmr : rG (p.c4.getD i u5).name = false := by rw [(hp.mn i (by omega)).1]; exact CD i (by omega)
   refine .z ?_
   refine .c8 [1, 4, 5] ?_
   refine c61z ?_
   refine .ca rfl rfl (lI _ (hp.toGH.IA (l3 (d := u5) (l := p.c4) (i := i) (by omega))) hmr) ?_
   refine .k 7 [(4, 68)] ?_
   refine .spl 73 rfl rfl (fun e7 => by exfalso; have q := fact e7; omega) (fun e7 => ?_)
   try simp only [e7]
   have qe7 := fact e7
   refine .k 5 [(9, 73)] ?_
   refine .spl 78 rfl rfl (fun e8 => by exfalso; have q := fact e8; omega) (fun e8 => ?_)
   try simp only [e8]
   have qe8 := fact e8
   refine .k 3 [(14, 78)] ?_
   refine .spl 81 rfl rfl (fun e9 => ?_) (fun e9 => ?_)
   ·try simp only [e9]
    have qe9 := fact e9
    refine .m [(14, 78), (17, 81)] ?_
    refine .spl 86 rfl rfl (fun e10 => by exfalso; have q := fact e10; have := hmi.2.2 (by assumption); omega) (fun e10 => ?_)
    try simp only [e10]
    have qe10 := fact e10
    refine c54z ?_
    refine .c8 [1, 4] ?_
    refine .rz ?_
    exact ⟨_, by omega, .v ⟨(i + 1), ⟨rfl, by omega⟩, rfl⟩ (he := t41)⟩
   try simp only [e9]
   have qe9 := fact e9
   refine .m [(14, 78), (17, 81)] ?_
   refine c54z ?_
   refine .c8 [1, 4] ?_
   refine .rz ?_
   exact ⟨_, by omega, .v ⟨(i + 1), ⟨rfl, by omega⟩, rfl⟩ (he := t41)⟩
  intro e6 qe6
  refine c8z ?_
  refine c5z ?_
  refine .aG (fun m st => ∃ (i : Nat), (m = p.funcs.length - i ∧ i ≤ p.funcs.length) ∧ st = ⟨mkS 140 [(1, AV.ptr h.length 0 0), (6, AV.int .i64 ((i : Nat) : Int))], h ++ [⟨0, false, 27, 3, [.vec p.globals.length (r8 p.globals), .vec p.c4.length (g9 p.c4), .vec p.funcs.length (o7 p.funcs)], 0⟩]⟩) (.v ⟨0, ⟨rfl, by omega⟩, rfl⟩) ?_
  rintro m sl h' ⟨i, ⟨hm, hi⟩, hst⟩
  obtain ⟨rfl, rfl⟩ := St.mk.inj hst; clear hst
  refine c0z ?_
  refine u2z ?_ ?_
  ·intro e11 qe11
   refine c3z ?_
   have hfm := l3 (d := j6) (l := p.funcs) (i := i) (by omega)
   have hfn := dZ (hp.toGH.AS hfm)
   have hpn := hp.toGH.oA hfm
   have hbd := hp.body i (by omega)
   have hwt := E8 (l := p.funcs) (i := i) (by omega)
   have hww := hp.wt
   have hlw := cQ (p.funcs.getD i j6).body
   have hfr : rG (p.funcs.getD i j6).name = false := by rw [(hp.fn i (by omega)).1]; exact CE i (by omega)
   refine c12z ?_
   refine .c8 [1, 6, 7] ?_
   refine c61z ?_
   refine .ca rfl rfl (lI _ (hp.toGH.AS hfm) hfr) ?_
   refine .k 8 [(4, 103)] ?_
   refine .spl 109 rfl rfl (fun e12 => by exfalso; have q := fact e12; omega) (fun e12 => ?_)
   try simp only [e12]
   have qe12 := fact e12
   refine .k 2 [(10, 109)] ?_
   refine .ca rfl rfl (c_okS (hp.toGH.genv hfm) (GHgres hp.toGH hfm) 1000 _ (by omega) (Nat.le_refl _) _ 0 (CX hp.toGH hfm) hbd.1 (by omega) (by omega) _) ?_
   refine .m [(10, 109)] ?_
   refine c18z ?_
   refine .c8 [1, 6, 7] ?_
   refine c24z ?_
   refine .fZ (fun m st => ∃ (j : Nat), (m = (p.funcs.getD i j6).params.length - j ∧ j ≤ (p.funcs.getD i j6).params.length) ∧ st = ⟨mkS 140 [(1, AV.ptr h.length 0 0), (6, AV.int .i64 ((i : Nat) : Int)), (7, AV.ptr (h.length + 1) 0 0), (8, AV.int .i64 ((j : Nat) : Int))], h ++ [⟨0, false, 27, 3, [.vec p.globals.length (r8 p.globals), .vec p.c4.length (g9 p.c4), .vec p.funcs.length (o7 p.funcs)], 0⟩, ⟨0, false, 106, 3, [.str (p.funcs.getD i j6).name, .vec (p.funcs.getD i j6).params.length (u7 (p.funcs.getD i j6).params), .vec (p.funcs.getD i j6).body.len (o9 (p.funcs.getD i j6).body)], 0⟩]⟩) _ (.v ⟨0, ⟨rfl, by omega⟩, rfl⟩) ?_
   rintro m sl h' ⟨j, ⟨hm, hj⟩, hst⟩
   obtain ⟨rfl, rfl⟩ := St.mk.inj hst
   refine c0z ?_
   refine u2z ?_ ?_
   ·intro e13 qe13
    refine c3z ?_
    refine c117z ?_
    refine .ca rfl rfl (lI _ (hpn.2 _ (l3 (d := gN) (l := (p.funcs.getD i j6).params) (i := j) (by omega))) (CW hp.toGH hfm _ (l3 (d := gN) (l := (p.funcs.getD i j6).params) (i := j) (by omega)))) ?_
    refine .n ?_
    refine c54z ?_
    refine .c8 [1, 6, 7, 8] ?_
    refine .rz ?_
    exact ⟨_, by omega, .v ⟨(j + 1), ⟨rfl, by omega⟩, rfl⟩⟩
   intro e13 qe13
   refine c8z ?_
   refine .rz ?_
   exact ⟨_, by omega, .v ⟨(i + 1), ⟨rfl, by omega⟩, rfl⟩ (he := t41)⟩
  intro e11 qe11
  refine c8z ?_
  have htx := txtP_ok hp
  refine c142z ?_
  refine .ca rfl rfl (c_progT hp) ?_
  refine .e 1 ?_
  refine .ca rfl rfl (c_lexB htx.1 htx.2) ?_
  refine .n ?_
  refine .c8 [11] ?_
  refine .z ?_
  exact .ret (.ex (hq := by rfl))
end Go.Proofs.YtapdldekgbbomaaGreat
end
section
namespace Go.Proofs.YtapdldekgbbomaaGreat
open Go.Ab Go.Un
def sc1 : AV → AV
  | .bool b => .bool b
  | .int k n => .int k n
  | .str s => .str s
  | _ => .any
def sc2 : AV → AV
  | .agg cs => .agg (cs.map sc1)
  | x => sc1 x
def SU : AV → AV
  | .tup xs => .tup (xs.map sc2)
  | x => sc2 x
section
variable {h1 h2 : c6} {φ1 φ2 : Map} {w : World} {v : Value} {x : AV}
theorem CZ (r : Rel h1 φ1 w v x) : Rel h2 φ2 w v (sc1 x) := by
  unfold sc1
  split
  · cases r.aN; exact .aS _
  · cases r.u3; exact .bH _ _
  · cases r.dC; exact .nC _
  · exact .iG _
theorem DA (r : Rel h1 φ1 w v x) : Rel h2 φ2 w v (sc2 x) := by
  unfold sc2
  split
  · rename_i cs
    obtain ⟨a, rfl, ha, hc, hr⟩ := r.iQ
    refine .agg a _ (by simp [ha]) hc fun j u z hu hz => ?_
    rw [List.getElem?_map] at hz
    obtain ⟨y, hy, rfl⟩ := Option.map_eq_some_iff.1 hz
    exact CZ (hr j u y hu hy)
  · exact CZ r
theorem DB (r : Rel h1 φ1 w v x) : Rel h2 φ2 w v (SU x) := by
  unfold SU
  split
  · rename_i xs
    obtain ⟨a, rfl, ha, hr⟩ := r.kV
    refine .tup a _ (by simp [ha]) fun j u z hu hz => ?_
    rw [List.getElem?_map] at hz
    obtain ⟨y, hy, rfl⟩ := Option.map_eq_some_iff.1 hz
    exact DA (hr j u y hu hy)
  · exact DA r
end
variable {h : c6}
theorem borrowD {f : FuncId} {args args' : List AV} {x : AV} (ha : HD 0 h args' args) (r : CallA Tryz.prog cfg f args' (bI 0 h) fun y _ => y = x) : CallA Tryz.prog cfg f args h fun y k => y = SU x ∧ k = h := by
  intro B φ w cargs i hs hr
  obtain ⟨i', _⟩ := I8 0 i
  obtain ⟨k1, k2⟩ := ha.get
  refine (r B φ w cargs i' t187 fun j v y h1 h2 => ?_).mono fun e w' hp => ?_
  · have hj : j < args.length := by rw [← k1]; exact (List.getElem?_eq_some_iff.1 h2).1
    have e1 : args'.getD j .any = y := by simp [List.getD, h2]
    have e2 : args.getD j .any = args[j] := by simp [List.getD, hj]
    rcases k2 j with h | h
    · rw [e1] at h
      rw [h]; exact .iG _
    · rw [e1, e2] at h
      exact I9 i 0 h (hr j v _ h1 (List.getElem?_eq_getElem hj))
  · obtain ⟨v, y, h', φ', rfl, h1, h2, h3, rfl⟩ := hp
    have hfree : ∀ k, k < w.heap.size → F9 (bI 0 h) φ w k := fun k hk => ⟨hk, fun β b hb hv => by
      rcases cN hb with ⟨hn, _⟩ | ⟨_, b', _, rfl⟩
      · omega
      · cases hv⟩
    have hk : ∀ k, k < w.heap.size → w'.heap[k]? = w.heap[k]? := fun k hk => (h2.kF k (hfree k hk)).1
    have ev : Ev h φ w h φ w' := ⟨h2.os, h2.tape, h2.output, h2.size, fun k hs => ⟨hk k hs.1, Nat.lt_of_lt_of_le hs.1 h2.size, hs.2⟩, fun k j hs => ⟨World.cell?_of_block (hk k hs.1), Nat.lt_of_lt_of_le hs.1 h2.size, hs.2⟩, Nat.le_refl _, fun β b b' e1 e2 => by rw [e1] at e2; cases e2; exact ⟨Nat.le_refl _, fun _ => ⟨rfl, rfl, rfl⟩⟩⟩
    refine ⟨v, _, h, φ, rfl, ⟨fun β b hb hv => ?_, i.inj, i.base, i.bR, Nat.le_trans i.room h2.size, fun g => ev.A8 (i.dN g)⟩, ev, DB h3, rfl, rfl⟩
    obtain ⟨cur, q1, q2, q3, q4⟩ := i.blk β b hb hv
    exact ⟨cur, (hk _ (Array.getElem?_eq_some_iff.1 q1).1).trans q1, q2, q3, fun j v x a d => ⟨(q4 j v x a d).1, ev.rel (q4 j v x a d).2⟩⟩
variable {g n : Nat}
theorem xK {H : c6} {β : Nat} {l : List Ent} {x : BA} (hb : H[β]? = some (n9 115 3 g (j8 l))) (hn : l.length = n) (hl : l.length < 1000000) (hf : bF l x = none) : CB 37 [.own β g 0 n, .str x] H (.tup [.agg [.str ByteArray.empty, .int .i64 0, .int .i64 0], .bool false]) := by
  subst hn
  have e : HC 0 H (.own β g 0 l.length) = some (.vec l.length (j8 l)) := eG hb (Nat.zero_le _) (by rw [s4]; omega) (by omega) ((pL l).frz _ _ _)
  have ha : HD 0 H [.vec l.length (j8 l), .str x] [.own β g 0 l.length, .str x] := And.intro (.inr e) (And.intro (.inr rfl) trivial)
  exact borrowD ha ((CM hf hl).mono fun _ _ h => h.1)
variable {p : Go.Un.Pg}
theorem oK : (aK p).length = p.globals.length + (p.c4.length + p.funcs.length) := by simp [aK]
variable {i : Nat}
theorem KM (h : i < (aK p).length) : (aK p).getD i iU = if i < p.globals.length then ⟨(p.globals.getD i kI).name, 1, (i : Int)⟩ else if i - p.globals.length < p.c4.length then ⟨(p.c4.getD (i - p.globals.length) u5).name, 2, ((i - p.globals.length : Nat) : Int)⟩ else ⟨(p.funcs.getD (i - p.globals.length - p.c4.length) j6).name, 3, ((i - p.globals.length - p.c4.length : Nat) : Int)⟩ := by
  rw [oK] at h
  unfold aK
  rw [List.getD_eq_getElem?_getD]
  by_cases h1 : i < p.globals.length
  · rw [if_pos h1, List.getElem?_append_left t123]
    simp [h1]
  · rw [if_neg h1, List.getElem?_append_right (by simpa using Nat.le_of_not_lt h1)]
    simp only [List.length_map, List.length_range]
    by_cases h2 : i - p.globals.length < p.c4.length
    · rw [if_pos h2, List.getElem?_append_left t99]
      simp [h2]
    · rw [if_neg h2, List.getElem?_append_right (by simpa using Nat.le_of_not_lt h2)]
      simp only [List.length_map, List.length_range]
      have h3 : i - p.globals.length - p.c4.length < p.funcs.length := by omega
      simp [h3]
theorem DC (h : i < (aK p).length) : (aK p).getD i iU = if i < p.globals.length then ⟨(p.globals.getD i kI).name, 1, (i : Int)⟩ else if (i : Int) - p.globals.length < p.c4.length then ⟨(p.c4.getD ((i : Int) - p.globals.length).toNat u5).name, 2, (i : Int) - p.globals.length⟩ else ⟨(p.funcs.getD ((i : Int) - p.globals.length - p.c4.length).toNat j6).name, 3, (i : Int) - p.globals.length - p.c4.length⟩ := by
  rw [KM h]
  by_cases h1 : i < p.globals.length
  · rw [if_pos h1, if_pos h1]
  · rw [if_neg h1, if_neg h1, show ((i : Int) - p.globals.length).toNat = i - p.globals.length from by omega, show ((i : Int) - p.globals.length - p.c4.length).toNat = i - p.globals.length - p.c4.length from by omega]
    by_cases h2 : i - p.globals.length < p.c4.length
    · rw [if_pos h2, if_pos (by omega), show ((i - p.globals.length : Nat) : Int) = (i : Int) - p.globals.length from by omega]
    · rw [if_neg h2, if_neg (by omega), show ((i - p.globals.length - p.c4.length : Nat) : Int) = (i : Int) - p.globals.length - p.c4.length from by omega]
theorem DD {l : List Ent} (hn : (l.map (·.name)).Nodup) (hi : i < l.length) : bF (l.take i) (l.getD i iU).name = none := by
  refine sQ fun h => ?_
  obtain ⟨e, he, hx⟩ := List.mem_map.1 h
  obtain ⟨j, hj, rfl⟩ := List.mem_iff_getElem.1 he
  simp only [List.length_take] at hj
  have hjl : j < l.length := by omega
  simp only [List.getElem_take] at hx
  have e1 : l.getD i iU = l[i] := by simp [List.getD, hi]
  rw [e1] at hx
  have := (List.pairwise_iff_getElem.1 hn) j i (by simpa using hjl) (by simpa using hi) (by omega)
  simp only [List.getElem_map] at this
  exact this hx
theorem uR (h : GP p) : ((aK p).map (·.name)).Nodup := by
  have h1 := (sS h.toGH (i := 0) (by have := h.fl; omega)).nodup sR
  rw [List.map_append] at h1
  exact (List.nodup_append.1 h1).1
theorem takeD {l : List Ent} (h : i < l.length) : l.take (i + 1) = l.take i ++ [l.getD i iU] := by
  rw [List.take_add_one]
  simp [List.getD, h]
theorem zW {l : List Ent} {x : Ent} : j8 (l ++ [x]) = j8 l ++ [.str x.name, .int .i64 x.kind, .int .i64 x.n] := by simp [j8, hY]
variable {b0 b2 b3 : Blk} {es : List Ent}
theorem app_ent {l : c6} {x : BA} {k m : Int} (hn : es.length = n) (hl : n < 100000) : j5 cfg 115 (h ++ (b0 :: n9 115 3 g (j8 es) :: b2 :: b3 :: ⟨0, false, 115, 3, [.str x, .int .i64 k, .int .i64 m], 0⟩ :: l)) (.own (h.length + 1) g 0 n) (.own (h.length + 4) 0 0 1) = some (.own (h.length + 1) (g + 1) 0 (n + 1), h ++ (b0 :: n9 115 3 (g + 1) (j8 (es ++ [⟨x, k, m⟩])) :: b2 :: b3 :: ⟨0, false, 115, 3, [.str x, .int .i64 k, .int .i64 m], 0⟩ :: l)) := by
  subst hn
  rw [v7 (C := cfg) (K := 3) (m := 1) (new := [.str x, .int .i64 k, .int .i64 m]) (zs := j8 es) t29 rfl (by omega) (by rw [s4]; omega) rfl (by omega) t132 rfl (by decide) (by omega), zW, p7]
  rfl
theorem KN {l : List Gl} (h : i < l.length) : List.take 1 (List.drop (i * 2) (r8 l)) = [.str (l.getD i kI).name] := T8 R9 2 0 (fun _ => rfl) (by omega) kI h
theorem KO {l : List Mx} (h : i < l.length) : List.take 1 (List.drop (i * 3) (g9 l)) = [.str (l.getD i u5).name] := T8 HL 3 0 (fun _ => rfl) (by omega) u5 h
theorem KP {l : List Fu} (h : i < l.length) : List.take 1 (List.drop (i * 3) (o7 l)) = [.str (l.getD i j6).name] := T8 dI 3 0 (fun _ => rfl) (by omega) j6 h
attribute [local go_sem] rd s4 o2 aX bZ z9 aL eT cV s3 aT aI n6 aZ Int.natCast_nonneg Int.natCast_inj List.length_map wrap64 fA iM iN K9 zF D2 L0 oR max2 eJ cG bA Nat.reduceMul lX jE z1 hY oH kB tE KN KO KP app_ent
theorem c_decl (hp : GP p) : CB 36 [.agg [.vec p.globals.length (r8 p.globals), .vec p.c4.length (g9 p.c4), .vec p.funcs.length (o7 p.funcs)]] h (.tup [.vec (aK p).length (j8 (aK p)), .int .i64 (-1)]) := by
  refine .bz Tryz.f36 94 ?_
  have hdl := oK (p := p)
  have hnd := uR hp
  have hgl := hp.gl
  have hml := hp.ml
  have hfl := hp.fl
  refine c176z ?_
  refine c32z ?_
  refine .e 8 ?_
  refine c42z ?_
  refine .c8 [1, 4, 5, 6] ?_
  refine c24z ?_
  refine g5.sK 4 rfl ?_
  refine .aG (fun m st => ∃ (i : Nat), (m = (aK p).length - i ∧ i ≤ (aK p).length) ∧ st = ⟨mkS 94 [(1, AV.ptr h.length 0 0), (4, AV.own (h.length + 1) i 0 i), (5, AV.int .i64 (-1)), (6, AV.int .i64 ((aK p).length : Int)), (7, AV.int .i64 ((i : Nat) : Int))], h ++ [⟨0, false, 27, 3, [.vec p.globals.length (r8 p.globals), .vec p.c4.length (g9 p.c4), .vec p.funcs.length (o7 p.funcs)], 0⟩, n9 115 3 i (j8 ((aK p).take i))]⟩) (.v ⟨0, ⟨rfl, by omega⟩, rfl⟩ (hs := t47)) ?_
  rintro m sl h' ⟨i, ⟨hm, hi⟩, hst⟩
  obtain ⟨rfl, rfl⟩ := St.mk.inj hst; clear hst
  have htl : ((aK p).take i).length = i := by simp; omega
  refine c0z ?_
  refine u2z ?_ ?_
  ·intro e1 qe1
   refine c3z ?_
   refine c12z ?_
   have hat := DC (p := p) (i := i) (by omega)
   have hfn := DD hnd (i := i) (by omega)
   refine c24z ?_
   refine .c8 [1, 4, 5, 6, 7, 8, 9] ?_
   refine .z ?_
   refine u2z ?_ ?_
   ·intro e2 qe2
    refine c184z ?_
    refine .seq ?_
    refine .c8 [1, 4, 5, 6, 7, 8] ?_
    rw [if_pos (by omega)] at hat
    rw [hat] at hfn
    refine c213z ?_
    refine .n ?_
    refine c230z ?_
    refine c18z ?_
    refine c1z ?_
    refine .c8 [1, 4, 5, 6, 7] ?_
    refine .rz ?_
    exact ⟨_, by omega, .v ⟨(i + 1), ⟨rfl, by omega⟩, rfl⟩ (he := t104) (hk := t101) (hs := t47)⟩
   intro e2 qe2
   refine .z ?_
   refine u2z ?_ ?_
   ·intro e3 qe3
    refine .c8 [1, 4, 5, 6, 7, 8, 9] ?_
    refine c184z ?_
    refine .seq ?_
    refine .c8 [1, 4, 5, 6, 7, 8] ?_
    rw [if_neg (by omega), if_pos (by omega)] at hat
    rw [hat] at hfn
    refine c213z ?_
    refine .n ?_
    refine c230z ?_
    refine c18z ?_
    refine c1z ?_
    refine .c8 [1, 4, 5, 6, 7] ?_
    refine .rz ?_
    exact ⟨_, by omega, .v ⟨(i + 1), ⟨rfl, by omega⟩, rfl⟩ (he := t104) (hk := t101) (hs := t47)⟩
   intro e3 qe3
   refine .c8 [1, 4, 5, 6, 7, 8, 9] ?_
   refine .so u4 (mkP 17 [0, 1, 0, 0, 8, 24, 60, 127, 255, 511, 0, 0, 2048, 6144, 15360, 32767, 65535] [16]) ?_
   refine .k 8 [] ?_
   refine c65z ?_
   change g5 ..
   refine .seq ?_
   refine .c8 [1, 4, 5, 6, 7, 8] ?_
   rw [if_neg (by omega), if_neg (by omega)] at hat
   rw [hat] at hfn
   refine c213z ?_
   refine .n ?_
   refine c230z ?_
   refine c18z ?_
   refine c1z ?_
   refine .c8 [1, 4, 5, 6, 7] ?_
   refine .rz ?_
   exact ⟨_, by omega, .v ⟨(i + 1), ⟨rfl, by omega⟩, rfl⟩ (he := t104) (hk := t101) (hs := t47)⟩
  intro e1 qe1
  refine .exit ?_
  obtain rfl : i = (aK p).length := by omega
  rw [List.take_length]
  refine g5.Z7 (t := 4) (γ := h.length + 1) (len := (aK p).length) t29 (by rw [s4]; omega) (by omega) (pL _) (C5 (by decide) rfl) ?_
  rw [cY]; simp only [p7, List.set_cons_succ, List.set_cons_zero]
  change g5 ..
  refine .z ?_
  exact .ret (.ex (hq := by rfl))
def s0F (p : Go.Un.Pg) (f : Fu) : Sco := ⟨p, aK p ++ kJ f.params 0 0, (eY f.params : Int), 0, [], []⟩
def s1F (p : Go.Un.Pg) (f : Fu) : Sco := cC (s0F p f).l (s0F p f) f.body
def s2F (p : Go.Un.Pg) (f : Fu) : Sco := o5 (s1F p f) ⟨8, 0, false, l6, bK, [], []⟩ (s1F p f).st
variable {a b c d : Blk} {s : Sco} {r : c6}
theorem KQ : (h ++ (a :: b :: c :: d :: z1 (h.length + 4) s :: n9 62 12 (s).code.length (p9 (s).code) :: n9 3 1 (s).sites.length (j7 (s).sites) :: r)) = hT ⟨h ++ [a, b, c, d], r⟩ (z1 (h.length + 4) s) s.code s.sites := by simp [hT]
theorem hF_k : Frm.k ⟨h ++ [a, b, c, d], r⟩ = h.length + 4 := by simp [Frm.k]
theorem KR {E : Env} {cx : Ctx} {S : Sl} (hw : S.wt ≤ 1000) {vars : List BA} (sc : SC E cx vars s.l) (hG : GS E S vars) (bd : Bd E cx s.p) (B : Bnd s S.wt) : CH 66 [.ptr (h.length + 4) 0 0, .vec S.len (o9 S)] (h ++ (a :: b :: c :: d :: z1 (h.length + 4) s :: n9 62 12 (s).code.length (p9 (s).code) :: n9 3 1 (s).sites.length (j7 (s).sites) :: r)) (.tup []) (h ++ (a :: b :: c :: d :: z1 (h.length + 4) (cC s.l s S) :: n9 62 12 ((cC s.l s S)).code.length (p9 ((cC s.l s S)).code) :: n9 3 1 ((cC s.l s S)).sites.length (j7 ((cC s.l s S)).sites) :: r)) := by
  have := N1 1000 S hw (Nat.le_refl _) vars s sc hG bd B ⟨h ++ [a, b, c, d], r⟩
  rw [hF_k, ← KQ, ← KQ] at this
  exact this
theorem c_putF (hc : s.code.length < 10000) (hs : s.sites.length < 10000) (i : Ins) (t : Int) {zs : List AV} (hz : mT (dW i) zs) : CH 67 [.ptr (h.length + 4) 0 0, .agg zs, .int .i64 t] (h ++ (a :: b :: c :: d :: z1 (h.length + 4) s :: n9 62 12 (s).code.length (p9 (s).code) :: n9 3 1 (s).sites.length (j7 (s).sites) :: r)) (.int .i64 ((s.code.length : Nat) : Int)) (h ++ (a :: b :: c :: d :: z1 (h.length + 4) (o5 s i t) :: n9 62 12 ((o5 s i t)).code.length (p9 ((o5 s i t)).code) :: n9 3 1 ((o5 s i t)).sites.length (j7 ((o5 s i t)).sites) :: r)) := by
  have := lM (e := ⟨h ++ [a, b, c, d], r⟩) hc hs i t hz
  rw [hF_k, ← KQ, ← KQ] at this
  exact this
variable {b1 : Blk}
theorem app_cpF {l : c6} (hz : es.length = n) (h0 : 0 < n) (hn : n < 1000) : j5 cfg 115 (h ++ (b0 :: b1 :: b2 :: ⟨0, false, 115, 3, [], 0⟩ :: l)) (.own (h.length + 3) 0 0 0) (.vec n (j8 es)) = some (.own (h.length + 3) 1 0 n, h ++ (b0 :: b1 :: b2 :: ⟨1, false, 115, 3, j8 es, 0⟩ :: l)) := by
  subst hz
  have e1 : cfg.sz 115 = 3 := rfl
  have e2 : (cfg.ti 115).bytes = 32 := rfl
  have hm : es.length ≤ maxLen := by
    have : (1000 : Nat) ≤ maxLen := by decide
    omega
  have hb : es.length * 32 ≤ 140737488355328 := by omega
  have h1 : (j8 es).length = es.length * 3 := by rw [s4]; omega
  have h2 : ¬ es.length = 0 := by omega
  have h3 : ¬ es.length * 3 = 0 := by omega
  simp [j5, rd, lenOf, e1, e2, h1, hm, hb, s8, p7, h0, h2, h3]
variable {b4 : Blk}
theorem app_onF {b5 b6 b7 b8 : Blk} {l : c6} {x : BA} {k m : Int} (hz : es.length = n) (hn : n < 1000) : j5 cfg 115 (h ++ (b0 :: b1 :: b2 :: ⟨g, false, 115, 3, j8 es, 0⟩ :: b4 :: b5 :: b6 :: b7 :: b8 :: ⟨0, false, 115, 3, [.str x, .int .i64 k, .int .i64 m], 0⟩ :: l)) (.own (h.length + 3) g 0 n) (.own (h.length + 9) 0 0 1) = some (.own (h.length + 3) (g + 1) 0 (n + 1), h ++ (b0 :: b1 :: b2 :: ⟨g + 1, false, 115, 3, j8 (es ++ [⟨x, k, m⟩]), 0⟩ :: b4 :: b5 :: b6 :: b7 :: b8 :: ⟨0, false, 115, 3, [.str x, .int .i64 k, .int .i64 m], 0⟩ :: l)) := by
  subst hz
  have e1 : cfg.sz 115 = 3 := rfl
  have e2 : (cfg.ti 115).bytes = 32 := rfl
  have hm : es.length + 1 ≤ maxLen := by
    have : (1001 : Nat) ≤ maxLen := by decide
    omega
  have hb : (es.length + 1) * 32 ≤ 140737488355328 := by omega
  have h1 : (j8 es).length = es.length * 3 := by rw [s4]; omega
  have ht : List.take (es.length * 3) (j8 es) = j8 es := List.take_of_length_le (by omega)
  have hnl : ¬ (es.length + 1) * 3 ≤ es.length * 3 := by omega
  have hs : j8 (es ++ [⟨x, k, m⟩]) = j8 es ++ [.str x, .int .i64 k, .int .i64 m] := by simp [j8, hY]
  simp [j5, rd, lenOf, e1, e2, h1, hm, hb, ht, hnl, s8, p7, hs]
theorem oL : ∀ {l : List Pm} {x : Pm} {a b : Nat}, kJ (l ++ [x]) a b = kJ l a b ++ [if x.mu then ⟨x.name, 5, ((b + aQ l : Nat) : Int)⟩ else ⟨x.name, 4, ((a + eY l : Nat) : Int)⟩]
  | [], x, a, b => by simp [kJ, aQ, eY]; split <;> rfl
  | y :: l, x, a, b => by
    simp only [List.cons_append, kJ]
    cases hy : y.mu with
    | true =>
      simp only [if_true, oL (l := l), List.cons_append, aQ, eY, List.filter_cons, hy, Bool.not_true, Bool.false_eq_true, if_false, List.length_cons]
      rw [show b + 1 + (l.filter fun x => x.mu).length = b + ((l.filter fun x => x.mu).length + 1) from by omega]
    | false =>
      simp only [Bool.false_eq_true, if_false, oL (l := l), List.cons_append, aQ, eY, List.filter_cons, hy, Bool.not_false, if_true, List.length_cons]
      rw [show a + 1 + (l.filter fun x => !x.mu).length = a + ((l.filter fun x => !x.mu).length + 1) from by omega]
variable {l : List Pm}
theorem N4 {a b : Nat} : (kJ l a b).length = l.length := by
  have := congrArg List.length (gX l a b)
  simpa using this
theorem N5 : eY l ≤ l.length := List.length_filter_le _ _
theorem pN (h : i < l.length) : l.take (i + 1) = l.take i ++ [l.getD i gN] := by
  rw [List.take_add_one]
  simp [List.getD, h]
theorem uS {x : Pm} : eY (l ++ [x]) = eY l + (if x.mu then 0 else 1) := by
  simp only [eY, List.filter_append, List.length_append]
  cases h : x.mu <;> simp [h]
theorem tJ {x : Pm} : aQ (l ++ [x]) = aQ l + (if x.mu then 1 else 0) := by
  simp only [aQ, List.filter_append, List.length_append]
  cases h : x.mu <;> simp [h]
theorem drop_pm (hi : i < l.length) : l.drop i = l.getD i gN :: l.drop (i + 1) := by
  rw [List.drop_eq_getElem_cons hi]
  simp [List.getD, hi]
theorem findP (hp : GP p) {j : Nat} (hj : j < p.funcs.length) (hi : i < (p.funcs.getD j j6).params.length) : bF (aK p ++ kJ ((p.funcs.getD j j6).params.take i) 0 0) ((p.funcs.getD j j6).params.getD i gN).name = none := by
  have hn := (sS hp.toGH hj).nodup sR
  rw [List.map_append, gX] at hn
  have hs : ((p.funcs.getD j j6).params.map (·.name)) = (((p.funcs.getD j j6).params.take i).map (·.name)) ++ ((p.funcs.getD j j6).params.getD i gN).name :: (((p.funcs.getD j j6).params.drop (i + 1)).map (·.name)) := by
    have h1 : (p.funcs.getD j j6).params = (p.funcs.getD j j6).params.take i ++ ((p.funcs.getD j j6).params.getD i gN :: (p.funcs.getD j j6).params.drop (i + 1)) := by
      have h2 := drop_pm hi
      rw [← h2, List.take_append_drop]
    have h3 := congrArg (List.map (fun x : Pm => x.name)) h1
    rw [List.map_append, List.map_cons] at h3
    exact h3
  rw [hs, ← List.append_assoc] at hn
  refine sQ fun hm => ?_
  rw [List.map_append, gX] at hm
  exact (List.nodup_append.1 hn).2.2 _ hm _ (by simp) rfl
theorem bd_of (hp : GP p) {f : Fu} : Bd (HV p f) (ctxP p f) p := ⟨rfl, rfl, rfl, fun x hx => by
  obtain ⟨g, hg, rfl⟩ := List.mem_map.1 hx
  exact (hp.toGH.oA hg).1⟩
theorem KS (h : i < l.length) : List.take 1 (List.drop (i * 2) (u7 l)) = [.str (l.getD i gN).name] := T8 R8 2 0 (fun _ => rfl) (by omega) gN h
section
attribute [local go_sem] app_cpF app_onF xH tF tG xI xJ pJ lZ KS
theorem c_func (hp : GP p) {j : Nat} (hj : j < p.funcs.length) : CB 38 [.agg [.vec p.globals.length (r8 p.globals), .vec p.c4.length (g9 p.c4), .vec p.funcs.length (o7 p.funcs)], .vec (aK p).length (j8 (aK p)), .agg (dI (p.funcs.getD j j6))] h (.tup [.agg (sN (mI p (p.funcs.getD j j6))), .vec (s2F p (p.funcs.getD j j6)).sites.length (j7 (s2F p (p.funcs.getD j j6)).sites), .int .i64 0, .int .i64 0]) := by
  unfold dI
  refine .bz Tryz.f38 136 ?_
  have hdl := oK (p := p)
  have hgl := hp.gl
  have hml := hp.ml
  have hfl := hp.fl
  have hpn := (hp.toGH.oA (l3 (d := j6) hj)).1
  have hbd := hp.body j hj
  have hwt := E8 (l := p.funcs) hj
  have hww := hp.wt
  refine .z ?_
  refine .sg u4 (mkH 7 [0, 0, 0, 6, 15, 31, 63] [1, 3, 5] [] [0, 2, 10, 42] [0]) 0 ?_
  refine .rm [true] ?_
  refine .en [true] [2, 0] [_] ?_
  refine .p 1 ?_
  refine .en [true, false] [10, 2, 0] [_] ?_
  refine .p 1 ?_
  refine .en [true, false, false] [42, 10, 2, 0] [_] ?_
  refine .p 1 ?_
  refine .po [false, true, true, true] ?_
  refine u9.nil rfl ?_
  refine .c8 [5, 6, 10] ?_
  refine g5.lE (β := h.length + 4) (k := 8) t29 rfl ?_
  simp only [List.append_assoc, List.cons_append, List.nil_append, s8, p7, List.set_cons_succ, List.set_cons_zero, List.length_append, List.length_cons, List.length_nil, Nat.reduceAdd, Nat.zero_add]
  refine g5.lE (β := h.length + 4) (k := 9) t29 rfl ?_
  simp only [List.append_assoc, List.cons_append, List.nil_append, s8, p7, List.set_cons_succ, List.set_cons_zero, List.length_append, List.length_cons, List.length_nil, Nat.reduceAdd, Nat.zero_add]
  refine c21z ?_
  refine .aG (fun m st => ∃ (i : Nat), (m = (p.funcs.getD j j6).params.length - i ∧ i ≤ (p.funcs.getD j j6).params.length) ∧ st = ⟨mkS 136 [(5, AV.ptr (h.length + 1) 0 0), (6, AV.ptr (h.length + 2) 0 0), (10, AV.ptr (h.length + 4) 0 0), (11, AV.ptr (h.length + 7) 0 0), (12, AV.int .i64 ((i : Nat) : Int))], h ++ [⟨0, false, 27, 3, [.vec p.globals.length (r8 p.globals), .vec p.c4.length (g9 p.c4), .vec p.funcs.length (o7 p.funcs)], 0⟩, ⟨0, false, 106, 3, [.str (p.funcs.getD j j6).name, .vec (p.funcs.getD j j6).params.length (u7 (p.funcs.getD j j6).params), .vec (p.funcs.getD j j6).body.len (o9 (p.funcs.getD j j6).body)], 0⟩, ⟨0, false, 65, 5, [.str ByteArray.empty, .int .i64 0, .int .i64 0, .int .i64 0, .j9], 0⟩, ⟨1 + i, false, 115, 3, j8 (aK p ++ kJ ((p.funcs.getD j j6).params.take i) 0 0), 0⟩, ⟨0, false, 157, 10, [.vec p.globals.length (r8 p.globals), .vec p.c4.length (g9 p.c4), .vec p.funcs.length (o7 p.funcs), .own (h.length + 3) (1 + i) 0 ((aK p).length + i), .int .i64 0, .int .i64 0, .int .i64 0, .int .i64 0, .own (h.length + 5) 0 0 0, .own (h.length + 6) 0 0 0], 0⟩, ⟨0, true, 0, 0, [], 0⟩, ⟨0, true, 0, 0, [], 0⟩, ⟨0, false, 65, 5, [.str (p.funcs.getD j j6).name, .int .i64 ((eY ((p.funcs.getD j j6).params.take i) : Nat) : Int), .int .i64 ((aQ ((p.funcs.getD j j6).params.take i) : Nat) : Int), .int .i64 0, .j9], 0⟩]⟩) (.v ⟨0, ⟨rfl, by omega⟩, rfl⟩) ?_ (he := by (simp [kJ, eY, aQ]))
  rintro m sl h' ⟨i, ⟨hm, hi⟩, hst⟩
  obtain ⟨rfl, rfl⟩ := St.mk.inj hst; clear hst
  have hLl : (aK p ++ kJ ((p.funcs.getD j j6).params.take i) 0 0).length = (aK p).length + i := by simp only [List.length_append, N4, List.length_take]; omega
  have hpl : (kJ ((p.funcs.getD j j6).params.take i) 0 0).length = i := by simp only [N4, List.length_take]; omega
  have hne : j8 (aK p ++ kJ ((p.funcs.getD j j6).params.take i) 0 0) ≠ [] := by intro h0; have := congrArg List.length h0; rw [s4] at this; simp only [List.length_nil] at this; omega
  have hni := N5 (l := (p.funcs.getD j j6).params.take i); have hnl := zE (l := (p.funcs.getD j j6).params.take i); rw [List.length_take] at hni hnl
  refine c0z ?_
  refine u2z ?_ ?_
  ·intro e1 qe1
   refine c3z ?_
   refine .seq ?_
   have hfn := findP hp hj (i := i) (by omega)
   refine .sg u4 (mkH 17 [0, 1, 3, 7, 0, 16, 0, 112, 240, 496, 1023, 2047, 4095, 4095, 0, 24575, 65535] [10, 14, 15] [(14, 0)] [0, 1024, 16384, 17408, 50176] [0, 1, 2, 3, 4, 5, 6, 7, 8, 9, 10, 11, 12, 13]) 1 ?_
   refine u9.z8 t24 ?_
   refine .p 3 ?_
   refine c113z ?_
   refine c171z ?_
   refine .cm [true] [1024, 0] [_] rfl rfl (by simp only [jL, and_true, List.cons_append, List.nil_append]; exact xK t190 hLl (by omega) hfn) ?_
   refine .p 3 ?_
   refine .en [true, true] [17408, 16384, 1024, 0] [_, _] ?_
   refine .en [true, false, false, false] [50176, 17408, 16384, 1024, 0] [_] ?_
   refine .p 1 ?_
   refine u9.pop [false, false, true, false, true] (by kernel_rfl) (by simp only [pW, and_true, List.cons_append, List.nil_append]; exact ⟨cJ.r7 rfl rfl rfl rfl hb37 (xK t190 hLl (by omega) hfn) rfl, cJ.r7 rfl rfl rfl rfl hb37 (xK t190 hLl (by omega) hfn) rfl⟩) ?_
   refine c137z ?_
   refine .po [false, false, true, false, true] ?_
   refine u9.nil rfl ?_
   refine .c8 [5, 6, 10, 11, 12, 14] ?_
   refine c9z ?_
   refine .sk ?_
   refine .z ?_
   refine u2z ?_ ?_
   ·intro e2 qe2
    refine .c8 [5, 6, 10, 11, 12] ?_
    refine .sg u4 (mkH 19 [0, 0, 2, 6, 14, 0, 32, 0, 224, 480, 992, 0, 2048, 8160, 16352, 32766, 65535, 131071, 262143] [14, 15, 18] [] [0, 16384, 49152, 311296] [0, 1, 2, 3, 4]) 0 ?_
    refine c207z ?_
    refine c172z ?_
    refine c98z ?_
    refine c172z ?_
    refine .p 1 ?_
    refine .en [true] [16384, 0] [_] ?_
    refine .en [true, false] [49152, 16384, 0] [_] ?_
    refine .p 2 ?_
    refine .en [true, false, false] [311296, 49152, 16384, 0] [_] ?_
    refine c25z ?_
    refine .c8 [5, 6, 10, 11, 12, 65] ?_
    refine c62z ?_
    have hmu : ((p.funcs.getD j j6).params.getD i gN).mu = true := by simp_all
    have hs1 : kJ ((p.funcs.getD j j6).params.take (i + 1)) 0 0 = kJ ((p.funcs.getD j j6).params.take i) 0 0 ++ [⟨((p.funcs.getD j j6).params.getD i gN).name, 5, ((aQ ((p.funcs.getD j j6).params.take i) : Nat) : Int)⟩] := by rw [pN (by omega), oL, hmu]; simp
    have hs2 : eY ((p.funcs.getD j j6).params.take (i + 1)) = eY ((p.funcs.getD j j6).params.take i) + 0 := by rw [pN (by omega), uS, hmu]; rfl
    have hs3 : aQ ((p.funcs.getD j j6).params.take (i + 1)) = aQ ((p.funcs.getD j j6).params.take i) + 1 := by rw [pN (by omega), tJ, hmu]; rfl
    exact ⟨_, by omega, .v ⟨(i + 1), ⟨rfl, by omega⟩, rfl⟩ (he := t124) (hk := t71)⟩
   intro e2 qe2
   refine .c8 [5, 6, 10, 11, 12] ?_
   refine .sg u4 (mkH 19 [0, 0, 2, 6, 14, 0, 32, 0, 224, 480, 992, 0, 2048, 8160, 16352, 32766, 65535, 131071, 262143] [14, 15, 18] [] [0, 16384, 49152, 311296] [0, 1, 2, 3, 4]) 0 ?_
   refine c207z ?_
   refine c172z ?_
   refine c98z ?_
   refine c172z ?_
   refine .p 1 ?_
   refine .en [true] [16384, 0] [_] ?_
   refine .en [true, false] [49152, 16384, 0] [_] ?_
   refine .p 2 ?_
   refine .en [true, false, false] [311296, 49152, 16384, 0] [_] ?_
   refine c25z ?_
   refine .c8 [5, 6, 10, 11, 12] ?_
   refine c62z ?_
   have hmu : ((p.funcs.getD j j6).params.getD i gN).mu = false := by simp_all
   have hs1 : kJ ((p.funcs.getD j j6).params.take (i + 1)) 0 0 = kJ ((p.funcs.getD j j6).params.take i) 0 0 ++ [⟨((p.funcs.getD j j6).params.getD i gN).name, 4, ((eY ((p.funcs.getD j j6).params.take i) : Nat) : Int)⟩] := by rw [pN (by omega), oL, hmu]; simp
   have hs2 : eY ((p.funcs.getD j j6).params.take (i + 1)) = eY ((p.funcs.getD j j6).params.take i) + 1 := by rw [pN (by omega), uS, hmu]; rfl
   have hs3 : aQ ((p.funcs.getD j j6).params.take (i + 1)) = aQ ((p.funcs.getD j j6).params.take i) + 0 := by rw [pN (by omega), tJ, hmu]; rfl
   exact ⟨_, by omega, .v ⟨(i + 1), ⟨rfl, by omega⟩, rfl⟩ (he := t124) (hk := t71)⟩
  intro e1 qe1
  refine .exit ?_
  obtain rfl : i = (p.funcs.getD j j6).params.length := by omega
  rw [List.take_length] at hLl hne ⊢
  rw [← hLl]
  refine g5.C2 (γ := h.length + 3) (β := h.length + 4) (k := 3) (off := 0) (len := (aK p ++ kJ (p.funcs.getD j j6).params 0 0).length) (cs := j8 (aK p ++ kJ (p.funcs.getD j j6).params 0 0)) t29 rfl (by simp only [s4]; omega) (by rw [List.drop_zero, List.take_of_length_le (by simp only [s4]; omega)]; exact (pL _).MV) t29 (by omega) rfl ?_
  refine c19z ?_
  refine .z ?_
  refine .c8 [5, 6, 10, 11] ?_
  refine g5.z8 (h ++ [⟨0, false, 27, 3, [.vec p.globals.length (r8 p.globals), .vec p.c4.length (g9 p.c4), .vec p.funcs.length (o7 p.funcs)], 0⟩, ⟨0, false, 106, 3, [.str (p.funcs.getD j j6).name, .vec (p.funcs.getD j j6).params.length (u7 (p.funcs.getD j j6).params), .vec (p.funcs.getD j j6).body.len (o9 (p.funcs.getD j j6).body)], 0⟩, ⟨0, false, 65, 5, [.str ByteArray.empty, .int .i64 0, .int .i64 0, .int .i64 0, .j9], 0⟩, cU ⟨1 + (p.funcs.getD j j6).params.length, false, 115, 3, j8 (aK p ++ kJ (p.funcs.getD j j6).params 0 0), 0⟩ (0 + (aK p ++ kJ (p.funcs.getD j j6).params 0 0).length * 3), z1 (h.length + 4) (s0F p (p.funcs.getD j j6)), n9 62 12 (s0F p (p.funcs.getD j j6)).code.length (p9 (s0F p (p.funcs.getD j j6)).code), n9 3 1 (s0F p (p.funcs.getD j j6)).sites.length (j7 (s0F p (p.funcs.getD j j6)).sites), ⟨0, false, 65, 5, [.str (p.funcs.getD j j6).name, .int .i64 ((eY (p.funcs.getD j j6).params : Nat) : Int), .int .i64 ((aQ (p.funcs.getD j j6).params : Nat) : Int), .int .i64 0, .j9], 0⟩]) (by simp only [s0F, z1, List.length_append, Nat.zero_add]; rfl) ?_
  generalize cU ⟨1 + (p.funcs.getD j j6).params.length, false, 115, 3, j8 (aK p ++ kJ (p.funcs.getD j j6).params 0 0), 0⟩ (0 + (aK p ++ kJ (p.funcs.getD j j6).params 0 0).length * 3) = Lb
  have hni2 := N5 (l := (p.funcs.getD j j6).params)
  have hB0 : Bnd (s0F p (p.funcs.getD j j6)) (p.funcs.getD j j6).body.wt := ⟨by show 0 < (aK p ++ kJ (p.funcs.getD j j6).params 0 0).length; omega, by show (aK p ++ kJ (p.funcs.getD j j6).params 0 0).length + _ ≤ _; omega, by show 0 + _ ≤ _; omega, by show 0 + _ ≤ _; omega, by show 0 ≤ ((eY (p.funcs.getD j j6).params : Nat) : Int); omega, by show ((eY (p.funcs.getD j j6).params : Nat) : Int) + _ ≤ _; omega, Int.le_refl _, by show 0 + _ ≤ _; omega⟩
  refine c20z ?_
  refine .ch rfl rfl (KR (s := (s0F p (p.funcs.getD j j6))) (by omega) (sc_of hp.toGH hj) hbd.1 (bd_of hp) hB0) ?_
  refine .nil ?_
  have hc1 := iC (l0 := (s0F p (p.funcs.getD j j6)).l) (s := (s0F p (p.funcs.getD j j6))) (S := (p.funcs.getD j j6).body)
  have hc2 := gZ (l0 := (s0F p (p.funcs.getD j j6)).l) (s := (s0F p (p.funcs.getD j j6))) (S := (p.funcs.getD j j6).body)
  change _ ≤ (s1F p (p.funcs.getD j j6)).code.length ∧ (s1F p (p.funcs.getD j j6)).code.length ≤ 0 + _ at hc1
  change _ ≤ (s1F p (p.funcs.getD j j6)).sites.length ∧ (s1F p (p.funcs.getD j j6)).sites.length ≤ 0 + _ at hc2
  refine g5.z8 (h ++ [⟨0, false, 27, 3, [.vec p.globals.length (r8 p.globals), .vec p.c4.length (g9 p.c4), .vec p.funcs.length (o7 p.funcs)], 0⟩, ⟨0, false, 106, 3, [.str (p.funcs.getD j j6).name, .vec (p.funcs.getD j j6).params.length (u7 (p.funcs.getD j j6).params), .vec (p.funcs.getD j j6).body.len (o9 (p.funcs.getD j j6).body)], 0⟩, ⟨0, false, 65, 5, [.str ByteArray.empty, .int .i64 0, .int .i64 0, .int .i64 0, .j9], 0⟩, Lb, z1 (h.length + 4) (s1F p (p.funcs.getD j j6)), n9 62 12 (s1F p (p.funcs.getD j j6)).code.length (p9 (s1F p (p.funcs.getD j j6)).code), n9 3 1 (s1F p (p.funcs.getD j j6)).sites.length (j7 (s1F p (p.funcs.getD j j6)).sites), ⟨0, false, 65, 5, [.str (p.funcs.getD j j6).name, .int .i64 ((eY (p.funcs.getD j j6).params : Nat) : Int), .int .i64 ((aQ (p.funcs.getD j j6).params : Nat) : Int), .int .i64 0, .j9], 0⟩]) rfl ?_
  refine c117z ?_
  refine .ch rfl rfl (c_putF (s := (s1F p (p.funcs.getD j j6))) (by omega) (by omega) ⟨8, 0, false, l6, bK, [], []⟩ _ (by repeat' (first | exact trivial | exact mT.refl _ | exact .inl rfl | exact .inr ⟨rfl, rfl⟩ | refine ⟨?_, ?_⟩))) ?_
  refine .nil ?_
  refine .c8 [6, 10, 11] ?_
  refine g5.z8 (h ++ [⟨0, false, 27, 3, [.vec p.globals.length (r8 p.globals), .vec p.c4.length (g9 p.c4), .vec p.funcs.length (o7 p.funcs)], 0⟩, ⟨0, false, 106, 3, [.str (p.funcs.getD j j6).name, .vec (p.funcs.getD j j6).params.length (u7 (p.funcs.getD j j6).params), .vec (p.funcs.getD j j6).body.len (o9 (p.funcs.getD j j6).body)], 0⟩, ⟨0, false, 65, 5, [.str ByteArray.empty, .int .i64 0, .int .i64 0, .int .i64 0, .j9], 0⟩, Lb, z1 (h.length + 4) (s2F p (p.funcs.getD j j6)), n9 62 12 (s2F p (p.funcs.getD j j6)).code.length (p9 (s2F p (p.funcs.getD j j6)).code), n9 3 1 (s2F p (p.funcs.getD j j6)).sites.length (j7 (s2F p (p.funcs.getD j j6)).sites), ⟨0, false, 65, 5, [.str (p.funcs.getD j j6).name, .int .i64 ((eY (p.funcs.getD j j6).params : Nat) : Int), .int .i64 ((aQ (p.funcs.getD j j6).params : Nat) : Int), .int .i64 0, .j9], 0⟩]) rfl ?_
  refine g5.nX (γ := h.length + 5) (β := h.length + 4) (k := 8) (len := (s2F p (p.funcs.getD j j6)).code.length) t29 (by rw [z9]; omega) (by omega) (NY _) t29 (by omega) rfl ?_
  simp only [xH, tF, tG, xI, xJ, pJ, List.append_assoc, List.cons_append, List.nil_append, s8, p7, List.set_cons_succ, List.set_cons_zero, List.length_append, List.length_cons, List.length_nil, Nat.reduceAdd, Nat.zero_add]
  generalize iE 62 12 (s2F p (p.funcs.getD j j6)).code.length (p9 (s2F p (p.funcs.getD j j6)).code) ((s2F p (p.funcs.getD j j6)).code.length * 12) = Cb
  refine g5.nX (γ := h.length + 6) (β := h.length + 4) (k := 9) (len := (s2F p (p.funcs.getD j j6)).sites.length) t29 (by rw [n6]; omega) (by omega) (zS _) t29 (by omega) rfl ?_
  simp only [List.append_assoc, List.cons_append, List.nil_append, s8, p7, List.set_cons_succ, List.set_cons_zero, List.length_append, List.length_cons, List.length_nil, Nat.reduceAdd, Nat.zero_add]
  generalize iE 3 1 (s2F p (p.funcs.getD j j6)).sites.length (j7 (s2F p (p.funcs.getD j j6)).sites) ((s2F p (p.funcs.getD j j6)).sites.length * 1) = Sb
  refine .sg u4 (mkH 12 [0, 1, 3, 7, 0, 16, 48, 112, 15, 271, 1023, 2047] [9, 11] [] [0, 512, 2560] [4, 5, 6, 7]) 0 ?_
  refine c98z ?_
  refine c171z ?_
  refine .p 1 ?_
  refine .en [true] [512, 0] [_] ?_
  refine .p 1 ?_
  refine .en [true, false] [2560, 512, 0] [_] ?_
  refine c182z ?_
  refine .c8 [6, 10, 11] ?_
  refine .sg u4 (mkH 17 [0, 0, 2, 6, 14, 0, 32, 96, 224, 0, 512, 1536, 3584, 1, 8223, 25087, 65535] [13] [] [0, 8192] [1, 2, 3, 4, 5, 6, 7, 8, 9, 10, 11, 12]) 0 ?_
  refine .rn [true] ?_
  refine c171z ?_
  refine c171z ?_
  refine c171z ?_
  refine .en [true] [8192, 0] [_] ?_
  refine .p 3 ?_
  refine .po [true, true] ?_
  refine .po [true, true] ?_
  refine .po [true, true] ?_
  refine u9.nil rfl ?_
  exact .ret (.ex (hq := by rfl))
end
theorem plnMx (l : List Mx) : z6 (g9 l) := z6.flat fun _ => z6.cons .str (z6.cons .bool (z6.cons .int .nil))
theorem plnPr (l : List Pr) : z6 (l5 l) := z6.flat fun _ => z6.cons .str (z6.cons .int (z6.cons .int (z6.cons .int (z6.cons .vec .nil))))
theorem E9 {l : List Pr} {x : Pr} : l5 (l ++ [x]) = l5 l ++ sN x := by simp [l5]
theorem U1 {l : List Gl} (h : i < l.length) : List.take 1 (List.drop (i * 2 + 1) (r8 l)) = [.int .i64 (l.getD i kI).init] := T8 R9 2 1 (fun _ => rfl) (by omega) kI h
theorem app_cpM {l : c6} {ms : List Mx} (hz : ms.length = n) (h0 : 0 < n) (hn : n < 1000) : j5 cfg 72 (h ++ (b0 :: b1 :: b2 :: ⟨1, false, 72, 3, [], 0⟩ :: l)) (.own (h.length + 3) 1 0 0) (.vec n (g9 ms)) = some (.own (h.length + 3) 2 0 n, h ++ (b0 :: b1 :: b2 :: ⟨2, false, 72, 3, g9 ms, 0⟩ :: l)) := by
  subst hz
  have e1 : cfg.sz 72 = 3 := rfl
  have e2 : (cfg.ti 72).bytes = 32 := rfl
  have hm : ms.length ≤ maxLen := by
    have : (1000 : Nat) ≤ maxLen := by decide
    omega
  have hb : ms.length * 32 ≤ 140737488355328 := by omega
  have h1 : (g9 ms).length = ms.length * 3 := by rw [s3]; omega
  have h2 : ¬ ms.length = 0 := by omega
  have h3 : ¬ ms.length * 3 = 0 := by omega
  simp [j5, rd, lenOf, e1, e2, h1, hm, hb, s8, p7, h0, h2, h3]
theorem app_gi {l : c6} {is : List Int} {x : Int} (hn : is.length = n) (hl : n < 100000) : j5 cfg 3 (h ++ (b0 :: b1 :: b2 :: b3 :: b4 :: n9 3 1 g (j7 is) :: ⟨0, false, 3, 1, [.int .i64 x], 0⟩ :: l)) (.own (h.length + 5) g 0 n) (.own (h.length + 6) 0 0 1) = some (.own (h.length + 5) (g + 1) 0 (n + 1), h ++ (b0 :: b1 :: b2 :: b3 :: b4 :: n9 3 1 (g + 1) (j7 (is ++ [x])) :: ⟨0, false, 3, 1, [.int .i64 x], 0⟩ :: l)) := by
  subst hn
  rw [v7 (C := cfg) (K := 1) (m := 1) (new := [.int .i64 x]) (zs := j7 is) t29 rfl (by omega) t171 rfl (by omega) t132 rfl (by decide) (by omega), ← lL, p7]
  rfl
theorem app_pr {b5 b7 : Blk} {l : c6} {ps : List Pr} {x : Pr} (hn : ps.length = n) (hl : n < 100000) : j5 cfg 65 (h ++ (b0 :: b1 :: b2 :: b3 :: b4 :: b5 :: n9 65 5 g (l5 ps) :: b7 :: ⟨0, false, 65, 5, sN x, 0⟩ :: l)) (.own (h.length + 6) g 0 n) (.own (h.length + 8) 0 0 1) = some (.own (h.length + 6) (g + 1) 0 (n + 1), h ++ (b0 :: b1 :: b2 :: b3 :: b4 :: b5 :: n9 65 5 (g + 1) (l5 (ps ++ [x])) :: b7 :: ⟨0, false, 65, 5, sN x, 0⟩ :: l)) := by
  subst hn
  rw [v7 (C := cfg) (K := 5) (m := 1) (new := sN x) (zs := l5 ps) t29 rfl (by omega) (by rw [cB, Nat.mul_comm]) rfl (by omega) (by simp [rd, s8, sN]) rfl (by decide) (by omega), ← E9, p7]
  rfl
theorem KT {l : List Fu} (h : 0 < l.length) : List.take 1 (List.drop 1 (o7 l)) = [AV.vec (l.getD 0 j6).params.length (u7 (l.getD 0 j6).params)] := lZ (i := 0) h
theorem DE (hp : GP p) : bF (aK p) ⟨#[109, 97, 105, 110]⟩ = some ⟨⟨#[109, 97, 105, 110]⟩, 3, 0⟩ := by
  have hf := hp.fl.1
  have hn : (p.funcs.getD 0 j6).name = ⟨#[109, 97, 105, 110]⟩ := (hp.fn 0 (by omega)).1
  have := pF (uR hp) (e := ⟨(p.funcs.getD 0 j6).name, 3, ((0 : Nat) : Int)⟩) (List.mem_append.2 (.inr (List.mem_append.2 (.inr (List.mem_map.2 ⟨0, List.mem_range.2 (by omega), rfl⟩)))))
  rw [hn] at this
  exact this
theorem taken {α : Type} {l : List α} {d : α} (h : i < l.length) : l.take (i + 1) = l.take i ++ [l.getD i d] := by
  rw [List.take_add_one]
  simp [List.getD, h]
theorem DF {x : Pr} : (sN x).length = 5 := rfl
theorem takePr {x : Pr} : List.take 5 (sN x) = sN x := rfl
section
attribute [local go_sem] app_cpM app_gi app_pr lZ KT U1 sM DF takePr
theorem c_lower (hp : GP p) : CB 23 [.agg [.vec p.globals.length (r8 p.globals), .vec p.c4.length (g9 p.c4), .vec p.funcs.length (o7 p.funcs)]] h (.tup [.agg (encUn (cP p)), .int .i64 0, .int .i64 0, .int .i64 0]) := by
  refine .bz Tryz.f23 112 ?_
  have hdl := oK (p := p)
  have hgl := hp.gl
  have hml := hp.ml
  have hfl := hp.fl
  have hmain := DE hp
  have hz0 : (p.funcs.getD 0 j6).params.length = 0 := by rw [(hp.fn 0 (by omega)).2.1 rfl]; rfl
  refine c12z ?_
  refine c142z ?_
  refine .ca rfl rfl (c_valid hp) ?_
  refine .n ?_
  refine c18z ?_
  refine c142z ?_
  refine .ca rfl rfl (c_decl hp) ?_
  refine c42z ?_
  refine .c8 [1, 2, 6, 7] ?_
  refine c9z ?_
  refine .sk ?_
  refine c142z ?_
  refine .ca rfl rfl (E5 hmain (by omega)) ?_
  refine c42z ?_
  refine .s ?_
  refine .k 8 [(2, 37)] ?_
  refine .k 8 [(7, 42)] ?_
  refine .m [(7, 42)] ?_
  refine uFbz ?_
  intro e1 qe1
  refine .sk ?_
  refine .c8 [1, 2, 6, 8, 30] ?_
  refine .sg u4 (mkH 9 [0, 1, 0, 0, 8, 28, 63, 0, 255] [2, 5, 7, 8] [(2, 0), (7, 1)] [0, 4, 36, 128, 132, 164, 420] [0, 1, 2, 3, 4, 5, 6]) 2 ?_
  refine c33z ?_
  refine .em [true] [4, 0] [_] ?_
  refine .p 1 ?_
  refine .rm [true, true] ?_
  refine .em [true, false] [36, 4, 0] [_] ?_
  refine .p 1 ?_
  refine .en [true, true, true] [164, 132, 128, 36, 4, 0] [_, _, _] ?_
  refine .en [true, false, false, false, false, false] [420, 164, 132, 128, 36, 4, 0] [_] ?_
  refine .po [false, false, true, false, false, true, false] ?_
  refine .po [false, false, true, true, false, true, true] ?_
  refine .po [false, false, false, true, false, false, true] ?_
  refine .po [false, true, true, true, true, true, true] ?_
  refine u9.nil rfl ?_
  refine .seq ?_
  refine .c8 [1, 2, 6, 10, 30] ?_
  refine c24z ?_
  refine g5.lE (β := h.length + 4) (k := 0) t29 rfl ?_
  simp only [List.append_assoc, List.cons_append, List.nil_append, s8, p7, List.set_cons_succ, List.set_cons_zero, List.length_append, List.length_cons, List.length_nil, Nat.reduceAdd, Nat.zero_add]
  refine .aG (fun m st => ∃ (i : Nat), (m = p.globals.length - i ∧ i ≤ p.globals.length) ∧ st = ⟨mkS 112 [(1, AV.ptr h.length 0 0), (2, AV.ptr (h.length + 1) 0 0), (6, AV.vec (aK p).length (j8 (aK p))), (10, AV.ptr (h.length + 4) 1 0), (11, AV.int .i64 ((i : Nat) : Int))], h ++ [⟨0, false, 27, 3, [.vec p.globals.length (r8 p.globals), .vec p.c4.length (g9 p.c4), .vec p.funcs.length (o7 p.funcs)], 0⟩, ⟨0, false, 30, 4, [.j9, .j9, .j9, .int .i64 0], 0⟩, ⟨0, false, 115, 3, [.str ⟨#[109, 97, 105, 110]⟩, .int .i64 3, .int .i64 0], 0⟩, ⟨2, false, 72, 3, g9 p.c4, 0⟩, ⟨1, false, 30, 4, [.own (h.length + 5) i 0 i, .own (h.length + 3) 2 0 p.c4.length, .j9, .int .i64 0], 0⟩, n9 3 1 i (j7 ((cP p).globals.take i))]⟩) (.v ⟨0, ⟨rfl, by omega⟩, rfl⟩) ?_
  rintro m sl h' ⟨i, ⟨hm, hi⟩, hst⟩
  obtain ⟨rfl, rfl⟩ := St.mk.inj hst; clear hst
  have htl : ((cP p).globals.take i).length = i := by simp [cP]; omega
  refine c0z ?_
  refine u2z ?_ ?_
  ·intro e2 qe2
   refine c3z ?_
   refine .og u4 (mkH 12 [0, 1, 0, 4, 0, 28, 60, 124, 252, 511, 1023, 2047] [8, 9, 11] [] [0, 256, 768, 2816] [0, 1]) 0 ?_
   refine c33z ?_
   refine c172z ?_
   refine c98z ?_
   refine .en [true] [256, 0] [_] ?_
   refine .en [true, false] [768, 256, 0] [_] ?_
   refine .p 1 ?_
   refine .en [true, false, false] [2816, 768, 256, 0] [_] ?_
   refine c128z ?_
   refine .c8 [1, 2, 6, 10, 11] ?_
   refine .rz ?_
   exact ⟨_, by omega, .v ⟨(i + 1), ⟨rfl, by omega⟩, rfl⟩ (he := by (rw [taken (d := 0) (l := (cP p).globals) (by simp [cP]; omega), show (cP p).globals.getD i 0 = (p.globals.getD i kI).init from getD_map (by omega)]; simp only [List.append_assoc, List.cons_append, List.nil_append]; rfl)) (hk := by exact (z5.refl _).app rfl ⟨.inl rfl, .inl rfl, .inl rfl, .inl rfl, .inr (eS.get ⟨.own _ _ _ _ (by simp), .own _ _ _ _ (by simp), .j9, .int _ _, trivial⟩), .inr t107, trivial⟩)⟩
  intro e2 qe2
  refine .exit ?_
  obtain rfl : i = p.globals.length := by omega
  change g5 ..
  refine c5z ?_
  refine g5.lE (β := h.length + 4) (k := 2) t29 rfl ?_
  simp only [List.append_assoc, List.cons_append, List.nil_append, s8, p7, List.set_cons_succ, List.set_cons_zero, List.length_append, List.length_cons, List.length_nil, Nat.reduceAdd, Nat.zero_add]
  refine .aG (fun m st => ∃ (i : Nat), (m = p.funcs.length - i ∧ i ≤ p.funcs.length) ∧ st = ⟨mkS 112 [(1, AV.ptr h.length 0 0), (2, AV.ptr (h.length + 1) 0 0), (6, AV.vec (aK p).length (j8 (aK p))), (10, AV.ptr (h.length + 4) 1 0), (12, AV.int .i64 ((i : Nat) : Int))], h ++ [⟨0, false, 27, 3, [.vec p.globals.length (r8 p.globals), .vec p.c4.length (g9 p.c4), .vec p.funcs.length (o7 p.funcs)], 0⟩, ⟨0, false, 30, 4, [.j9, .j9, .j9, .int .i64 0], 0⟩, ⟨0, false, 115, 3, [.str ⟨#[109, 97, 105, 110]⟩, .int .i64 3, .int .i64 0], 0⟩, ⟨2, false, 72, 3, g9 p.c4, 0⟩, ⟨1, false, 30, 4, [.own (h.length + 5) p.globals.length 0 p.globals.length, .own (h.length + 3) 2 0 p.c4.length, .own (h.length + 6) i 0 i, .int .i64 0], 0⟩, n9 3 1 p.globals.length (j7 ((cP p).globals.take p.globals.length)), n9 65 5 i (l5 ((cP p).procs.take i))]⟩) (.v ⟨0, ⟨rfl, by omega⟩, rfl⟩) ?_
  rintro m sl h' ⟨i, ⟨hm, hi⟩, hst⟩
  obtain ⟨rfl, rfl⟩ := St.mk.inj hst; clear hst
  have htl : ((cP p).procs.take i).length = i := by simp [cP]; omega
  refine c0z ?_
  refine u2z ?_ ?_
  ·intro e3 qe3
   refine c3z ?_
   refine .sg u4 (mkH 18 [0, 0, 0, 4, 0, 28, 60, 127, 255, 511, 511, 511, 511, 0, 9215, 26623, 61439, 131071] [13, 14] [] [0, 8192, 24576] [0, 1, 2, 3, 4, 5, 6, 7, 8, 9, 10, 11, 12]) 0 ?_
   refine .rm [true] ?_
   refine .p 2 ?_
   refine .rm [true] ?_
   refine .p 2 ?_
   refine .rm [true] ?_
   refine .cl rfl rfl (fun _ => c_func hp (by omega)) ?_
   refine .p 5 ?_
   refine .en [true] [8192, 0] [_] ?_
   refine .en [true, false] [24576, 8192, 0] [_] ?_
   refine .p 3 ?_
   refine c37z ?_
   refine c182z ?_
   refine .seq ?_
   refine .c8 [1, 2, 6, 10, 12, 13, 15, 16] ?_
   refine c9z ?_
   refine .sk ?_
   refine c1z ?_
   refine .c8 [1, 2, 6, 10, 12] ?_
   refine .rz ?_
   exact ⟨_, by omega, .v ⟨(i + 1), ⟨rfl, by omega⟩, rfl⟩ (he := by (rw [taken (d := nZ) (l := (cP p).procs) (by simp [cP]; omega), show (cP p).procs.getD i nZ = mI p (p.funcs.getD i j6) from getD_map (by omega)]; simp only [List.append_assoc, List.cons_append, List.nil_append]; rfl)) (hk := by exact (z5.refl _).app rfl ⟨.inl rfl, .inl rfl, .inl rfl, .inl rfl, .inr (eS.get ⟨.own _ _ _ _ (by simp), .own _ _ _ _ (by simp), .own _ _ _ _ (by simp), .int _ _, trivial⟩), .inl rfl, .inr (by rw [r6]; exact (plnPr _).refs _), trivial⟩)⟩
  intro e3 qe3
  refine .exit ?_
  obtain rfl : i = p.funcs.length := by omega
  have hgt : (cP p).globals.take p.globals.length = (cP p).globals := List.take_of_length_le (by simp [cP])
  have hpt : (cP p).procs.take p.funcs.length = (cP p).procs := List.take_of_length_le (by simp [cP])
  rw [hgt, hpt]
  have hgl2 : (cP p).globals.length = p.globals.length := by simp [cP]
  have hpl2 : (cP p).procs.length = p.funcs.length := by simp [cP]
  refine g5.nX (γ := h.length + 5) (β := h.length + 4) (k := 0) (len := p.globals.length) t29 (by rw [n6, hgl2, Nat.mul_one]) (by omega) (zS _) t29 (by omega) rfl ?_
  simp only [List.append_assoc, List.cons_append, List.nil_append, s8, p7, List.set_cons_succ, List.set_cons_zero, List.length_append, List.length_cons, List.length_nil, Nat.reduceAdd, Nat.zero_add]
  generalize iE 3 1 p.globals.length (j7 (cP p).globals) (p.globals.length * 1) = Gb
  refine g5.nX (γ := h.length + 6) (β := h.length + 4) (k := 2) (len := p.funcs.length) t29 (by rw [cB, hpl2, Nat.mul_comm]) (by omega) (plnPr _) t29 (by omega) rfl ?_
  simp only [List.append_assoc, List.cons_append, List.nil_append, s8, p7, List.set_cons_succ, List.set_cons_zero, List.length_append, List.length_cons, List.length_nil, Nat.reduceAdd, Nat.zero_add]
  generalize iE 65 5 p.funcs.length (l5 (cP p).procs) (p.funcs.length * 5) = Pb
  refine g5.C2 (γ := h.length + 3) (β := h.length + 4) (k := 1) (off := 0) (len := p.c4.length) (cs := g9 p.c4) t29 rfl (by simp only [s3]; omega) (by rw [List.drop_zero, List.take_of_length_le (by simp only [s3]; omega)]; exact (plnMx _).MV) t29 (by omega) rfl ?_
  refine c19z ?_
  refine .c8 [2, 10] ?_
  refine .z ?_
  exact .ret (.ex (hq := by (simp only [encUn, hgl2, hpl2]; rfl)))
end
end Go.Proofs.YtapdldekgbbomaaGreat
end
section
namespace Go.Proofs.YtapdldekgbbomaaGreat
open Go.Ab Go.Un
variable {a b : List Int} {i : Nat}
theorem ne_at (h : a.getD i 0 ≠ b.getD i 0) : ¬ a = b := fun e => h (by rw [e])
theorem eq_all (hl : a.length = b.length) (h : ∀ d, d < a.length → a.getD d 0 = b.getD d 0) : a = b := by
  refine List.ext_getElem hl fun i h1 h2 => ?_
  have := h i h1
  simpa [List.getD, h1, h2] using this
theorem all_nx (h : ∀ d, d < i → a.getD d 0 = b.getD d 0) (e : a.getD i 0 = b.getD i 0) : ∀ d, d < i + 1 → a.getD d 0 = b.getD d 0 := fun d hd => by
  by_cases hdi : d = i
  · rw [hdi]; exact e
  · exact h d (by omega)
variable {l : List Int} {n : Int}
theorem no_nx (h : ∀ d, d < i → l.getD d 0 ≠ n) (e : l.getD i 0 ≠ n) : ∀ d, d < i + 1 → l.getD d 0 ≠ n := fun d hd => by
  by_cases hdi : d = i
  · rw [hdi]; exact e
  · exact h d (by omega)
theorem no_mem (h : ∀ d, d < l.length → l.getD d 0 ≠ n) : ¬ n ∈ l := fun hm => by
  obtain ⟨i, hi, rfl⟩ := bL (d := (0 : Int)) hm
  exact h i hi rfl
theorem take_I {k : Nat} : List.take k (j7 l) = j7 (l.take k) := by simp [j7, List.map_take]
theorem dropt_I {k : Nat} : List.take (l.length - k) (List.drop k (j7 l)) = j7 (l.drop k) := by
  rw [j7, ← List.map_drop, List.take_of_length_le (by simp)]; rfl
theorem iD (h : i < l.length) : List.take 1 (List.drop i (j7 l)) = [.int .i64 (l.getD i 0)] := by
  have h2 : i < (j7 l).length := by rw [n6]; exact h
  rw [List.drop_eq_getElem_cons h2]
  simp [j7, List.getD, h]
def gW (g n : Nat) : Nat := if n = 0 then g else g + 1
def kW (l : List Int) (n : Int) : Nat := (l.takeWhile fun x => decide (x < n)).length
def iX (l : List Int) (n : Int) : List Int := if n ∈ l then l else l.take (kW l n) ++ n :: l.drop (kW l n)
theorem kW_at : ∀ {k : Nat}, k ≤ l.length → (∀ d, d < k → l.getD d 0 < n) → (k < l.length → ¬ l.getD k 0 < n) → k = kW l n := by
  induction l with
  | nil => intro k hk _ _; simp at hk; subst hk; rfl
  | cons x l ih =>
    intro k hk h1 h2
    cases k with
    | zero =>
      have := h2 (by simp)
      simp only [List.getD_cons_zero] at this
      simp [kW, List.takeWhile, this]
    | succ k =>
      have h0 := h1 0 (by omega)
      simp only [List.getD_cons_zero] at h0
      have := ih (k := k) (by simpa using hk) (fun d hd => by have := h1 (d + 1) (by omega); simpa using this) (fun hl => by have := h2 (by simpa using hl); simpa using this)
      rw [kW, List.takeWhile_cons_of_pos (by simpa using h0), List.length_cons, this]
      rfl
theorem lt_nx (h : ∀ d, d < i → l.getD d 0 < n) (e : l.getD i 0 < n) : ∀ d, d < i + 1 → l.getD d 0 < n := fun d hd => by
  by_cases hdi : d = i
  · rw [hdi]; exact e
  · exact h d (by omega)
variable {h : c6} {g : Nat}
theorem app_w {l : c6} {n m : Nat} (ha : a.length = n) (hb : b.length = m) (hn : n < 150000) (hm : m < 100000) : j5 cfg 3 (h ++ (⟨g, false, 3, 1, j7 a, 0⟩ :: l)) (.own h.length g 0 n) (.vec m (j7 b)) = some (.own h.length (gW g m) 0 (n + m), h ++ (⟨gW g m, false, 3, 1, j7 (a ++ b), 0⟩ :: l)) := by
  subst ha hb
  have e1 : cfg.sz 3 = 1 := rfl
  have e2 : (cfg.ti 3).bytes = 8 := rfl
  have h1 : a.length + b.length ≤ maxLen := by
    have : (300000 : Nat) ≤ maxLen := by decide
    omega
  have h2 : (a.length + b.length) * 8 ≤ 140737488355328 := by omega
  have ht : List.take a.length (j7 a) = j7 a := List.take_of_length_le t181
  have hs : j7 (a ++ b) = j7 a ++ j7 b := by simp [j7]
  cases b with
  | nil =>
    simp only [List.length_nil, Nat.add_zero] at h1 h2
    simp [j5, rd, lenOf, e1, e2, gW, hs, j7, h1, h2]
  | cons x b =>
    simp only [List.length_cons] at h1 h2
    have h3 : ¬ a.length + (b.length + 1) ≤ a.length := by omega
    simp [j5, rd, lenOf, e1, e2, n6, h1, h2, ht, h3, gW, hs, dO, nK]
theorem app_w0 {l : c6} {m : Nat} (hb : b.length = m) (hm : m < 100000) : j5 cfg 3 (h ++ (⟨g, false, 3, 1, [], 0⟩ :: l)) (.own h.length g 0 0) (.vec m (j7 b)) = some (.own h.length (gW g m) 0 m, h ++ (⟨gW g m, false, 3, 1, j7 b, 0⟩ :: l)) := by
  have := app_w (h := h) (l := l) (a := []) (b := b) (g := g) (n := 0) rfl hb (by omega) hm
  rw [Nat.zero_add] at this
  exact this
theorem app_w1 {l : c6} {x : Int} {n : Nat} (ha : a.length = n) (hn : n < 100000) : j5 cfg 3 (h ++ (⟨g, false, 3, 1, j7 a, 0⟩ :: ⟨1, false, 3, 1, [.int .i64 x], 0⟩ :: l)) (.own h.length g 0 n) (.own (h.length + 1) 1 0 1) = some (.own h.length (g + 1) 0 (n + 1), h ++ (⟨g + 1, false, 3, 1, j7 (a ++ [x]), 0⟩ :: ⟨1, false, 3, 1, [.int .i64 x], 0⟩ :: l)) := by
  subst ha
  have e1 : cfg.sz 3 = 1 := rfl
  have e2 : (cfg.ti 3).bytes = 8 := rfl
  have h1 : a.length + 1 ≤ maxLen := by
    have : (200000 : Nat) ≤ maxLen := by decide
    omega
  have h2 : (a.length + 1) * 8 ≤ 140737488355328 := by omega
  have ht : List.take a.length (j7 a) = j7 a := List.take_of_length_le t181
  have hs : j7 (a ++ [x]) = j7 a ++ [.int .i64 x] := lL
  have h3 : ¬ a.length + 1 ≤ a.length := by omega
  simp [j5, rd, lenOf, e1, e2, n6, h1, h2, ht, h3, hs, s8, dO, nK]
theorem frz_I {n d : Nat} {H : c6} : p6 (jP n H (d + 1)) (j7 l) = some (j7 l) := (zS l).frz _ _ _
theorem U2 {n β len : Nat} {H : c6} (hb : H[β]? = some ⟨g, false, 3, 1, j7 a, 0⟩) (hn : n ≤ β) (hl : a.length = len) : gV n H 6 (.own β g 0 len) = some (.vec len (j7 a)) := by
  subst hl
  rw [bW, if_neg (by omega), dQ, hb]
  simp only [hn, and_self, if_true, Bool.false_eq_true, if_false, Nat.zero_add, Nat.mul_one, n6, Nat.le_refl, List.drop_zero]
  rw [List.take_of_length_le t181, frz_I]
def fI : List w4 → w4 → Int
  | [], _ => -1
  | a :: l, x => if a = x then 0 else if fI l x < 0 then -1 else fI l x + 1
theorem fI_at : ∀ {l : List w4} {x : w4} {i : Nat}, i < l.length → (∀ d, d < i → l.getD d c7 ≠ x) → l.getD i c7 = x → fI l x = i
  | [], x, i, h, _, _ => by simp at h
  | a :: l, x, 0, _, _, h => by simp only [List.getD_cons_zero] at h; rw [fI, if_pos h]; rfl
  | a :: l, x, i + 1, hi, h1, h2 => by
    have h0 := h1 0 (by omega)
    simp only [List.getD_cons_zero] at h0
    have ih := fI_at (l := l) (x := x) (i := i) (by simpa using hi) (fun d hd => by have := h1 (d + 1) (by omega); simpa using this) (by simpa using h2)
    rw [fI, if_neg h0, ih, if_neg (by omega)]
    omega
theorem TD : ∀ {l : List w4} {x : w4}, (∀ d, d < l.length → l.getD d c7 ≠ x) → fI l x = -1
  | [], x, _ => rfl
  | a :: l, x, h => by
    have h0 := h 0 (by simp)
    simp only [List.getD_cons_zero] at h0
    have ih := TD (l := l) (x := x) (fun d hd => by have := h (d + 1) (by simpa using hd); simpa using this)
    rw [fI, if_neg h0, ih, if_pos (by omega)]
theorem N6 : ∀ {l : List w4} {x : w4}, x ∈ l → 0 ≤ fI l x ∧ fI l x < l.length ∧ l.getD (fI l x).toNat c7 = x
  | [], x, h => by simp at h
  | a :: l, x, h => by
    by_cases hx : a = x
    · rw [fI, if_pos hx]; simp [hx]
    · have ih := N6 (l := l) (x := x) (by simpa [Ne.symm hx] using h)
      rw [fI, if_neg hx, if_neg (by omega)]
      refine ⟨by omega, t59, ?_⟩
      rw [show (fI l x + 1).toNat = (fI l x).toNat + 1 from by omega]
      simpa using ih.2.2
variable {x : w4}
theorem fI_not {l : List w4} (h : x ∉ l) : fI l x = -1 := TD fun d hd e => h (e ▸ l3 hd)
theorem it_ne {l : List w4} (h : ∀ d, d < i → l.getD d c7 ≠ x) (e : l.getD i c7 ≠ x) : ∀ d, d < i + 1 → l.getD d c7 ≠ x := fun d hd => by
  by_cases hdi : d = i
  · rw [hdi]; exact e
  · exact h d (by omega)
theorem it_ne1 {l : List w4} (h : ¬ (l.getD i c7).proc = x.proc) : l.getD i c7 ≠ x := fun e => h (by rw [e])
theorem it_ne2 {l : List w4} (h : ¬ (l.getD i c7).l7 = x.l7) : l.getD i c7 ≠ x := fun e => h (by rw [e])
theorem iO {l : List w4} (h : i < l.length) : List.take 1 (List.drop (i * 2) (l8 l)) = [.int .i64 (l.getD i c7).proc] := T8 S0 2 0 (fun _ => rfl) (by omega) c7 h
theorem N7 {l : List w4} (h : i < l.length) : List.take 1 (List.drop (i * 2 + 1) (l8 l)) = [.vec (l.getD i c7).l7.length (j7 (l.getD i c7).l7)] := T8 S0 2 1 (fun _ => rfl) (by omega) c7 h
theorem iP {l : List w4} (h : i < l.length) : List.take 2 (List.drop (i * 2) (l8 l)) = [.int .i64 (l.getD i c7).proc, .vec (l.getD i c7).l7.length (j7 (l.getD i c7).l7)] := read_it h
variable {u : Un} {it : w4}
theorem fV (h : it.proc.toNat < u.procs.length) : List.take 1 (List.drop (it.proc.toNat * 5 + 4) (l5 u.procs)) = [.vec (c9 u it).length (p9 (c9 u it))] := T8 sN 5 4 (fun _ => rfl) (by omega) nZ h
theorem mB {l : List Ins} (h : i < l.length) : List.take 1 (List.drop (i * 12) (p9 l)) = [.int .i64 (l.getD i g7).op] := by
  rw [show i * 12 = i * 12 + 0 from rfl, p9, T8 dW 12 0 aL (by omega) g7 h, kC]; rfl
theorem KU {l : List Ins} (h : i < l.length) : List.take 1 (List.drop (i * 12 + 1) (p9 l)) = [.int .i64 (l.getD i g7).target] := by
  rw [p9, T8 dW 12 1 aL (by omega) g7 h, kC]; rfl
theorem KV {l : List Ins} (h : i < l.length) : List.take 1 (List.drop (i * 12 + 11) (p9 l)) = [.vec (l.getD i g7).v9.length (cO (l.getD i g7).v9)] := by
  rw [p9, T8 dW 12 11 aL (by omega) g7 h, kC]; rfl
theorem KW {l : List Pl} (h : i < l.length) : List.take 3 (List.drop (i * 3) (cO l)) = [.bool (l.getD i bK).param, .int .i64 (l.getD i bK).index, .vec (l.getD i bK).at'.length (n5 (l.getD i bK).at')] := read_pl h
theorem app_lk {b0 b1 b2 b3 : Blk} {l : c6} {is : List Int} {x : Int} {n : Nat} (hn : is.length = n) (hl : n < 100000) : j5 cfg 3 (h ++ (b0 :: b1 :: b2 :: b3 :: n9 3 1 g (j7 is) :: ⟨0, false, 3, 1, [.int .i64 x], 0⟩ :: l)) (.own (h.length + 4) g 0 n) (.own (h.length + 5) 0 0 1) = some (.own (h.length + 4) (g + 1) 0 (n + 1), h ++ (b0 :: b1 :: b2 :: b3 :: n9 3 1 (g + 1) (j7 (is ++ [x])) :: ⟨0, false, 3, 1, [.int .i64 x], 0⟩ :: l)) := by
  subst hn
  rw [v7 (C := cfg) (K := 1) (m := 1) (new := [.int .i64 x]) (zs := j7 is) t29 rfl (by omega) t171 rfl (by omega) t132 rfl (by decide) (by omega), ← lL, p7]
  rfl
attribute [local go_sem] rd s4 o2 aX bZ z9 aL eT cV s3 aT aI n6 aZ Int.natCast_nonneg Int.natCast_inj List.length_map wrap64 fA iM iN K9 zF D2 L0 oR max2 eJ cG bA Nat.reduceMul lX jE hY tE iD app_w app_w0 app_w1 Nat.sub_zero Option.bind_eq_bind take_I dropt_I iO N7 iP fV mB KU KV KW app_lk aJ cB
theorem c_same (a b : List Int) (hl : a.length < 1000000) : CB 68 [.vec a.length (j7 a), .vec b.length (j7 b)] h (.bool (decide (a = b))) := by
  refine .bz Tryz.f68 26 ?_
  refine c59z ?_
  refine u2z ?_ ?_
  ·intro e1 qe1
   refine c150z ?_
   exact ⟨[], _, (List.append_nil _).symm, t44, t52⟩
  intro e1 qe1
  refine .sk ?_
  refine c5z ?_
  refine .fZ (fun m st => ∃ (i : Nat), (m = a.length - i ∧ ((∀ d, d < i → a.getD d 0 = b.getD d 0) ∧ i ≤ a.length)) ∧ st = ⟨mkS 26 [(0, AV.vec a.length (j7 a)), (1, AV.vec b.length (j7 b)), (5, AV.int .i64 ((i : Nat) : Int))], h⟩) _ (.v ⟨0, ⟨rfl, ⟨t98, by omega⟩⟩, rfl⟩) ?_
  rintro m sl h' ⟨i, ⟨hm, ⟨hI, hi⟩⟩, hst⟩
  obtain ⟨rfl, rfl⟩ := St.mk.inj hst
  refine c0z ?_
  refine u2z ?_ ?_
  ·intro e2 qe2
   refine c3z ?_
   refine .ss u4 (mkP 9 [0, 0, 3, 7, 0, 0, 48, 112, 255] []) ?_
   refine c65z ?_
   refine u2z ?_ ?_
   ·intro e3 qe3
    refine c150z ?_
    exact ⟨[], _, (List.append_nil _).symm, t44, t52⟩
   intro e3 qe3
   refine c4z ?_
   refine c212z ?_
   exact ⟨_, by omega, .v ⟨(i + 1), ⟨rfl, ⟨all_nx hI (by omega), by omega⟩⟩, rfl⟩⟩
  intro e2 qe2
  refine c178z ?_
  exact ⟨[], _, (List.append_nil _).symm, t44, t52⟩
theorem OA (l : List Int) (n : Int) (hl : l.length < 1000000) : CB 69 [.vec l.length (j7 l), .int .i64 n] h (.bool (decide (n ∈ l))) := by
  refine .bz Tryz.f69 18 ?_
  refine c21z ?_
  refine .fZ (fun m st => ∃ (i : Nat), (m = l.length - i ∧ ((∀ d, d < i → l.getD d 0 ≠ n) ∧ i ≤ l.length)) ∧ st = ⟨mkS 18 [(0, AV.vec l.length (j7 l)), (1, AV.int .i64 n), (5, AV.int .i64 ((i : Nat) : Int))], h⟩) _ (.v ⟨0, ⟨rfl, ⟨t98, by omega⟩⟩, rfl⟩) ?_
  rintro m sl h' ⟨i, ⟨hm, ⟨hI, hi⟩⟩, hst⟩
  obtain ⟨rfl, rfl⟩ := St.mk.inj hst
  refine c0z ?_
  refine u2z ?_ ?_
  ·intro e1 qe1
   refine c201z ?_
   refine u2z ?_ ?_
   ·intro e2 qe2
    refine c150z ?_
    exact ⟨[], _, (List.append_nil _).symm, t44, t100⟩
   intro e2 qe2
   refine c4z ?_
   refine c212z ?_
   exact ⟨_, by omega, .v ⟨(i + 1), ⟨rfl, ⟨no_nx hI (by omega), by omega⟩⟩, rfl⟩⟩
  intro e1 qe1
  refine c178z ?_
  exact ⟨[], _, (List.append_nil _).symm, t44, t100⟩
theorem c_hasY (hm : n ∈ l) (hl : l.length < 1000000) : CB 69 [.vec l.length (j7 l), .int .i64 n] h (.bool true) := by
  have := OA (h := h) l n hl
  rw [decide_eq_true hm] at this
  exact this
theorem c_hasN (hm : n ∉ l) (hl : l.length < 1000000) : CB 69 [.vec l.length (j7 l), .int .i64 n] h (.bool false) := by
  have := OA (h := h) l n hl
  rw [decide_eq_false hm] at this
  exact this
theorem c_withY (l : List Int) (n : Int) (hl : l.length < 100000) (hmem : n ∈ l) : CB 41 [.vec l.length (j7 l), .int .i64 n] h (.vec (iX l n).length (j7 (iX l n))) := by
  refine .bz Tryz.f41 36 ?_
  refine c12z ?_
  refine c61z ?_
  refine .ca rfl rfl (c_hasY hmem (by omega)) ?_
  refine .nil ?_
  refine .T ?_
  refine .z ?_
  exact .ret (.ex (hq := by (rw [iX, if_pos hmem])))
theorem c_withN (l : List Int) (n : Int) (hl : l.length < 100000) (hmem : n ∉ l) : CB 41 [.vec l.length (j7 l), .int .i64 n] h (.vec (iX l n).length (j7 (iX l n))) := by
  refine .bz Tryz.f41 36 ?_
  refine c12z ?_
  refine c61z ?_
  refine .ca rfl rfl (c_hasN hmem (by omega)) ?_
  refine .nil ?_
  refine c141z ?_
  refine .sb ?_
  refine .fZ (fun m st => ∃ (i : Nat), (m = l.length - i ∧ ((∀ d, d < i → l.getD d 0 < n) ∧ i ≤ l.length)) ∧ st = ⟨mkS 36 [(0, AV.vec l.length (j7 l)), (1, AV.int .i64 n), (5, AV.int .i64 ((i : Nat) : Int))], h⟩) _ (.v ⟨0, ⟨rfl, ⟨t98, by omega⟩⟩, rfl⟩) ?_
  rintro m sl h' ⟨i, ⟨hm, ⟨hI, hi⟩⟩, hst⟩
  obtain ⟨rfl, rfl⟩ := St.mk.inj hst
  refine .seq ?_
  refine c26z ?_
  refine .spl 14 rfl rfl (fun e1 => ?_) (fun e1 => ?_)
  ·try simp only [e1]
   have qe1 := fact e1
   refine .m [(4, 14)] ?_
   refine u2z ?_ ?_
   ·intro e2 qe2
    refine .sk ?_
    refine .block ?_
    refine c212z ?_
    exact ⟨_, by omega, .v ⟨(i + 1), ⟨rfl, ⟨lt_nx hI (by omega), by omega⟩⟩, rfl⟩⟩
   intro e2 qe2
   refine .exit ?_
   have hkw : i = kW l n := kW_at hi hI (by intro _; omega)
   have hdl : (l.drop i).length = l.length - i := List.length_drop
   have htl : (l.take i).length = i := by rw [List.length_take]; omega
   have hcl : (l.take i ++ [n]).length = i + 1 := by rw [List.length_append, htl]; rfl
   change g5 ..
   refine .c8 [0, 1, 5] ?_
   refine .sg u4 (mkH 13 [0, 0, 0, 6, 15, 0, 32, 127, 0, 0, 768, 2047, 4095] [0, 4, 6, 7, 11] [(0, 0), (6, 1)] [0, 1, 17, 64, 65, 81, 209, 2257] [0, 1, 2, 3, 4]) 2 ?_
   refine .em [true] [1, 0] [_] ?_
   refine .p 3 ?_
   refine .em [true, false] [17, 1, 0] [_] ?_
   refine .p 1 ?_
   refine .en [true, true, true] [81, 65, 64, 17, 1, 0] [_, _, _] ?_
   refine .en [true, false, false, false, false, false] [209, 81, 65, 64, 17, 1, 0] [_] ?_
   refine .p 3 ?_
   refine .en [true, false, false, false, false, false, false] [2257, 209, 81, 65, 64, 17, 1, 0] [_] ?_
   refine .p 1 ?_
   refine c64z ?_
   refine u9.nil rfl ?_
   refine c2z ?_
   exact ⟨_, _, rfl, U2 t179 (Nat.le_refl _) t106, t144⟩
  try simp only [e1]
  have qe1 := fact e1
  refine .m [(4, 14)] ?_
  refine c208z ?_
  have hkw : i = kW l n := kW_at hi hI (by intro _; omega)
  have hdl : (l.drop i).length = l.length - i := List.length_drop
  have htl : (l.take i).length = i := by rw [List.length_take]; omega
  have hcl : (l.take i ++ [n]).length = i + 1 := by rw [List.length_append, htl]; rfl
  change g5 ..
  refine .c8 [0, 1, 5] ?_
  refine .sg u4 (mkH 13 [0, 0, 0, 6, 15, 0, 32, 127, 0, 0, 768, 2047, 4095] [0, 4, 6, 7, 11] [(0, 0), (6, 1)] [0, 1, 17, 64, 65, 81, 209, 2257] [0, 1, 2, 3, 4]) 2 ?_
  refine .em [true] [1, 0] [_] ?_
  refine .p 3 ?_
  refine .em [true, false] [17, 1, 0] [_] ?_
  refine .p 1 ?_
  refine .en [true, true, true] [81, 65, 64, 17, 1, 0] [_, _, _] ?_
  refine .en [true, false, false, false, false, false] [209, 81, 65, 64, 17, 1, 0] [_] ?_
  refine .p 3 ?_
  refine .en [true, false, false, false, false, false, false] [2257, 209, 81, 65, 64, 17, 1, 0] [_] ?_
  refine .p 1 ?_
  refine c64z ?_
  refine u9.nil rfl ?_
  refine c2z ?_
  exact ⟨_, _, rfl, U2 t179 (Nat.le_refl _) t106, t144⟩
theorem DH (l : List Int) (n : Int) (hl : l.length < 100000) : CB 41 [.vec l.length (j7 l), .int .i64 n] h (.vec (iX l n).length (j7 (iX l n))) := by
  by_cases hm : n ∈ l
  · exact c_withY l n hl hm
  · exact c_withN l n hl hm
theorem DI (it : w4) (p : Pl) (hp : p.param = true → 0 ≤ p.index ∧ p.index.toNat < it.l7.length) : CB 33 [.agg [.int .i64 it.proc, .vec it.l7.length (j7 it.l7)], .agg [.bool p.param, .int .i64 p.index, .vec p.at'.length (n5 p.at')]] h (.int .i64 (uJ it p)) := by
  refine .bz Tryz.f33 15 ?_
  refine c59z ?_
  refine u2z ?_ ?_
  ·intro e1 qe1
   have hpp := hp (by assumption)
   refine .z ?_
   exact .ret (.ex (hq := by (unfold uJ; simp_all)))
  intro e1 qe1
  refine .sk ?_
  refine .z ?_
  exact .ret (.ex (hq := by (unfold uJ; simp_all)))
theorem u0 (hu : WU u) (w : WIt u it) : (c9 u it).length ≤ 1664 := by
  have := (sT hu (l := [it]) (by simp) (by simpa using w)).2
  simpa using this
variable {pc : Nat}
theorem DJ (hu : WU u) (w : WIt u it) (hpc : pc < (c9 u it).length) (hc : iA ((c9 u it).getD pc g7)) : ∀ p ∈ ((c9 u it).getD pc g7).v9, p.param = true → 0 ≤ p.index ∧ p.index.toNat < it.l7.length := by
  obtain ⟨_, _, _, hh⟩ := (lF hu w).2.2 pc hpc
  intro p hp hpar
  obtain ⟨h0, ⟨_, h2⟩ | ⟨h1, _⟩⟩ := (hh hc).2.2 p hp
  · refine ⟨h0, ?_⟩
    rw [w.len]
    simp only at h2
    omega
  · rw [hpar] at h1; cases h1
theorem U3 (hu : WU u) (w : WIt u it) (hpc : pc < (c9 u it).length) (hc : iA ((c9 u it).getD pc g7)) : ((c9 u it).getD pc g7).v9.length ≤ 2 := by
  have h1 := uK hu w hpc hc
  have h2 := h1.len
  have h3 := hu.l7 (dE u it pc).proc.toNat (by have := h1.lo; have := h1.hi; omega)
  simp only [dE, List.length_map] at h2 h3
  omega
theorem DK (hu : WU u) (w : WIt u it) (hpc : pc < (c9 u it).length) (hc : ¬ iA ((c9 u it).getD pc g7)) : CB 39 [.agg [.vec u.globals.length (j7 u.globals), .vec u.c4.length (g9 u.c4), .vec u.procs.length (l5 u.procs), .int .i64 u.main], .agg [.int .i64 it.proc, .vec it.l7.length (j7 it.l7)], .int .i64 ((pc : Nat) : Int)] h (.tup [.agg [.int .i64 0, .vec 0 []], .bool false]) := by
  refine .bz Tryz.f39 75 ?_
  have w1 := w.lo
  have w2 := w.hi
  have hsz : (c9 u it).length ≤ 1664 := u0 hu w
  refine c126z ?_
  refine .c8 [2, 4, 6, 8] ?_
  refine c20z ?_
  refine .spl 20 rfl rfl (fun e1 => by exfalso; have q := fact e1; omega) (fun e1 => ?_)
  try simp only [e1]
  have qe1 := fact e1
  refine .k 6 [(2, 20)] ?_
  refine .spl 26 rfl rfl (fun e2 => by exfalso; have q := fact e2; omega) (fun e2 => ?_)
  try simp only [e2]
  have qe2 := fact e2
  refine .k 7 [(8, 26)] ?_
  refine .spl 33 rfl rfl (fun e3 => ?_) (fun e3 => by exfalso; have q := fact e3; exact hc (.inl (by omega)))
  try simp only [e3]
  have qe3 := fact e3
  refine .m [(8, 26), (15, 33)] ?_
  refine .spl 41 rfl rfl (fun e4 => ?_) (fun e4 => by exfalso; have q := fact e4; exact hc (.inr (by omega)))
  try simp only [e4]
  have qe4 := fact e4
  refine .T ?_
  refine .c8 [6] ?_
  refine .z ?_
  exact .ret (.ex (hq := by rfl))
theorem DL (hu : WU u) (w : WIt u it) (hpc : pc < (c9 u it).length) (hc : iA ((c9 u it).getD pc g7)) : CB 39 [.agg [.vec u.globals.length (j7 u.globals), .vec u.c4.length (g9 u.c4), .vec u.procs.length (l5 u.procs), .int .i64 u.main], .agg [.int .i64 it.proc, .vec it.l7.length (j7 it.l7)], .int .i64 ((pc : Nat) : Int)] h (.tup [.agg [.int .i64 (dE u it pc).proc, .vec (dE u it pc).l7.length (j7 (dE u it pc).l7)], .bool true]) := by
  refine .bz Tryz.f39 75 ?_
  have w1 := w.lo
  have w2 := w.hi
  have hsz : (c9 u it).length ≤ 1664 := u0 hu w
  have hpl := DJ hu w hpc hc
  have hpn := U3 hu w hpc hc
  refine c126z ?_
  refine .c8 [2, 4, 6, 8] ?_
  refine c20z ?_
  refine .spl 20 rfl rfl (fun e1 => by exfalso; have q := fact e1; omega) (fun e1 => ?_)
  try simp only [e1]
  have qe1 := fact e1
  refine .k 6 [(2, 20)] ?_
  refine .spl 26 rfl rfl (fun e2 => by exfalso; have q := fact e2; omega) (fun e2 => ?_)
  try simp only [e2]
  have qe2 := fact e2
  refine .k 7 [(8, 26)] ?_
  refine .spl 33 rfl rfl (fun e3 => ?_) (fun e3 => ?_)
  ·try simp only [e3]
   have qe3 := fact e3
   refine .m [(8, 26), (15, 33)] ?_
   refine .spl 41 rfl rfl (fun e4 => by exfalso; have q := fact e4; rcases hc with hc | hc <;> omega) (fun e4 => ?_)
   try simp only [e4]
   have qe4 := fact e4
   refine c18z ?_
   refine .c8 [2, 4, 6, 8] ?_
   refine c21z ?_
   refine g5.lE (β := h.length + 3) (k := 1) t29 rfl ?_
   simp only [List.append_assoc, List.cons_append, List.nil_append, s8, p7, List.set_cons_succ, List.set_cons_zero, List.length_append, List.length_cons, List.length_nil, Nat.reduceAdd, Nat.zero_add]
   refine .aG (fun m st => ∃ (q : Nat), (m = ((c9 u it).getD pc g7).v9.length - q ∧ q ≤ ((c9 u it).getD pc g7).v9.length) ∧ st = ⟨mkS 75 [(2, AV.int .i64 ((pc : Nat) : Int)), (4, AV.ptr (h.length + 1) 0 0), (6, AV.ptr (h.length + 2) 0 0), (8, AV.vec (c9 u it).length (p9 (c9 u it))), (9, AV.ptr (h.length + 3) 0 0), (10, AV.int .i64 ((q : Nat) : Int))], h ++ [⟨0, false, 30, 4, [.vec u.globals.length (j7 u.globals), .vec u.c4.length (g9 u.c4), .vec u.procs.length (l5 u.procs), .int .i64 u.main], 0⟩, ⟨0, false, 67, 2, [.int .i64 it.proc, .vec it.l7.length (j7 it.l7)], 0⟩, ⟨0, false, 67, 2, [.int .i64 0, .j9], 0⟩, ⟨0, false, 67, 2, [.int .i64 ((c9 u it).getD pc g7).target, .own (h.length + 4) q 0 q], 0⟩, n9 3 1 q (j7 ((((c9 u it).getD pc g7).v9.take q).map (uJ it)))]⟩) (.v ⟨0, ⟨rfl, by omega⟩, rfl⟩) ?_
   rintro m sl h' ⟨q, ⟨hm, hq⟩, hst⟩
   obtain ⟨rfl, rfl⟩ := St.mk.inj hst; clear hst
   have htl : ((((c9 u it).getD pc g7).v9.take q).map (uJ it)).length = q := by rw [List.length_map, List.length_take]; omega
   refine c0z ?_
   refine u2z ?_ ?_
   ·intro e5 qe5
    refine c3z ?_
    refine .c8 [2, 4, 6, 8, 9, 10] ?_
    refine .og u4 (mkH 16 [0, 1, 0, 0, 0, 24, 56, 120, 0, 504, 1016, 2044, 4092, 8191, 16383, 32767] [12, 13, 15] [] [0, 4096, 12288, 45056] [0, 1]) 0 ?_
    refine c33z ?_
    refine .rn [true] ?_
    refine c168z ?_
    refine c76z ?_
    refine .cl rfl rfl (fun _ => DI it (((c9 u it).getD pc g7).v9.getD q bK) (hpl _ (l3 (d := bK) (i := q) (by omega)))) ?_
    refine .en [true] [4096, 0] [_] ?_
    refine .en [true, false] [12288, 4096, 0] [_] ?_
    refine .p 1 ?_
    refine .en [true, false, false] [45056, 12288, 4096, 0] [_] ?_
    refine c128z ?_
    refine .c8 [2, 4, 6, 8, 9, 10, 67] ?_
    refine .rz ?_
    exact ⟨_, by omega, .v ⟨(q + 1), ⟨rfl, by omega⟩, rfl⟩ (he := t119) (hk := t120)⟩
   intro e5 qe5
   refine .exit ?_
   obtain rfl : q = ((c9 u it).getD pc g7).v9.length := by omega
   rw [List.take_length] at htl ⊢
   refine g5.nX (γ := h.length + 4) (β := h.length + 3) (k := 1) (len := ((c9 u it).getD pc g7).v9.length) t29 (by rw [n6, htl, Nat.mul_one]) (by omega) (zS _) t29 (by omega) rfl ?_
   refine c19z ?_
   refine .c8 [6, 9] ?_
   refine .z ?_
   exact .ret (.ex (hq := by (simp only [dE, List.length_map])))
  try simp only [e3]
  have qe3 := fact e3
  refine .m [(8, 26), (15, 33)] ?_
  refine c18z ?_
  refine .c8 [2, 4, 6, 8] ?_
  refine c21z ?_
  refine g5.lE (β := h.length + 3) (k := 1) t29 rfl ?_
  simp only [List.append_assoc, List.cons_append, List.nil_append, s8, p7, List.set_cons_succ, List.set_cons_zero, List.length_append, List.length_cons, List.length_nil, Nat.reduceAdd, Nat.zero_add]
  refine .aG (fun m st => ∃ (q : Nat), (m = ((c9 u it).getD pc g7).v9.length - q ∧ q ≤ ((c9 u it).getD pc g7).v9.length) ∧ st = ⟨mkS 75 [(2, AV.int .i64 ((pc : Nat) : Int)), (4, AV.ptr (h.length + 1) 0 0), (6, AV.ptr (h.length + 2) 0 0), (8, AV.vec (c9 u it).length (p9 (c9 u it))), (9, AV.ptr (h.length + 3) 0 0), (10, AV.int .i64 ((q : Nat) : Int))], h ++ [⟨0, false, 30, 4, [.vec u.globals.length (j7 u.globals), .vec u.c4.length (g9 u.c4), .vec u.procs.length (l5 u.procs), .int .i64 u.main], 0⟩, ⟨0, false, 67, 2, [.int .i64 it.proc, .vec it.l7.length (j7 it.l7)], 0⟩, ⟨0, false, 67, 2, [.int .i64 0, .j9], 0⟩, ⟨0, false, 67, 2, [.int .i64 ((c9 u it).getD pc g7).target, .own (h.length + 4) q 0 q], 0⟩, n9 3 1 q (j7 ((((c9 u it).getD pc g7).v9.take q).map (uJ it)))]⟩) (.v ⟨0, ⟨rfl, by omega⟩, rfl⟩) ?_
  rintro m sl h' ⟨q, ⟨hm, hq⟩, hst⟩
  obtain ⟨rfl, rfl⟩ := St.mk.inj hst; clear hst
  have htl : ((((c9 u it).getD pc g7).v9.take q).map (uJ it)).length = q := by rw [List.length_map, List.length_take]; omega
  refine c0z ?_
  refine u2z ?_ ?_
  ·intro e6 qe6
   refine c3z ?_
   refine .c8 [2, 4, 6, 8, 9, 10] ?_
   refine .og u4 (mkH 16 [0, 1, 0, 0, 0, 24, 56, 120, 0, 504, 1016, 2044, 4092, 8191, 16383, 32767] [12, 13, 15] [] [0, 4096, 12288, 45056] [0, 1]) 0 ?_
   refine c33z ?_
   refine .rn [true] ?_
   refine c168z ?_
   refine c76z ?_
   refine .cl rfl rfl (fun _ => DI it (((c9 u it).getD pc g7).v9.getD q bK) (hpl _ (l3 (d := bK) (i := q) (by omega)))) ?_
   refine .en [true] [4096, 0] [_] ?_
   refine .en [true, false] [12288, 4096, 0] [_] ?_
   refine .p 1 ?_
   refine .en [true, false, false] [45056, 12288, 4096, 0] [_] ?_
   refine c128z ?_
   refine .c8 [2, 4, 6, 8, 9, 10, 67] ?_
   refine .rz ?_
   exact ⟨_, by omega, .v ⟨(q + 1), ⟨rfl, by omega⟩, rfl⟩ (he := t119) (hk := t120)⟩
  intro e6 qe6
  refine .exit ?_
  obtain rfl : q = ((c9 u it).getD pc g7).v9.length := by omega
  rw [List.take_length] at htl ⊢
  refine g5.nX (γ := h.length + 4) (β := h.length + 3) (k := 1) (len := ((c9 u it).getD pc g7).v9.length) t29 (by rw [n6, htl, Nat.mul_one]) (by omega) (zS _) t29 (by omega) rfl ?_
  refine c19z ?_
  refine .c8 [6, 9] ?_
  refine .z ?_
  exact .ret (.ex (hq := by (simp only [dE, List.length_map])))
theorem c_findI (l : List w4) (x : w4) {n2 n3 : Nat} {z2 z3 : List AV} (hl : l.length < 1000000) (hk : ∀ y ∈ l, y.l7.length < 1000000) : CB 40 [.agg [.vec l.length (l8 l), .vec n2 z2, .vec n3 z3], .agg [.int .i64 x.proc, .vec x.l7.length (j7 x.l7)]] h (.int .i64 (fI l x)) := by
  refine .bz Tryz.f40 34 ?_
  refine c21z ?_
  refine .fZ (fun m st => ∃ (i : Nat), (m = l.length - i ∧ ((∀ d, d < i → l.getD d c7 ≠ x) ∧ i ≤ l.length)) ∧ st = ⟨mkS 34 [(2, AV.ptr h.length 0 0), (3, AV.ptr (h.length + 1) 0 0), (5, AV.int .i64 ((i : Nat) : Int))], h ++ [⟨0, false, 34, 3, [.vec l.length (l8 l), .vec n2 z2, .vec n3 z3], 0⟩, ⟨0, false, 67, 2, [.int .i64 x.proc, .vec x.l7.length (j7 x.l7)], 0⟩]⟩) _ (.v ⟨0, ⟨rfl, ⟨t98, by omega⟩⟩, rfl⟩) ?_
  rintro m sl h' ⟨i, ⟨hm, ⟨hI, hi⟩⟩, hst⟩
  obtain ⟨rfl, rfl⟩ := St.mk.inj hst
  refine c0z ?_
  refine u2z ?_ ?_
  ·intro e1 qe1
   refine c3z ?_
   refine .ss u4 (mkP 20 [0, 1, 0, 7, 15, 31, 0, 64, 255, 511, 1023, 2047, 1023, 8191, 16383, 32767, 1023, 66559, 262143, 524287] []) ?_
   refine .k 8 [] ?_
   refine .k 2 [] ?_
   refine .spl 22 rfl rfl (fun e2 => ?_) (fun e2 => ?_)
   ·try simp only [e2]
    have qe2 := fact e2
    refine .k 8 [(9, 22)] ?_
    refine .ca rfl rfl (c_same _ _ (hk _ (l3 (by omega)))) ?_
    refine .n [] ?_
    refine u2z ?_ ?_
    ·intro e3 qe3
     refine .c8 [5] ?_
     refine .z ?_
     exact .ret (.ex (hq := t108))
    intro e3 qe3
    refine c4z ?_
    refine .c8 [2, 3, 5] ?_
    refine .rz ?_
    exact ⟨_, by omega, .v ⟨(i + 1), ⟨rfl, ⟨it_ne hI t188, by omega⟩⟩, rfl⟩⟩
   try simp only [e2]
   have qe2 := fact e2
   refine .k 8 [(9, 22)] ?_
   refine .n [(9, 22)] ?_
   refine c54z ?_
   refine .c8 [2, 3, 5] ?_
   refine .rz ?_
   exact ⟨_, by omega, .v ⟨(i + 1), ⟨rfl, ⟨it_ne hI t188, by omega⟩⟩, rfl⟩⟩
  intro e1 qe1
  refine c8z ?_
  refine c14z ?_
  exact .ret (.ex (hq := t108))
end Go.Proofs.YtapdldekgbbomaaGreat
end
section
namespace Go.Proofs.YtapdldekgbbomaaGreat
open Go.Ab Go.Un
theorem o1.cx {P : Program} {C : Cfg} {h : c6} {ops : Array Oper} {o : Oper} {rest : List Oper} {Q : St → Prop} {n d : Nat} {l : List (Nat × AV)} {c : Call} {f : FuncId} {args : List AV} {K : AV → c6 → Prop} (ho : o.op = .call c) (ht : u6 C (R6 C n l) c = some (f, args)) (hb : o6 C f = true)
    (hc : CallA P C f args h K) (hk : ∀ y h', K y h' → o1 P C ops rest ⟨mkS n ((d, y) :: l), h'⟩ Q) (hw : wF ops n l o = some true := by rfl) (hd : o.dst = some d := by rfl) : o1 P C ops (o :: rest) ⟨mkS n l, h⟩ Q :=
  o1.call (qU ▸ hw) ho (pA ▸ ht) hb (hc.mono fun y h' hq => by rw [hd]; show o1 P C ops rest ⟨(mkS n l).set d y, h'⟩ Q; rw [cY]; exact hk y h' hq)
def oM (u : Un) (L : List w4) (it : w4) (cs : List Int) (n : Nat) : Prop := ∀ j, j < n →
  (iA ((c9 u it).getD j g7) → 0 ≤ cs.getD j 0 ∧ cs.getD j 0 < L.length ∧ L.getD (cs.getD j 0).toNat c7 = dE u it j) ∧ (¬ iA ((c9 u it).getD j g7) → cs.getD j 0 = -1)
structure LI (u : Un) (L : List w4) : Prop where
  w : ∀ it ∈ L, WIt u it
  nd : L.Nodup
  z : 0 < L.length ∧ L.getD 0 c7 = ⟨0, []⟩
structure RI (L : List w4) (R : List Int) : Prop where
  p : 1 ≤ R.length
  r : ∀ x ∈ R, 0 ≤ x ∧ x < L.length
  s : R.Pairwise (· < ·)
def PI (u : Un) (L : List w4) (CS : List (List Int)) (i : Nat) : Prop := ∀ j, j < i → (CS.getD j []).length = (c9 u (L.getD j c7)).length ∧ oM u L (L.getD j c7) (CS.getD j []) (c9 u (L.getD j c7)).length
def jG (u : Un) (L : List w4) (i : Nat) : Nat := ((L.take i).map fun it => (c9 u it).length).sum
variable {i : Nat}
theorem mC {α : Type} {l m : List α} {d : α} (h : i < l.length) : (l ++ m).getD i d = l.getD i d := by
  simp [List.getD, List.getElem?_append_left h]
variable {u : Un} {L M : List w4} {it : w4} {n : Nat}
theorem oM.app {cs : List Int} (h : oM u L it cs n) : oM u (L ++ M) it cs n := fun j hj => by
  obtain ⟨h1, h2⟩ := h j hj
  refine ⟨fun hc => ?_, h2⟩
  obtain ⟨q1, q2, q3⟩ := h1 hc
  exact ⟨q1, by rw [List.length_append]; omega, by rw [mC (by omega), q3]⟩
theorem oM.set {cs : List Int} {x : Int} (h : oM u L it cs n) (hn : n < cs.length) (hx : (iA ((c9 u it).getD n g7) → 0 ≤ x ∧ x < L.length ∧ L.getD x.toNat c7 = dE u it n) ∧ (¬ iA ((c9 u it).getD n g7) → x = -1)) : oM u L it (cs.set n x) (n + 1) := fun j hj => by
  by_cases hjn : j = n
  · subst hjn
    have : (cs.set j x).getD j 0 = x := by simp [List.getD, hn]
    rw [this]; exact hx
  · have : (cs.set n x).getD j 0 = cs.getD j 0 := by simp [List.getD, List.getElem?_set_ne (Ne.symm hjn)]
    rw [this]; exact h j (by omega)
variable {x : w4}
theorem LI.snoc (h : LI u L) (hx : WIt u x) (hn : x ∉ L) : LI u (L ++ [x]) := by
  refine ⟨fun it hit => ?_, ?_, by simp, ?_⟩
  · rcases List.mem_append.1 hit with hit | hit
    · exact h.w it hit
    · replace hit := s6z hit
      subst hit; exact hx
  · rw [List.nodup_append]
    exact ⟨h.nd, by simp, fun a ha b hb => by replace hb := s6z hb; subst hb; exact fun e => hn (e ▸ ha)⟩
  · rw [mC h.z.1]; exact h.z.2
theorem LI.few (hu : WU u) (h : LI u L) : L.length ≤ 64 := (sT hu h.nd h.w).1
theorem LI.sites (hu : WU u) (h : LI u L) (i : Nat) : jG u L i ≤ 1664 := by
  have h1 := (sT hu (l := L.take i) (h.nd.sublist (List.take_sublist _ _)) (fun it hit => h.w it (List.mem_of_mem_take hit))).2
  exact h1
theorem LI.l7 (hu : WU u) (h : LI u L) : ∀ y ∈ L, y.l7.length ≤ 2 := fun y hy => by
  have w := h.w y hy
  have h1 := w.len
  have h3 := hu.l7 y.proc.toNat (by have := w.lo; have := w.hi; omega)
  omega
variable {R : List Int}
theorem RI.app (h : RI L R) : RI (L ++ M) R := ⟨h.p, fun x hx => by have := h.r x hx; rw [List.length_append]; omega, h.s⟩
variable {l : List Int}
theorem DM {n x : Int} : x ∈ iX l n ↔ x ∈ l ∨ x = n := by
  unfold iX
  split
  · rename_i h
    constructor
    · exact .inl
    · rintro (h1 | rfl)
      · exact h1
      · exact h
  · rw [List.mem_append, List.mem_cons]
    constructor
    · rintro (h | h | h)
      · exact .inl (List.mem_of_mem_take h)
      · exact .inr h
      · exact .inl (List.mem_of_mem_drop h)
    · rintro (h | h)
      · rw [← List.take_append_drop (kW l n) l, List.mem_append] at h
        rcases h with h | h
        · exact .inl h
        · exact .inr (.inr h)
      · exact .inr (.inl h)
theorem take_kW {n : Int} : l.take (kW l n) = l.takeWhile fun x => decide (x < n) := by
  conv => lhs; rw [← List.takeWhile_append_dropWhile (p := fun x => decide (x < n)) (l := l)]
  rw [List.take_append_of_le_length (by simp [kW])]
  exact List.take_of_length_le (by simp [kW])
theorem drop_kW {n : Int} : l.drop (kW l n) = l.dropWhile fun x => decide (x < n) := by
  conv => lhs; rw [← List.takeWhile_append_dropWhile (p := fun x => decide (x < n)) (l := l)]
  rw [List.drop_append_of_le_length (by simp [kW])]
  rw [List.drop_of_length_le (by simp [kW]), List.nil_append]
theorem qC : ∀ {l : List Int} {n : Int}, l.Pairwise (· < ·) → n ∉ l → (l.takeWhile (fun x => decide (x < n)) ++ n :: l.dropWhile (fun x => decide (x < n))).Pairwise (· < ·)
  | [], n, _, _ => by simp
  | x :: l, n, h, hn => by
    rw [List.pairwise_cons] at h
    by_cases hx : x < n
    · have ih := qC (l := l) (n := n) h.2 (fun hm => hn (List.mem_cons_of_mem _ hm))
      rw [List.takeWhile_cons_of_pos t184, List.dropWhile_cons_of_pos t184, List.cons_append, List.pairwise_cons]
      refine ⟨fun y hy => ?_, ih⟩
      rcases List.mem_append.1 hy with hy | hy
      · exact h.1 y ((List.takeWhile_sublist _).subset hy)
      · rcases List.mem_cons.1 hy with rfl | hy
        · exact hx
        · exact h.1 y ((List.dropWhile_sublist _).subset hy)
    · have hne : n ≠ x := fun e => hn (by rw [e]; simp)
      rw [List.takeWhile_cons_of_neg t184, List.dropWhile_cons_of_neg t184, List.nil_append, List.pairwise_cons]
      refine ⟨fun y hy => ?_, List.pairwise_cons.2 h⟩
      rcases List.mem_cons.1 hy with rfl | hy
      · omega
      · have := h.1 y hy; omega
theorem RI.with (h : RI L R) {n : Int} (hn : 0 ≤ n ∧ n < L.length) : RI L (iX R n) := by
  refine ⟨?_, fun x hx => ?_, ?_⟩
  · unfold iX
    split
    · exact h.p
    · simp only [List.length_append, List.length_cons]; omega
  · rcases DM.1 hx with hx | rfl
    · exact h.r x hx
    · exact hn
  · unfold iX
    split
    · exact h.s
    · rename_i hm
      rw [take_kW, drop_kW]
      exact qC h.s hm
theorem uT : ∀ {R : List Int} {a b : Int}, R.Pairwise (· < ·) → (∀ x ∈ R, a ≤ x ∧ x < b) → R.length ≤ (b - a).toNat
  | [], a, b, _, _ => by simp
  | x :: R, a, b, h, hr => by
    rw [List.pairwise_cons] at h
    have h0 := hr x (by simp)
    have ih := uT (R := R) (a := x + 1) (b := b) h.2 (fun y hy => ⟨by have := h.1 y hy; omega, (hr y (by simp [hy])).2⟩)
    simp only [List.length_cons]
    omega
theorem RI.len (hu : WU u) (hl : LI u L) (h : RI L R) : R.length ≤ 64 := by
  have h1 := uT h.s (a := 0) (b := (L.length : Int)) h.r
  have h2 := hl.few hu
  omega
theorem U4 (h : i < L.length) : jG u L (i + 1) = jG u L i + (c9 u (L.getD i c7)).length := by
  unfold jG
  rw [taken (d := c7) h]
  simp
variable {CS : List (List Int)}
theorem PI.step {v : List Int} (h : PI u L CS i) (hc : CS.length = i) (hi : i < L.length) (hv : v.length = (c9 u (L.getD i c7)).length) (hok : oM u (L ++ M) (L.getD i c7) v (c9 u (L.getD i c7)).length) : PI u (L ++ M) (CS ++ [v]) (i + 1) := fun j hj => by
  by_cases hji : j = i
  · subst hji
    have e1 : (CS ++ [v]).getD j [] = v := by subst hc; simp [List.getD]
    rw [e1, mC hi]
    exact ⟨hv, hok⟩
  · have e1 : (CS ++ [v]).getD j [] = CS.getD j [] := mC (by omega)
    obtain ⟨h1, h2⟩ := h j (by omega)
    rw [e1, mC (by omega)]
    exact ⟨h1, h2.app⟩
theorem F0 {l : List (List Int)} {x : List Int} : n4 (l ++ [x]) = n4 l ++ [.vec x.length (j7 x)] := by simp [n4]
theorem F1 {l : List w4} : l8 (l ++ [x]) = l8 l ++ [.int .i64 x.proc, .vec x.l7.length (j7 x.l7)] := by simp [l8, S0]
theorem KX (l : List (List Int)) : z6 (n4 l) := z6.map fun _ => .vec
theorem KY (l : List w4) : z6 (l8 l) := z6.flat fun _ => z6.cons .int (z6.cons .vec .nil)
variable {h : c6} {g : Nat}
theorem app_its {b0 b1 b3 b4 b5 b6 b7 : Blk} {l : c6} (hz : L.length = n) (hn : n < 1000) : j5 cfg 67 (h ++ (b0 :: b1 :: ⟨g, false, 67, 2, l8 L, 0⟩ :: b3 :: b4 :: b5 :: b6 :: b7 :: ⟨0, false, 67, 2, [.int .i64 x.proc, .vec x.l7.length (j7 x.l7)], 0⟩ :: l)) (.own (h.length + 2) g 0 n) (.own (h.length + 8) 0 0 1) = some (.own (h.length + 2) (g + 1) 0 (n + 1), h ++ (b0 :: b1 :: ⟨g + 1, false, 67, 2, l8 (L ++ [x]), 0⟩ :: b3 :: b4 :: b5 :: b6 :: b7 :: ⟨0, false, 67, 2, [.int .i64 x.proc, .vec x.l7.length (j7 x.l7)], 0⟩ :: l)) := by
  subst hz
  have e1 : cfg.sz 67 = 2 := rfl
  have e2 : (cfg.ti 67).bytes = 32 := rfl
  have hm : L.length + 1 ≤ maxLen := by
    have : (1001 : Nat) ≤ maxLen := by decide
    omega
  have hb : (L.length + 1) * 32 ≤ 140737488355328 := by omega
  have h1 : (l8 L).length = L.length * 2 := by rw [aJ]; omega
  have ht : List.take (L.length * 2) (l8 L) = l8 L := List.take_of_length_le (by omega)
  have hnl : ¬ (L.length + 1) * 2 ≤ L.length * 2 := by omega
  simp [j5, rd, lenOf, e1, e2, h1, hm, hb, ht, hnl, s8, p7, F1]
theorem app_cs {b0 b1 b2 b3 b4 b6 : Blk} {l : c6} {x : List Int} {m : Nat} (hn : CS.length = n) (hx : x.length = m) (hl : n < 100000) : j5 cfg 22 (h ++ (b0 :: b1 :: b2 :: b3 :: b4 :: n9 22 1 g (n4 CS) :: b6 :: ⟨0, false, 22, 1, [.vec m (j7 x)], 0⟩ :: l)) (.own (h.length + 5) g 0 n) (.own (h.length + 7) 0 0 1) = some (.own (h.length + 5) (g + 1) 0 (n + 1), h ++ (b0 :: b1 :: b2 :: b3 :: b4 :: n9 22 1 (g + 1) (n4 (CS ++ [x])) :: b6 :: ⟨0, false, 22, 1, [.vec m (j7 x)], 0⟩ :: l)) := by
  subst hn hx
  rw [v7 (C := cfg) (K := 1) (m := 1) (new := [.vec x.length (j7 x)]) (zs := n4 CS) t29 rfl (by omega) (by simp [n4]) rfl (by omega) t132 rfl (by decide) (by omega), ← F0, p7]
  rfl
theorem DN : ∀ {v : List Int} {i : Nat} {x : Int}, i < v.length → List.take i (j7 v) ++ AV.int .i64 x :: List.drop (i + 1) (j7 v) = j7 (v.set i x)
  | y :: v, 0, x, _ => rfl
  | y :: v, i + 1, x, h => by
    have ih := DN (v := v) (i := i) (x := x) (by simpa using h)
    simp only [j7, List.map_cons, List.set_cons_succ, List.take_succ_cons, List.drop_succ_cons, List.cons_append] at ih ⊢
    rw [ih]
theorem zeros_I : (List.replicate n [AV.int .i64 0]).flatten = j7 (List.replicate n 0) := by
  induction n with
  | zero => rfl
  | succ n ih => rw [List.replicate_succ, List.flatten_cons, ih]; simp [j7, List.replicate_succ]
theorem frz_its {d : Nat} {H : c6} {l : List w4} : p6 (jP n H (d + 1)) (l8 l) = some (l8 l) := (KY l).frz _ _ _
theorem F2 {H : c6} {β γ n1 n2 n3 : Nat} {z3 : List AV} (hb : H[β]? = some ⟨g, false, 67, 2, l8 L, 0⟩) (hc : H[γ]? = some (n9 22 1 i (n4 CS))) (h1 : L.length = n1) (h2 : CS.length = n2) (hl : L.length < 1000000) (hk : ∀ y ∈ L, y.l7.length < 1000000) : CB 40 [.agg [.own β g 0 n1, .own γ i 0 n2, .vec n3 z3], .agg [.int .i64 x.proc, .vec x.l7.length (j7 x.l7)]] H (.int .i64 (fI L x)) := by
  subst h1 h2
  have e1 : jP 0 H 6 (.own β g 0 L.length) = some (.vec L.length (l8 L)) := by
    rw [dQ, hb]
    simp only [Nat.zero_le, and_self, if_true, Bool.false_eq_true, if_false, Nat.zero_add]
    rw [if_pos (by rw [aJ]; omega), List.drop_zero, List.take_of_length_le (by rw [aJ]; omega), frz_its]
  have e2 : jP 0 H 6 (.own γ i 0 CS.length) = some (.vec CS.length (n4 CS)) := eG hc (Nat.zero_le _) (by simp [n4]) (by omega) ((KX CS).frz _ _ _)
  have e : HC 0 H (.agg [.own β g 0 L.length, .own γ i 0 CS.length, .vec n3 z3]) = some (.agg [.vec L.length (l8 L), .vec CS.length (n4 CS), .vec n3 z3]) := by
    simp only [HC, p6, e1, e2, lV, Option.map_some]
  have ha : HD 0 H [.agg [.vec L.length (l8 L), .vec CS.length (n4 CS), .vec n3 z3], .agg [.int .i64 x.proc, .vec x.l7.length (j7 x.l7)]] [.agg [.own β g 0 L.length, .own γ i 0 CS.length, .vec n3 z3], .agg [.int .i64 x.proc, .vec x.l7.length (j7 x.l7)]] := And.intro (.inr e) (And.intro (.inr rfl) trivial)
  exact CallA.borrow ha ((c_findI L x hl hk).mono fun _ _ h => h.1)
theorem mD {l : List (List Int)} : (n4 l).length = l.length := by simp [n4]
variable {pc : Nat}
theorem U5 (hu : WU u) (w : WIt u it) (hpc : pc < (c9 u it).length) (hc : iA ((c9 u it).getD pc g7)) {y : w4} (hy : dE u it pc = y) : CB 39 [.agg [.vec u.globals.length (j7 u.globals), .vec u.c4.length (g9 u.c4), .vec u.procs.length (l5 u.procs), .int .i64 u.main], .agg [.int .i64 it.proc, .vec it.l7.length (j7 it.l7)], .int .i64 ((pc : Nat) : Int)] h (.tup [.agg [.int .i64 y.proc, .vec y.l7.length (j7 y.l7)], .bool true]) := by
  subst hy; exact DL hu w hpc hc
theorem U6 (hu : WU u) (w : WIt u (L.getD i c7)) (hi : L.getD i c7 = it) (hpc : pc < (c9 u it).length) (hc : iA ((c9 u it).getD pc g7)) {y : w4} (hy : dE u it pc = y) : CB 39 [.agg [.vec u.globals.length (j7 u.globals), .vec u.c4.length (g9 u.c4), .vec u.procs.length (l5 u.procs), .int .i64 u.main], .agg [.int .i64 (L.getD i c7).proc, .vec (L.getD i c7).l7.length (j7 (L.getD i c7).l7)], .int .i64 ((pc : Nat) : Int)] h (.tup [.agg [.int .i64 y.proc, .vec y.l7.length (j7 y.l7)], .bool true]) := by
  subst hi; exact U5 hu w hpc hc hy
theorem U7 (hu : WU u) (w : WIt u (L.getD i c7)) (hi : L.getD i c7 = it) (hpc : pc < (c9 u it).length) (hc : ¬ iA ((c9 u it).getD pc g7)) : CB 39 [.agg [.vec u.globals.length (j7 u.globals), .vec u.c4.length (g9 u.c4), .vec u.procs.length (l5 u.procs), .int .i64 u.main], .agg [.int .i64 (L.getD i c7).proc, .vec (L.getD i c7).l7.length (j7 (L.getD i c7).l7)], .int .i64 ((pc : Nat) : Int)] h (.tup [.agg [.int .i64 0, .vec 0 []], .bool false]) := by
  subst hi; exact DK hu w hpc hc
theorem mx2000 : (2000 : Nat) ≤ maxLen := by decide
theorem xL {v : List Int} {i : Nat} {x : Int} (h : i < v.length) : (v.set i x).getD i 0 = x := by simp [List.getD, h]
theorem KZ {v : List Int} {x : Int} (h : i < v.length) : List.take 1 (List.drop i (j7 (v.set i x))) = [.int .i64 x] := by rw [iD (by rw [List.length_set]; exact h), xL h]
theorem DO (h : i ≤ L.length) : jG u (L ++ M) i = jG u L i := by
  unfold jG
  rw [List.take_append_of_le_length h]
theorem wit0 (hu : WU u) : WIt u ⟨0, []⟩ := by
  have := hu.pl
  refine ⟨Int.le_refl _, by show (0 : Int) < u.procs.length; omega, ?_, fun x hx => by simp at hx⟩
  show 0 = (u.procs.getD 0 nZ).l7.toNat
  rw [hu.zero]; rfl
theorem wc_of (hu : WU u) (hL : LI u L) (hR : RI L R) (hc : CS.length = L.length) (hP : PI u L CS L.length) : WC u ⟨L, CS, R⟩ :=
  ⟨⟨hL.z.1, hL.few hu⟩, hL.z.2, hL.w, hL.nd, hc, fun i hi => (hP i hi).1, fun i hi pc hpc => (hP i hi).2 pc hpc, hR.p, hR.r, hR.s⟩
attribute [local go_sem] rd s4 o2 aX bZ z9 aL eT cV s3 aT aI n6 aZ Int.natCast_nonneg Int.natCast_inj List.length_map wrap64 fA iM iN K9 zF D2 L0 oR max2 eJ cG bA Nat.reduceMul lX jE hY tE iD iO N7 iP fV mB aJ cB app_its app_cs DN zeros_I mD
section
attribute [local go_sem] KZ List.length_set
theorem c_close (hu : WU u) : CallA Tryz.prog cfg 24 [.agg [.vec u.globals.length (j7 u.globals), .vec u.c4.length (g9 u.c4), .vec u.procs.length (l5 u.procs), .int .i64 u.main]] h (fun y' h' => (∃ c, WC u c ∧ y' = .tup [.agg (HN c), .int .i64 0]) ∧ h' = h) := by
  refine .bz Tryz.f24 109 ?_
  refine c176z ?_
  refine .c8 [1, 2, 4] ?_
  refine g5.jC (β := h.length + 2) [.int .i64 0, .vec 0 []] t29 ?_ ?_
  exact ⟨.inl (by rw [hu.main]), .inr ⟨rfl, rfl⟩, trivial⟩
  simp only [List.append_assoc, List.cons_append, List.nil_append, s8, p7, List.set_cons_succ, List.set_cons_zero, List.length_append, List.length_cons, List.length_nil, Nat.reduceAdd, Nat.zero_add]
  refine g5.lE (β := h.length + 4) (k := 1) t29 rfl ?_
  simp only [List.append_assoc, List.cons_append, List.nil_append, s8, p7, List.set_cons_succ, List.set_cons_zero, List.length_append, List.length_cons, List.length_nil, Nat.reduceAdd, Nat.zero_add]
  refine g5.C2 (γ := h.length + 3) (β := h.length + 4) (k := 2) (off := 0) (len := 1) (cs := [.int .i64 0]) t29 rfl (by simp) rfl t29 (by omega) rfl ?_
  simp only [List.append_assoc, List.cons_append, List.nil_append, s8, p7, List.set_cons_succ, List.set_cons_zero, List.length_append, List.length_cons, List.length_nil, Nat.reduceAdd, Nat.zero_add]
  generalize cU _ _ = Rb
  refine c21z ?_
  refine .aG (fun m st => ∃ (i : Nat) (L : List w4) (g : Nat) (R : List Int) (CS : List (List Int)), (m = 65 - i ∧ (LI u L ∧ RI L R ∧ i ≤ L.length ∧ CS.length = i ∧ PI u L CS i)) ∧ st = ⟨mkS 109 [(1, AV.ptr h.length 0 0), (2, AV.ptr (h.length + 1) 0 0), (4, AV.ptr (h.length + 4) 0 0), (5, AV.int .i64 ((jG u L i : Nat) : Int)), (6, AV.int .i64 ((i : Nat) : Int))], h ++ [⟨0, false, 30, 4, [.vec u.globals.length (j7 u.globals), .vec u.c4.length (g9 u.c4), .vec u.procs.length (l5 u.procs), .int .i64 u.main], 0⟩, ⟨0, false, 34, 3, [.j9, .j9, .j9], 0⟩, ⟨g, false, 67, 2, l8 L, 0⟩, Rb, ⟨0, false, 34, 3, [.own (h.length + 2) g 0 L.length, .own (h.length + 5) i 0 i, .vec R.length (j7 R)], 0⟩, n9 22 1 i (n4 CS)]⟩) (.v ⟨0, ([⟨0, []⟩] : List w4), 0, ([0] : List Int), ([] : List (List Int)), ⟨rfl, ⟨⟨fun it hit => by replace hit := s6z hit; subst hit; exact wit0 hu, by simp, by simp⟩, ⟨by simp, by simp, by simp⟩, by omega, rfl, fun j hj => by omega⟩⟩, rfl⟩ (hs := t95)) ?_
  rintro m sl h' ⟨i, L, g, R, CS, ⟨hm, ⟨hL, hR, hi, hCS, hP⟩⟩, hst⟩
  obtain ⟨rfl, rfl⟩ := St.mk.inj hst; clear hst
  have hfew := hL.few hu
  have hrl := hR.len hu hL
  refine c0z ?_
  refine u2z ?_ ?_
  ·intro e1 qe1
   refine c3z ?_
   have hw : WIt u (L.getD i c7) := hL.w _ (l3 (by omega))
   have hw1 := hw.lo; have hw2 := hw.hi
   have hcd := lF hu hw
   have hs0 := hL.sites hu i
   have hs1 : jG u L (i + 1) = jG u L i + (c9 u (L.getD i c7)).length := by rw [U4 (by omega)]
   have hs2 := hL.sites hu (i + 1)
   refine .ss u4 (mkP 12 [0, 1, 0, 4, 0, 28, 60, 124, 255, 511, 1023, 2047] []) ?_
   refine c65z ?_
   refine .c8 [1, 2, 4, 5, 6, 7, 34] ?_
   refine c12z ?_
   refine c20z ?_
   refine .spl 42 rfl rfl (fun e2 => by exfalso; have q := fact e2; omega) (fun e2 => ?_)
   try simp only [e2]
   have qe2 := fact e2
   refine .m [(2, 42)] ?_
   refine uFbz ?_
   intro e3 qe3
   refine .sk ?_
   refine .c8 [1, 2, 4, 5, 6, 7, 34] ?_
   have hcl1 := hcd.1
   have hclm : (c9 u (L.getD i c7)).length ≤ 2000 := by omega
   have hmx : ((c9 u (L.getD i c7)).length : Int) ≤ (maxLen : Int) := Int.ofNat_le.2 (Nat.le_trans hclm mx2000)
   refine c21z ?_
   refine .aG (fun m st => ∃ (pc : Nat) (L1 : List w4) (g1 : Nat) (R1 : List Int) (v : List Int), (m = (c9 u (L.getD i c7)).length - pc ∧ (LI u L1 ∧ RI L1 R1 ∧ (∃ M, L1 = L ++ M) ∧ pc ≤ (c9 u (L.getD i c7)).length ∧ v.length = (c9 u (L.getD i c7)).length ∧ oM u L1 (L.getD i c7) v pc)) ∧ st = ⟨mkS 109 [(1, AV.ptr h.length 0 0), (2, AV.ptr (h.length + 1) 0 0), (4, AV.ptr (h.length + 4) 0 0), (5, AV.int .i64 ((jG u L (i + 1) : Nat) : Int)), (6, AV.int .i64 ((i : Nat) : Int)), (7, AV.vec (c9 u (L.getD i c7)).length (p9 (c9 u (L.getD i c7)))), (8, AV.own (h.length + 6) 0 0 (c9 u (L.getD i c7)).length), (9, AV.int .i64 ((pc : Nat) : Int))], h ++ [⟨0, false, 30, 4, [.vec u.globals.length (j7 u.globals), .vec u.c4.length (g9 u.c4), .vec u.procs.length (l5 u.procs), .int .i64 u.main], 0⟩, ⟨0, false, 34, 3, [.j9, .j9, .j9], 0⟩, ⟨g1, false, 67, 2, l8 L1, 0⟩, Rb, ⟨0, false, 34, 3, [.own (h.length + 2) g1 0 L1.length, .own (h.length + 5) i 0 i, .vec R1.length (j7 R1)], 0⟩, n9 22 1 i (n4 CS), ⟨0, false, 3, 1, j7 v, 0⟩]⟩) (.v ⟨0, L, g, R, (List.replicate (c9 u (L.getD i c7)).length 0), ⟨rfl, ⟨hL, hR, ⟨[], by simp⟩, by omega, by simp, fun j hj => by omega⟩⟩, rfl⟩) ?_
   rintro m sl h' ⟨pc, L1, g1, R1, v, ⟨hm, ⟨hL1, hR1, ⟨M, hM⟩, hpc, hv, hok⟩⟩, hst⟩
   obtain ⟨rfl, rfl⟩ := St.mk.inj hst; clear hst
   have hfew1 := hL1.few hu
   have hrl1 := hR1.len hu hL1
   have hit1 : L1.getD i c7 = L.getD i c7 := by rw [hM, mC (by omega)]
   have hw1 : WIt u (L1.getD i c7) := by rw [hit1]; exact hw
   have hil1 : i < L1.length := by rw [hM, List.length_append]; omega
   refine c0z ?_
   refine u2z ?_ ?_
   ·intro e4 qe4
    refine c3z ?_
    by_cases hcl : iA ((c9 u (L.getD i c7)).getD pc g7)
    ·generalize hy : dE u (L.getD i c7) pc = y
     have hwy : WIt u y := by rw [← hy]; exact uK hu hw (by omega) hcl
     refine .sg u4 (mkH 14 [0, 0, 2, 0, 14, 30, 0, 127, 255, 511, 511, 0, 3071, 8191] [11, 12] [] [0, 2048, 6144] [0, 1, 2, 3, 4, 5, 6, 7, 8, 9, 10]) 0 ?_
     refine c113z ?_
     refine .p 2 ?_
     refine .rm [true] ?_
     refine .p 1 ?_
     refine .cl rfl rfl (fun _ => U6 hu hw1 hit1 (by omega) hcl hy) ?_
     refine .p 3 ?_
     refine .en [true] [2048, 0] [_] ?_
     refine .en [true, false] [6144, 2048, 0] [_] ?_
     refine .p 1 ?_
     refine c37z ?_
     refine c182z ?_
     refine .seq ?_
     refine .c8 [1, 2, 4, 5, 6, 7, 8, 9, 10, 11] ?_
     refine c9z ?_
     refine c152z ?_
     refine c61z ?_
     refine .ca rfl rfl (F2 t29 t29 rfl hCS (by omega) (fun y hy => Nat.lt_of_le_of_lt (LI.l7 hu hL1 y hy) (by omega))) ?_
     refine .n ?_
     refine u2z ?_ ?_
     ·intro e5 qe5
      refine c1z ?_
      refine .c8 [1, 2, 4, 5, 6, 7, 8, 9, 10] ?_
      have hny : y ∉ L1 := fun hm => by have := N6 hm; omega
      have hL2 := hL1.snoc hwy hny
      have hfew2 := hL2.few hu
      have hmy : y ∈ L1 ++ [y] := by simp
      have hR2 := hR1.app (M := [y])
      have hok2 := hok.app (M := [y])
      obtain ⟨hf1, hf2, hf3⟩ := N6 hmy
      have hsg := @xL v pc (fI (L1 ++ [y]) y) (by omega)
      refine c43z ?_
      refine .ca rfl rfl (F2 (L := (L1 ++ [y])) t29 t29 (by rw [List.length_append]; rfl) hCS (by rw [List.length_append, List.length_singleton]; omega) (fun y hy => Nat.lt_of_le_of_lt (LI.l7 hu hL2 y hy) (by omega))) ?_
      refine .n ?_
      refine .z ?_
      refine u2z ?_ ?_
      ·intro e6 qe6
       refine .c8 [1, 2, 4, 5, 6, 7, 8, 9] ?_
       refine .og u4 (mkH 9 [0, 1, 0, 0, 12, 28, 63, 127, 255] [8] [] [0, 256] []) 0 ?_
       refine c172z ?_
       refine c98z ?_
       refine .cl rfl rfl (fun _ => DH _ _ (by omega)) ?_
       refine .p 1 ?_
       refine .en [true] [256, 0] [_] ?_
       refine u9.nil rfl ?_
       change g5 ..
       refine c257z ?_
       exact ⟨_, by omega, .v ⟨(pc + 1), (L1 ++ [y]), (g1 + 1), (iX R1 (fI (L1 ++ [y]) y)), (v.set pc (fI (L1 ++ [y]) y)), ⟨rfl, ⟨hL2, hR2.with ⟨hf1, hf2⟩, ⟨M ++ [y], by rw [hM, List.append_assoc]⟩, by omega, t138, hok2.set (by omega) ⟨fun _ => ⟨hf1, hf2, hf3.trans hy.symm⟩, fun hc => absurd hcl hc⟩⟩⟩, rfl⟩ (he := t35) (hk := t32)⟩
      intro e6 qe6
      refine c4z ?_
      refine c257z ?_
      exact ⟨_, by omega, .v ⟨(pc + 1), (L1 ++ [y]), (g1 + 1), R1, (v.set pc (fI (L1 ++ [y]) y)), ⟨rfl, ⟨hL2, hR2, ⟨M ++ [y], by rw [hM, List.append_assoc]⟩, by omega, t138, hok2.set (by omega) ⟨fun _ => ⟨hf1, hf2, hf3.trans hy.symm⟩, fun hc => absurd hcl hc⟩⟩⟩, rfl⟩ (he := t35) (hk := t32)⟩
     intro e5 qe5
     refine .sk ?_
     have hmy : y ∈ L1 := Classical.byContradiction fun hm => by have := fI_not hm; omega
     have hL2 := hL1
     have hR2 := hR1
     have hok2 := hok
     obtain ⟨hf1, hf2, hf3⟩ := N6 hmy
     have hsg := @xL v pc (fI L1 y) (by omega)
     refine c43z ?_
     refine .ca rfl rfl (F2 (L := L1) t29 t29 rfl hCS (by omega) (fun y hy => Nat.lt_of_le_of_lt (LI.l7 hu hL1 y hy) (by omega))) ?_
     refine .n ?_
     refine .c8 [1, 2, 4, 5, 6, 7, 8, 9] ?_
     refine .z ?_
     refine u2z ?_ ?_
     ·intro e7 qe7
      refine .og u4 (mkH 9 [0, 1, 0, 0, 12, 28, 63, 127, 255] [8] [] [0, 256] []) 0 ?_
      refine c172z ?_
      refine c98z ?_
      refine .cl rfl rfl (fun _ => DH _ _ (by omega)) ?_
      refine .p 1 ?_
      refine .en [true] [256, 0] [_] ?_
      refine u9.nil rfl ?_
      change g5 ..
      refine c257z ?_
      exact ⟨_, by omega, .v ⟨(pc + 1), L1, g1, (iX R1 (fI L1 y)), (v.set pc (fI L1 y)), ⟨rfl, ⟨hL2, hR2.with ⟨hf1, hf2⟩, ⟨M, by rw [hM]⟩, by omega, t138, hok2.set (by omega) ⟨fun _ => ⟨hf1, hf2, hf3.trans hy.symm⟩, fun hc => absurd hcl hc⟩⟩⟩, rfl⟩ (he := t35) (hk := t32)⟩
     intro e7 qe7
     refine c4z ?_
     refine .rz ?_
     exact ⟨_, by omega, .v ⟨(pc + 1), L1, g1, R1, (v.set pc (fI L1 y)), ⟨rfl, ⟨hL2, hR2, ⟨M, by rw [hM]⟩, by omega, t138, hok2.set (by omega) ⟨fun _ => ⟨hf1, hf2, hf3.trans hy.symm⟩, fun hc => absurd hcl hc⟩⟩⟩, rfl⟩ (he := t35) (hk := t32)⟩
    ·skip
     refine .sg u4 (mkH 14 [0, 0, 2, 0, 14, 30, 0, 127, 255, 511, 511, 0, 3071, 8191] [11, 12] [] [0, 2048, 6144] [0, 1, 2, 3, 4, 5, 6, 7, 8, 9, 10]) 0 ?_
     refine c113z ?_
     refine .p 2 ?_
     refine .rm [true] ?_
     refine .p 1 ?_
     refine .cl rfl rfl (fun _ => U7 hu hw1 hit1 (by omega) hcl) ?_
     refine .p 3 ?_
     refine .en [true] [2048, 0] [_] ?_
     refine .en [true, false] [6144, 2048, 0] [_] ?_
     refine .p 1 ?_
     refine c37z ?_
     refine c182z ?_
     refine .seq ?_
     refine .c8 [1, 2, 4, 5, 6, 7, 8, 9, 10, 11] ?_
     refine c107z ?_
     refine .z ?_
     refine c8z ?_
     refine .rz ?_
     exact ⟨_, by omega, .v ⟨(pc + 1), L1, g1, R1, (v.set pc (-1)), ⟨rfl, ⟨hL1, hR1, ⟨M, hM⟩, by omega, t138, hok.set (by omega) ⟨fun hc => absurd hc hcl, fun _ => rfl⟩⟩⟩, rfl⟩ (he := t35) (hk := t32)⟩
   intro e4 qe4
   refine .exit ?_
   obtain rfl : pc = (c9 u (L.getD i c7)).length := by omega
   refine g5.Z7 (t := 8) (γ := h.length + 6) (len := (c9 u (L.getD i c7)).length) (by rw [s8]; exact congrArg some (eF (by intro h0; have := congrArg List.length h0; rw [n6] at this; simp only [List.length_nil] at this; omega)).symm) (by rw [n6, hv, Nat.mul_one]) (by omega) (zS _) (C5 (by decide) rfl) ?_
   rw [cY]; simp only [p7, List.set_cons_succ, List.set_cons_zero]
   generalize iE _ _ _ _ _ = Vb
   change g5 ..
   refine c1z ?_
   refine .c8 [1, 2, 4, 5, 6] ?_
   refine .rz ?_
   have hP1 : PI u L1 (CS ++ [v]) (i + 1) := by rw [hM]; exact hP.step hCS (by omega) hv (by rw [← hM]; exact hok)
   have hs3 : jG u L1 (i + 1) = jG u L (i + 1) := by rw [hM, DO (by omega)]
   exact ⟨_, by omega, .v ⟨(i + 1), L1, g1, R1, (CS ++ [v]), ⟨rfl, ⟨hL1, hR1, by omega, by simp [hCS], hP1⟩⟩, rfl⟩ (he := by (simp only [List.append_assoc, List.cons_append, List.nil_append, List.length_append, List.length_cons, List.length_nil, hCS]; rfl)) (hk := by exact (z5.refl _).app rfl ⟨.inl rfl, .inl rfl, .inr ((KY _).refs _), .inl rfl, .inr (eS.get ⟨.own _ _ _ _ (by simp), .own _ _ _ _ (by simp), .vec _ _, trivial⟩), .inr (by rw [r6]; exact (KX _).refs _), trivial⟩) (hs := t95)⟩
  intro e1 qe1
  refine .exit ?_
  obtain rfl : i = L.length := by omega
  refine g5.C2 (γ := h.length + 2) (β := h.length + 4) (k := 0) (off := 0) (len := L.length) (cs := l8 L) t29 rfl (by simp only [aJ]; omega) (by rw [List.drop_zero, List.take_of_length_le (by simp only [aJ]; omega)]; exact (KY _).MV) t29 (by omega) rfl ?_
  simp only [List.append_assoc, List.cons_append, List.nil_append, s8, p7, List.set_cons_succ, List.set_cons_zero, List.length_append, List.length_cons, List.length_nil, Nat.reduceAdd, Nat.zero_add]
  refine g5.nX (γ := h.length + 5) (β := h.length + 4) (k := 1) (len := L.length) t29 (by rw [mD, hCS, Nat.mul_one]) (by omega) (KX _) t29 (by omega) rfl ?_
  refine c19z ?_
  refine .c8 [2, 4] ?_
  refine .z ?_
  exact .ret (.ex (hq := by exact ⟨⟨L, CS, R⟩, wc_of hu hL hR hCS hP, by simp only [HN, hCS]⟩))
end
end Go.Proofs.YtapdldekgbbomaaGreat
end
section
namespace Go.Un
open Go.Ab
def shV (k : Nat) (n : Int) (d : Nat) : Int := if 0 ≤ (d : Int) + n ∧ (d : Int) + n ≤ k then 2 ^ ((d : Int) + n).toNat else 0
def shI (k : Nat) (n : Int) : List Int := (List.range (k + 1)).map (shV k n)
theorem shI_len {k : Nat} {n : Int} : (shI k n).length = k + 1 := by simp [shI]
def chI (it : w4) (x : Ins) (m : Int) : Int := if x.op = 4 ∧ uJ it x.pl = m then 1 else if x.op = 5 ∧ uJ it x.pl = m then -1 else 0
variable {it : w4} {x : Ins} {m : Int}
theorem chI_1 (h : x.op = 4) (h2 : uJ it x.pl = m) : chI it x m = 1 := by rw [chI, if_pos ⟨h, h2⟩]
theorem chI_2 (h : x.op = 5) (h2 : uJ it x.pl = m) : chI it x m = -1 := by rw [chI, if_neg (by omega), if_pos ⟨h, h2⟩]
theorem chI_0 (h : ¬ (x.op = 4 ∧ uJ it x.pl = m)) (h2 : ¬ (x.op = 5 ∧ uJ it x.pl = m)) : chI it x m = 0 := by rw [chI, if_neg h, if_neg h2]
theorem pO : chI it x m = 1 ∨ chI it x m = -1 ∨ chI it x m = 0 := by
 unfold chI
 split
 ·exact .inl rfl
 ·split
  ·exact .inr (.inl rfl)
  ·exact .inr (.inr rfl)
def gS (m : Mx) : Nat := if m.size = 0 ∧ m.re = false then 1 else 8
theorem gE {m : Mx} : gS m ≤ 8 := by unfold gS; split <;> omega
variable {pc : Nat}
theorem DP {u : Un} (hu : WU u) (w : WIt u it) (hpc : pc < (c9 u it).length) (ho : ((c9 u it).getD pc g7).op = 4 ∨ ((c9 u it).getD pc g7).op = 5) : ((c9 u it).getD pc g7).pl.param = true → 0 ≤ ((c9 u it).getD pc g7).pl.index ∧ ((c9 u it).getD pc g7).pl.index.toNat < it.l7.length := by
 obtain ⟨_, _, h3, _⟩ := (lF hu w).2.2 pc hpc
 intro hp
 obtain ⟨h0, ⟨_, h2⟩ | ⟨h1, _⟩⟩ := h3 ho
 ·refine ⟨h0, ?_⟩
  rw [w.len]
  simp only at h2
  omega
 ·rw [hp] at h1; cases h1
def cA (x : Ins) (pc : Nat) : List Int := if x.op = 8 then [] else if x.op = 7 then [x.target] else if x.op = 6 then (if x.target = (pc : Int) + 1 then [x.target] else [min x.target ((pc : Int) + 1), max x.target ((pc : Int) + 1)]) else [(pc : Int) + 1]
def kS (x : Ins) (pc : Nat) : AV := .vec (cA x pc).length (j7 (cA x pc))
theorem DQ (h : x.op = 8) : kS x pc = .vec 0 [] := by simp [kS, cA, h, j7]
theorem DR (h : x.op = 7) : kS x pc = .vec 1 [.int .i64 x.target] := by simp [kS, cA, h, j7]
theorem N8 (h : x.op = 6) (h2 : x.target = (pc : Int) + 1) : kS x pc = .vec 1 [.int .i64 x.target] := by simp [kS, cA, h, h2, j7]
theorem DS (h : x.op = 6) (h2 : ¬ x.target = (pc : Int) + 1) : kS x pc = .vec 2 [.int .i64 (min x.target ((pc : Int) + 1)), .int .i64 (max x.target ((pc : Int) + 1))] := by simp [kS, cA, h, h2, j7]
theorem DT (h8 : ¬ x.op = 8) (h7 : ¬ x.op = 7) (h6 : ¬ x.op = 6) : kS x pc = .vec 1 [.int .i64 ((pc : Int) + 1)] := by simp [kS, cA, h8, h7, h6, j7]
theorem eN : (cA x pc).length ≤ 2 := by
 unfold cA
 split
 ·simp
 ·split
  ·simp
  ·split
   ·split <;> simp
   ·simp
theorem next_in {u : Un} (hu : WU u) (w : WIt u it) (hpc : pc < (c9 u it).length) : ∀ d, d < (cA ((c9 u it).getD pc g7) pc).length → 0 ≤ (cA ((c9 u it).getD pc g7) pc).getD d 0 ∧ (cA ((c9 u it).getD pc g7) pc).getD d 0 < (c9 u it).length := by
 obtain ⟨h1, h2, h3⟩ := lF hu w
 obtain ⟨_, h4, _⟩ := h3 pc hpc
 have h5 : ¬ ((c9 u it).getD pc g7).op = 8 → pc + 1 < (c9 u it).length := fun h8 => by
  by_cases e : pc = (c9 u it).length - 1
  ·rw [← e] at h2; exact absurd h2 h8
  ·omega
 intro d hd
 have key : ∀ x ∈ cA ((c9 u it).getD pc g7) pc, 0 ≤ x ∧ x < (c9 u it).length := by
  intro x hx
  unfold cA at hx
  split at hx
  ·simp at hx
  ·rename_i h8
   have h6 := h5 h8
   split at hx
   ·rename_i h7
    have := h4 (.inr h7)
    replace hx := s6z hx
    omega
   ·split at hx
    ·rename_i h7
     have := h4 (.inl h7)
     split at hx
     ·replace hx := s6z hx
      omega
     ·simp only [List.mem_cons, List.not_mem_nil, or_false] at hx
      omega
    ·replace hx := s6z hx
     omega
 exact key _ (l3 hd)
end Go.Un
end
section
namespace Go.Proofs.YtapdldekgbbomaaGreat
open Go.Ab Go.Un
variable {i : Nat}
theorem oN {l : List Ins} (h : i < l.length) : List.take 12 (List.drop (i * 12) (p9 l)) = [.int .i64 (l.getD i g7).op, .int .i64 (l.getD i g7).target, .bool (l.getD i g7).global, .int .i64 (l.getD i g7).e.op, .int .i64 (l.getD i g7).e.num, .str (l.getD i g7).e.name, .vec (l.getD i g7).e.args.length (n5 (l.getD i g7).e.args), .bool (l.getD i g7).pl.param, .int .i64 (l.getD i g7).pl.index, .vec (l.getD i g7).pl.at'.length (n5 (l.getD i g7).pl.at'), .vec (l.getD i g7).ints.length (n5 (l.getD i g7).ints), .vec (l.getD i g7).v9.length (cO (l.getD i g7).v9)] := by rw [read_in h, kC]
theorem oO {l : List Mx} (h : i < l.length) : List.take 3 (List.drop (i * 3) (g9 l)) = [.str (l.getD i u5).name, .bool (l.getD i u5).re, .int .i64 (l.getD i u5).size] := wH h
theorem flat_I (n : Nat) : (List.replicate n [AV.int .i64 0]).flatten = j7 (List.replicate n 0) := by
  induction n with
  | zero => rfl
  | succ n ih => simp only [List.replicate_succ, List.flatten_cons, ih]; rfl
theorem shl1N {e : Int} (h0 : 0 ≤ e) (h1 : e ≤ 9) : IntKind.wrap .i64 (1 * 2 ^ (min e.toNat 64)) = 2 ^ e.toNat := by
  obtain ⟨m, rfl⟩ := Int.eq_ofNat_of_zero_le h0
  have : m = 0 ∨ m = 1 ∨ m = 2 ∨ m = 3 ∨ m = 4 ∨ m = 5 ∨ m = 6 ∨ m = 7 ∨ m = 8 ∨ m = 9 := by omega
  rcases this with rfl | rfl | rfl | rfl | rfl | rfl | rfl | rfl | rfl | rfl <;> decide
theorem shl1M {m : Nat} (h1 : m ≤ 9) : IntKind.wrap .i64 (1 * 2 ^ (min m 64)) = 2 ^ m := by
  have := shl1N (e := (m : Int)) (by omega) (by omega)
  simpa using this
def F3 (v : Nat → Int) (i : Nat) (zs : List Int) : Prop := (∀ d, d < i → zs.getD d 0 = v d) ∧ (∀ d, i ≤ d → zs.getD d 0 = 0)
theorem F3.zero (v : Nat → Int) (n : Nat) : F3 v 0 (List.replicate n 0) := by
  refine ⟨fun d hd => by omega, fun d _ => ?_⟩
  rw [List.getD_eq_getElem?_getD, List.getElem?_replicate]
  split <;> rfl
variable {v : Nat → Int} {zs : List Int}
theorem F3.set {x : Int} (hi : i < zs.length) (h : F3 v i zs) (hx : x = v i) : F3 v (i + 1) (zs.set i x) := by
  refine ⟨fun d hd => ?_, fun d hd => ?_⟩
  · by_cases e : d = i
    · subst e; simp [List.getD, hi, hx]
    · have := h.1 d (by omega)
      simp only [List.getD_eq_getElem?_getD, List.getElem?_set_ne (Ne.symm e)] at this ⊢
      exact this
  · have := h.2 d (by omega)
    simp only [List.getD_eq_getElem?_getD, List.getElem?_set_ne (show i ≠ d from by omega)] at this ⊢
    exact this
theorem F3.skip (h : F3 v i zs) (hv : v i = 0) : F3 v (i + 1) zs := by
  refine ⟨fun d hd => ?_, fun d hd => h.2 d (by omega)⟩
  by_cases e : d = i
  · subst e; rw [h.2 d (Nat.le_refl _), hv]
  · exact h.1 d (by omega)
theorem F3.all {n : Nat} (h : F3 v i zs) (hl : zs.length = n) (hi : n ≤ i) : zs = (List.range n).map v := by
  refine List.ext_getElem (by simp [hl]) fun d k1 k2 => ?_
  have := h.1 d (by omega)
  simp
  simpa [List.getD, k1] using this
variable {h l : c6} {b0 : Blk} {g : Nat} {a : Int}
theorem LA : gV h.length (h ++ (b0 :: ⟨g, false, 3, 1, [.int .i64 a], 0⟩ :: l)) 6 (.own (h.length + 1) g 0 1) = some (.vec 1 [.int .i64 a]) := U2 (a := [a]) t29 (by omega) rfl
theorem frz_2 {b : Int} : gV h.length (h ++ (b0 :: ⟨g, false, 3, 1, [.int .i64 a, .int .i64 b], 0⟩ :: l)) 6 (.own (h.length + 1) g 0 2) = some (.vec 2 [.int .i64 a, .int .i64 b]) := U2 (a := [a, b]) t29 (by omega) rfl
theorem vec2 {b c d : Int} (h1 : a = c) (h2 : b = d) : AV.vec 2 [.int .i64 a, .int .i64 b] = AV.vec 2 [.int .i64 c, .int .i64 d] := by rw [h1, h2]
theorem frz_13 {b1 b2 : Blk} : gV h.length (h ++ (b0 :: b1 :: b2 :: ⟨g, false, 3, 1, [.int .i64 a], 0⟩ :: l)) 6 (.own (h.length + 3) g 0 1) = some (.vec 1 [.int .i64 a]) := U2 (a := [a]) t29 (by omega) rfl
theorem jH {C : Cfg} {ρ : Operand → AV} {c : Call} {r : Operand} {name : String} {t : TypeId} {v : AV} {f : FuncId} (hc : c.callee = .invoke r name) (hr : ρ r = .iface t v) (hm : C.V7 t name = some f) : u6 C ρ c = some (f, v :: c.args.toList.map ρ) := by simp only [u6, hc, hr, hm]
theorem U8 : cfg.V7 192 "lockorder/flow.next" = some 137 := by kernel_rfl
theorem DU : cfg.V7 194 "lockorder/flow.next" = some 138 := by kernel_rfl
theorem tK : cfg.V7 195 "lockorder/flow.next" = some 139 := by kernel_rfl
theorem zX : cfg.V7 196 "lockorder/flow.next" = some 140 := by kernel_rfl
attribute [local go_sem] rd aJ cB z9 s3 n6 Int.natCast_nonneg Int.natCast_inj iO fV iP oN oO iD DN flat_I shl1N shl1M List.length_set List.length_replicate Int.toNat_natCast_add_one iB wrap64 oR max2
theorem c_cap (m : Mx) : CB 73 [.agg [.str m.name, .bool m.re, .int .i64 m.size]] h (.int .i64 ((gS m : Nat) : Int)) := by
  refine .bz Tryz.f73 11 ?_
  refine c12z ?_
  refine c43z ?_
  refine .spl 6 rfl rfl (fun e1 => ?_) (fun e1 => ?_)
  ·try simp only [e1]
   have qe1 := fact e1
   refine .m [(3, 6)] ?_
   refine u2z ?_ ?_
   ·intro e2 qe2
    refine c14z ?_
    exact .ret (.ex (hq := t142))
   intro e2 qe2
   refine .sk ?_
   refine c14z ?_
   exact .ret (.ex (hq := t142))
  try simp only [e1]
  have qe1 := fact e1
  refine .m [(3, 6)] ?_
  refine c18z ?_
  refine c14z ?_
  exact .ret (.ex (hq := t142))
theorem OB (m : Mx) : CB 21 [.agg [.str m.name, .bool m.re, .int .i64 m.size]] h (.int .i64 ((gS m : Nat) : Int)) := by
  refine .bz Tryz.f21 11 ?_
  refine c12z ?_
  refine c43z ?_
  refine .spl 6 rfl rfl (fun e1 => ?_) (fun e1 => ?_)
  ·try simp only [e1]
   have qe1 := fact e1
   refine .m [(3, 6)] ?_
   refine u2z ?_ ?_
   ·intro e2 qe2
    refine c14z ?_
    exact .ret (.ex (hq := t142))
   intro e2 qe2
   refine .sk ?_
   refine c14z ?_
   exact .ret (.ex (hq := t142))
  try simp only [e1]
  have qe1 := fact e1
  refine .m [(3, 6)] ?_
  refine c18z ?_
  refine c14z ?_
  exact .ret (.ex (hq := t142))
theorem tL (k : Nat) (n : Int) (hk : k ≤ 8) (h1 : -1 ≤ n) (h2 : n ≤ 1) : CB 105 [.int .i64 ((k : Nat) : Int), .int .i64 n] h (.vec (shI k n).length (j7 (shI k n))) := by
  refine .bz Tryz.f105 35 ?_
  refine c73z ?_
  refine .fZ (fun m st => ∃ (i : Nat) (zs : List Int), (m = (k + 1) - i ∧ (F3 (shV k n) i zs ∧ zs.length = (k + 1) ∧ i ≤ (k + 1))) ∧ st = ⟨mkS 35 [(0, AV.int .i64 ((k : Nat) : Int)), (1, AV.int .i64 n), (5, AV.own h.length 0 0 (k + 1)), (11, AV.int .i64 ((k + 1 : Nat) : Int)), (12, AV.int .i64 ((i : Nat) : Int))], h ++ [⟨0, false, 3, 1, j7 zs, 0⟩]⟩) _ (.v ⟨0, (List.replicate (k + 1) 0), ⟨rfl, ⟨F3.zero _ _, by simp, by omega⟩⟩, rfl⟩) ?_
  rintro m sl h' ⟨i, zs, ⟨hm, ⟨hI, hz, hi⟩⟩, hst⟩
  obtain ⟨rfl, rfl⟩ := St.mk.inj hst
  refine c12z ?_
  refine u2z ?_ ?_
  ·intro e1 qe1
   refine c201z ?_
   refine c26z ?_
   refine .spl 19 rfl rfl (fun e2 => ?_) (fun e2 => ?_)
   ·try simp only [e2]
    have qe2 := fact e2
    refine .m [(4, 19)] ?_
    refine u2z ?_ ?_
    ·intro e3 qe3
     refine .c8 [0, 1, 5, 6, 11, 12] ?_
     refine c1z ?_
     refine .c8 [0, 1, 5, 11, 12] ?_
     refine .rz ?_
     exact ⟨_, by omega, .v ⟨(i + 1), (zs.set i _), ⟨rfl, ⟨F3.set (by omega) hI (by rw [shV, if_pos (by omega)]), by simp only [List.length_set]; exact hz, by omega⟩⟩, rfl⟩⟩
    intro e3 qe3
    refine c4z ?_
    refine .c8 [0, 1, 5, 11, 12] ?_
    refine .rz ?_
    exact ⟨_, by omega, .v ⟨(i + 1), zs, ⟨rfl, ⟨F3.skip hI (by rw [shV, if_neg (by omega)]), hz, by omega⟩⟩, rfl⟩⟩
   try simp only [e2]
   have qe2 := fact e2
   refine .m [(4, 19)] ?_
   refine c54z ?_
   refine .c8 [0, 1, 5, 11, 12] ?_
   refine .rz ?_
   exact ⟨_, by omega, .v ⟨(i + 1), zs, ⟨rfl, ⟨F3.skip hI (by rw [shV, if_neg (by omega)]), hz, by omega⟩⟩, rfl⟩⟩
  intro e1 qe1
  refine c178z ?_
  exact ⟨_, _, rfl, U2 t179 (Nat.le_refl _) hz, by (rw [hI.all hz (by omega), shI_len]; rfl)⟩
theorem c_up (k : Nat) (hk : k ≤ 8) : CB 75 [.int .i64 ((k : Nat) : Int)] h (.vec (shI k 1).length (j7 (shI k 1))) := by
  refine .bz Tryz.f75 5 ?_
  refine c193z ?_
  refine .ca rfl rfl (tL k 1 hk (by omega) (by omega)) ?_
  refine c161z ?_
  exact ⟨[], _, (List.append_nil _).symm, t44, by rfl⟩
theorem c_down (k : Nat) (hk : k ≤ 8) : CB 76 [.int .i64 ((k : Nat) : Int)] h (.vec (shI k (-1)).length (j7 (shI k (-1)))) := by
  refine .bz Tryz.f76 5 ?_
  refine c193z ?_
  refine .ca rfl rfl (tL k (-1) hk (by omega) (by omega)) ?_
  refine c161z ?_
  exact ⟨[], _, (List.append_nil _).symm, t44, by rfl⟩
theorem c_id (k : Nat) (hk : k ≤ 8) : CB 77 [.int .i64 ((k : Nat) : Int)] h (.vec (shI k 0).length (j7 (shI k 0))) := by
  refine .bz Tryz.f77 5 ?_
  refine c193z ?_
  refine .ca rfl rfl (tL k 0 hk (by omega) (by omega)) ?_
  refine c161z ?_
  exact ⟨[], _, (List.append_nil _).symm, t44, by rfl⟩
variable {u : Un} {it : w4} {pc : Nat}
theorem c_fcode (hu : WU u) (w : WIt u it) (hpc : pc < (c9 u it).length) : CB 79 [.agg [.vec u.globals.length (j7 u.globals), .vec u.c4.length (g9 u.c4), .vec u.procs.length (l5 u.procs), .int .i64 u.main], .agg [.int .i64 it.proc, .vec it.l7.length (j7 it.l7)], .int .i64 ((pc : Nat) : Int)] h (.agg [.int .i64 ((c9 u it).getD pc g7).op, .int .i64 ((c9 u it).getD pc g7).target, .bool ((c9 u it).getD pc g7).global, .int .i64 ((c9 u it).getD pc g7).e.op, .int .i64 ((c9 u it).getD pc g7).e.num, .str ((c9 u it).getD pc g7).e.name, .vec ((c9 u it).getD pc g7).e.args.length (n5 ((c9 u it).getD pc g7).e.args), .bool ((c9 u it).getD pc g7).pl.param, .int .i64 ((c9 u it).getD pc g7).pl.index, .vec ((c9 u it).getD pc g7).pl.at'.length (n5 ((c9 u it).getD pc g7).pl.at'), .vec ((c9 u it).getD pc g7).ints.length (n5 ((c9 u it).getD pc g7).ints), .vec ((c9 u it).getD pc g7).v9.length (cO ((c9 u it).getD pc g7).v9)]) := by
  refine .bz Tryz.f79 17 ?_
  have w1 := w.lo
  have w2 := w.hi
  have hsz : (c9 u it).length ≤ 1664 := u0 hu w
  refine c32z ?_
  refine c97z ?_
  exact .ret (.ex (hq := by rfl))
theorem OC (it : w4) (p : Pl) (hp : p.param = true → 0 ≤ p.index ∧ p.index.toNat < it.l7.length) : CB 104 [.agg [.int .i64 it.proc, .vec it.l7.length (j7 it.l7)], .agg [.bool p.param, .int .i64 p.index, .vec p.at'.length (n5 p.at')]] h (.int .i64 (uJ it p)) := by
  refine .bz Tryz.f104 28 ?_
  refine c12z ?_
  refine c20z ?_
  refine .spl 7 rfl rfl (fun e1 => ?_) (fun e1 => ?_)
  ·try simp only [e1]
   have qe1 := fact e1
   refine .k 5 [(2, 7)] ?_
   refine .spl 12 rfl rfl (fun e2 => ?_) (fun e2 => ?_)
   ·try simp only [e2]
    have qe2 := fact e2
    refine .m [(7, 12)] ?_
    refine u2z ?_ ?_
    ·intro e3 qe3
     refine .c8 [2, 3] ?_
     refine .z ?_
     exact .ret (.ex (hq := t94))
    intro e3 qe3
    refine .sk ?_
    refine c186z ?_
    exact .ret (.ex (hq := t94))
   try simp only [e2]
   have qe2 := fact e2
   refine .m [(7, 12)] ?_
   refine c18z ?_
   refine c186z ?_
   exact .ret (.ex (hq := t94))
  try simp only [e1]
  have qe1 := fact e1
  refine .k 8 [(2, 7), (7, 12)] ?_
  refine .m [(7, 12)] ?_
  refine c18z ?_
  refine c186z ?_
  exact .ret (.ex (hq := t94))
theorem LB (hu : WU u) (w : WIt u it) (hpc : pc < (c9 u it).length) (m : Int) : CB 74 [.agg [.vec u.globals.length (j7 u.globals), .vec u.c4.length (g9 u.c4), .vec u.procs.length (l5 u.procs), .int .i64 u.main], .agg [.int .i64 it.proc, .vec it.l7.length (j7 it.l7)], .int .i64 ((pc : Nat) : Int), .int .i64 m] h (.int .i64 (chI it ((c9 u it).getD pc g7) m)) := by
  refine .bz Tryz.f74 33 ?_
  have w1 := w.lo
  have w2 := w.hi
  have hsz : (c9 u it).length ≤ 1664 := u0 hu w
  refine c260z ?_
  refine c42z ?_
  refine c254z ?_
  refine .spl 17 rfl rfl (fun e1 => ?_) (fun e1 => ?_)
  ·try simp only [e1]
   have qe1 := fact e1
   refine .k 5 [(3, 17)] ?_
   refine .spl 22 rfl rfl (fun e2 => ?_) (fun e2 => ?_)
   ·try simp only [e2]
    have qe2 := fact e2
    refine .m [(8, 22)] ?_
    refine c240z ?_
    exact .ret (.ex (hq := t13))
   try simp only [e2]
   have qe2 := fact e2
   refine .k 3 [(8, 22)] ?_
   refine .ca rfl rfl (OC it ((c9 u it).getD pc g7).pl (DP hu w hpc (by omega))) ?_
   refine .m [(8, 22)] ?_
   refine u2z ?_ ?_
   ·intro e3 qe3
    refine c14z ?_
    exact .ret (.ex (hq := t13))
   intro e3 qe3
   refine c152z ?_
   refine .c8 [9] ?_
   refine .z ?_
   refine u2z ?_ ?_
   ·intro e4 qe4
    refine .z ?_
    exact .ret (.ex (hq := t13))
   intro e4 qe4
   refine .sk ?_
   refine .z ?_
   exact .ret (.ex (hq := t13))
  try simp only [e1]
  have qe1 := fact e1
  refine .k 8 [(3, 17), (8, 22)] ?_
  refine .ca rfl rfl (OC it ((c9 u it).getD pc g7).pl (DP hu w hpc (by omega))) ?_
  refine .m [(8, 22)] ?_
  refine u2z ?_ ?_
  ·intro e5 qe5
   refine c14z ?_
   exact .ret (.ex (hq := t13))
  intro e5 qe5
  refine c152z ?_
  refine .c8 [9] ?_
  refine .z ?_
  refine u2z ?_ ?_
  ·intro e6 qe6
   refine .z ?_
   exact .ret (.ex (hq := t13))
  intro e6 qe6
  refine .sk ?_
  refine .z ?_
  exact .ret (.ex (hq := t13))
theorem zY (hu : WU u) (w : WIt u it) (hpc : pc < (c9 u it).length) (m : Int) : CB 20 [.agg [.vec u.globals.length (j7 u.globals), .vec u.c4.length (g9 u.c4), .vec u.procs.length (l5 u.procs), .int .i64 u.main], .agg [.int .i64 it.proc, .vec it.l7.length (j7 it.l7)], .int .i64 ((pc : Nat) : Int), .int .i64 m] h (.int .i64 (chI it ((c9 u it).getD pc g7) m)) := by
  refine .bz Tryz.f20 44 ?_
  have w1 := w.lo
  have w2 := w.hi
  have hsz : (c9 u it).length ≤ 1664 := u0 hu w
  refine c32z ?_
  refine c97z ?_
  refine .sb ?_
  refine c254z ?_
  refine .spl 24 rfl rfl (fun e1 => ?_) (fun e1 => ?_)
  ·try simp only [e1]
   have qe1 := fact e1
   refine .k 3 [(3, 24)] ?_
   refine .ca rfl rfl (DI it ((c9 u it).getD pc g7).pl (DP hu w hpc (by omega))) ?_
   refine .m [(3, 24)] ?_
   refine u2z ?_ ?_
   ·intro e2 qe2
    refine c14z ?_
    exact .ret (.ex (hq := t13))
   intro e2 qe2
   refine c254z ?_
   refine .spl 36 rfl rfl (fun e3 => ?_) (fun e3 => ?_)
   ·try simp only [e3]
    have qe3 := fact e3
    refine .k 3 [(3, 36)] ?_
    refine .ca rfl rfl (DI it ((c9 u it).getD pc g7).pl (DP hu w hpc (by omega))) ?_
    refine .m [(3, 36)] ?_
    refine u2z ?_ ?_
    ·intro e4 qe4
     refine c14z ?_
     exact .ret (.ex (hq := t13))
    intro e4 qe4
    refine c4z ?_
    refine c14z ?_
    exact .ret (.ex (hq := t13))
   try simp only [e3]
   have qe3 := fact e3
   refine .m [(3, 36)] ?_
   refine c54z ?_
   refine c14z ?_
   exact .ret (.ex (hq := t13))
  try simp only [e1]
  have qe1 := fact e1
  refine .m [(3, 24)] ?_
  refine .F ?_
  refine c254z ?_
  refine .spl 36 rfl rfl (fun e5 => ?_) (fun e5 => ?_)
  ·try simp only [e5]
   have qe5 := fact e5
   refine .k 3 [(3, 36)] ?_
   refine .ca rfl rfl (DI it ((c9 u it).getD pc g7).pl (DP hu w hpc (by omega))) ?_
   refine .m [(3, 36)] ?_
   refine u2z ?_ ?_
   ·intro e6 qe6
    refine c14z ?_
    exact .ret (.ex (hq := t13))
   intro e6 qe6
   refine c4z ?_
   refine c14z ?_
   exact .ret (.ex (hq := t13))
  try simp only [e5]
  have qe5 := fact e5
  refine .m [(3, 36)] ?_
  refine c54z ?_
  refine c14z ?_
  exact .ret (.ex (hq := t13))
theorem c_rel (hu : WU u) (w : WIt u it) (hpc : pc < (c9 u it).length) {m : Nat} (hm : m < u.c4.length) : CB 46 [.agg [.vec u.globals.length (j7 u.globals), .vec u.c4.length (g9 u.c4), .vec u.procs.length (l5 u.procs), .int .i64 u.main], .agg [.int .i64 it.proc, .vec it.l7.length (j7 it.l7)], .int .i64 ((pc : Nat) : Int), .int .i64 ((m : Nat) : Int)] h (.vec (shI (gS (u.c4.getD m u5)) (chI it ((c9 u it).getD pc g7) ((m : Nat) : Int))).length (j7 (shI (gS (u.c4.getD m u5)) (chI it ((c9 u it).getD pc g7) ((m : Nat) : Int))))) := by
  refine .bz Tryz.f46 31 ?_
  have w1 := w.lo
  have w2 := w.hi
  have hsz : (c9 u it).length ≤ 1664 := u0 hu w
  have hcp := gE (m := (u.c4.getD m u5))
  have hml := hu.ml
  have hch := pO (it := it) (x := ((c9 u it).getD pc g7)) (m := (m : Int))
  refine .z ?_
  refine c26z ?_
  refine .ca rfl rfl (c_cap (u.c4.getD m u5)) ?_
  refine c42z ?_
  refine .c8 [2, 3, 4, 5, 9] ?_
  refine c43z ?_
  refine .ca rfl rfl (LB hu w hpc _) ?_
  refine .nil ?_
  refine .block ?_
  refine .c8 [9, 20] ?_
  refine .z ?_
  refine u2z ?_ ?_
  ·intro e1 qe1
   refine c142z ?_
   refine .ca rfl rfl (c_up _ hcp) ?_
   refine .n ?_
   exact .ret (.ex (hq := t58))
  intro e1 qe1
  refine .z ?_
  refine u2z ?_ ?_
  ·intro e2 qe2
   refine c142z ?_
   refine .ca rfl rfl (c_down _ hcp) ?_
   refine .n ?_
   exact .ret (.ex (hq := t58))
  intro e2 qe2
  refine c4z ?_
  refine c142z ?_
  refine .ca rfl rfl (c_id _ hcp) ?_
  refine .n ?_
  exact .ret (.ex (hq := t58))
theorem c_ended (pc : Nat) : CB 137 [.agg [], .int .i64 ((pc : Nat) : Int)] h (.vec 0 []) := by
  refine .bz Tryz.f137 5 ?_
  refine c176z ?_
  exact .ret (.ex (hq := by rfl))
theorem c_jump (pc : Nat) (t : Int) : CB 138 [.agg [.int .i64 t], .int .i64 ((pc : Nat) : Int)] h (.vec 1 [.int .i64 t]) := by
  refine .bz Tryz.f138 8 ?_
  refine c176z ?_
  exact .ret (.ex (hf := by first | rfl | exact LA) (hq := by rfl))
theorem DV (pc : Nat) (hp : pc < 100000) : CB 140 [.agg [], .int .i64 ((pc : Nat) : Int)] h (.vec 1 [.int .i64 ((pc : Int) + 1)]) := by
  refine .bz Tryz.f140 8 ?_
  refine c176z ?_
  exact .ret (.ex (hf := by first | rfl | exact LA) (hq := by rfl))
theorem N9 (pc : Nat) (t : Int) (hp : pc < 100000) : CB 139 [.agg [.int .i64 t], .int .i64 ((pc : Nat) : Int)] h (if t = (pc : Int) + 1 then AV.vec 1 [AV.int .i64 t] else AV.vec 2 [AV.int .i64 (min t ((pc : Int) + 1)), AV.int .i64 (max t ((pc : Int) + 1))]) := by
  refine .bz Tryz.f139 24 ?_
  refine c59z ?_
  refine u2z ?_ ?_
  ·intro e1 qe1
   refine .c8 [2] ?_
   refine .z ?_
   exact .ret (.ex (hf := by first | rfl | first | exact LA | exact frz_2) (hq := t88))
  intro e1 qe1
  refine .sk ?_
  refine c129z ?_
  exact .ret (.ex (hf := by first | rfl | first | exact LA | exact frz_2) (hq := t88))
def OD (x : Ins) : AV := if x.op = 8 then .iface 192 (.agg []) else if x.op = 7 then .iface 194 (.agg [.int .i64 x.target]) else if x.op = 6 then .iface 195 (.agg [.int .i64 x.target]) else .iface 196 (.agg [])
variable {x : Ins}
theorem OE (h : x.op = 8) : OD x = .iface 192 (.agg []) := if_pos h
theorem OF (h : x.op = 7) : OD x = .iface 194 (.agg [.int .i64 x.target]) := by rw [OD, if_neg (by omega), if_pos h]
theorem DW (h : x.op = 6) : OD x = .iface 195 (.agg [.int .i64 x.target]) := by rw [OD, if_neg (by omega), if_neg (by omega), if_pos h]
theorem OG (h8 : ¬ x.op = 8) (h7 : ¬ x.op = 7) (h6 : ¬ x.op = 6) : OD x = .iface 196 (.agg []) := by rw [OD, if_neg h8, if_neg h7, if_neg h6]
theorem DX (x : Ins) : CB 78 [.agg [.int .i64 x.op, .int .i64 x.target, .bool x.global, .int .i64 x.e.op, .int .i64 x.e.num, .str x.e.name, .vec x.e.args.length (n5 x.e.args), .bool x.pl.param, .int .i64 x.pl.index, .vec x.pl.at'.length (n5 x.pl.at'), .vec x.ints.length (n5 x.ints), .vec x.v9.length (cO x.v9)]] h (OD x) := by
  refine .bz Tryz.f78 23 ?_
  refine c21z ?_
  refine .z ?_
  refine u2z ?_ ?_
  ·intro e1 qe1
   refine .z ?_
   exact .ret (.ex (hq := t60))
  intro e1 qe1
  refine .z ?_
  refine u2z ?_ ?_
  ·intro e2 qe2
   refine c256z ?_
   exact .ret (.ex (hq := t60))
  intro e2 qe2
  refine .z ?_
  refine u2z ?_ ?_
  ·intro e3 qe3
   refine c256z ?_
   exact .ret (.ex (hq := t60))
  intro e3 qe3
  refine c4z ?_
  refine c14z ?_
  exact .ret (.ex (hq := t60))
theorem c_next8 (hu : WU u) (w : WIt u it) (hpc : pc < (c9 u it).length) (ho : ((c9 u it).getD pc g7).op = 8) : CB 47 [.agg [.vec u.globals.length (j7 u.globals), .vec u.c4.length (g9 u.c4), .vec u.procs.length (l5 u.procs), .int .i64 u.main], .agg [.int .i64 it.proc, .vec it.l7.length (j7 it.l7)], .int .i64 ((pc : Nat) : Int)] h (kS ((c9 u it).getD pc g7) pc) := by
  refine .bz Tryz.f47 16 ?_
  have w1 := w.lo
  have w2 := w.hi
  have hsz : (c9 u it).length ≤ 1664 := u0 hu w
  refine c260z ?_
  refine .ca rfl rfl ((DX ((c9 u it).getD pc g7)).mono fun y k hq => ⟨hq.1.trans (OE ho), hq.2⟩) ?_
  refine .n ?_
  refine c225z ?_
  refine o1.cq rfl (jH rfl rfl U8) hb137 (c_ended pc) ?_
  refine .n ?_
  exact .ret (.ex (hq := by (exact (DQ ho).symm)))
theorem c_next7 (hu : WU u) (w : WIt u it) (hpc : pc < (c9 u it).length) (ho : ((c9 u it).getD pc g7).op = 7) : CB 47 [.agg [.vec u.globals.length (j7 u.globals), .vec u.c4.length (g9 u.c4), .vec u.procs.length (l5 u.procs), .int .i64 u.main], .agg [.int .i64 it.proc, .vec it.l7.length (j7 it.l7)], .int .i64 ((pc : Nat) : Int)] h (kS ((c9 u it).getD pc g7) pc) := by
  refine .bz Tryz.f47 16 ?_
  have w1 := w.lo
  have w2 := w.hi
  have hsz : (c9 u it).length ≤ 1664 := u0 hu w
  refine c260z ?_
  refine .ca rfl rfl ((DX ((c9 u it).getD pc g7)).mono fun y k hq => ⟨hq.1.trans (OF ho), hq.2⟩) ?_
  refine .n ?_
  refine c225z ?_
  refine o1.cq rfl (jH rfl rfl DU) hb138 (c_jump pc _) ?_
  refine .n ?_
  exact .ret (.ex (hq := by (exact (DR ho).symm)))
theorem LC (hu : WU u) (w : WIt u it) (hpc : pc < (c9 u it).length) (ho : ((c9 u it).getD pc g7).op = 6) (ht : ((c9 u it).getD pc g7).target = (pc : Int) + 1) : CB 47 [.agg [.vec u.globals.length (j7 u.globals), .vec u.c4.length (g9 u.c4), .vec u.procs.length (l5 u.procs), .int .i64 u.main], .agg [.int .i64 it.proc, .vec it.l7.length (j7 it.l7)], .int .i64 ((pc : Nat) : Int)] h (kS ((c9 u it).getD pc g7) pc) := by
  refine .bz Tryz.f47 16 ?_
  have w1 := w.lo
  have w2 := w.hi
  have hsz : (c9 u it).length ≤ 1664 := u0 hu w
  refine c260z ?_
  refine .ca rfl rfl ((DX ((c9 u it).getD pc g7)).mono fun y k hq => ⟨hq.1.trans (DW ho), hq.2⟩) ?_
  refine .n ?_
  refine c225z ?_
  refine o1.cq rfl (jH rfl rfl tK) hb139 ((N9 pc _ (by omega)).mono fun y k hq => ⟨hq.1.trans (if_pos ht), hq.2⟩) ?_
  refine .n ?_
  exact .ret (.ex (hq := by (exact (N8 ho ht).symm)))
theorem c_next6 (hu : WU u) (w : WIt u it) (hpc : pc < (c9 u it).length) (ho : ((c9 u it).getD pc g7).op = 6) (ht : ¬ ((c9 u it).getD pc g7).target = (pc : Int) + 1) : CB 47 [.agg [.vec u.globals.length (j7 u.globals), .vec u.c4.length (g9 u.c4), .vec u.procs.length (l5 u.procs), .int .i64 u.main], .agg [.int .i64 it.proc, .vec it.l7.length (j7 it.l7)], .int .i64 ((pc : Nat) : Int)] h (kS ((c9 u it).getD pc g7) pc) := by
  refine .bz Tryz.f47 16 ?_
  have w1 := w.lo
  have w2 := w.hi
  have hsz : (c9 u it).length ≤ 1664 := u0 hu w
  refine c260z ?_
  refine .ca rfl rfl ((DX ((c9 u it).getD pc g7)).mono fun y k hq => ⟨hq.1.trans (DW ho), hq.2⟩) ?_
  refine .n ?_
  refine c225z ?_
  refine o1.cq rfl (jH rfl rfl tK) hb139 ((N9 pc _ (by omega)).mono fun y k hq => ⟨hq.1.trans (if_neg ht), hq.2⟩) ?_
  refine .n ?_
  exact .ret (.ex (hq := by (exact (DS ho ht).symm)))
theorem c_nextn (hu : WU u) (w : WIt u it) (hpc : pc < (c9 u it).length) (h8 : ¬ ((c9 u it).getD pc g7).op = 8) (h7 : ¬ ((c9 u it).getD pc g7).op = 7) (h6 : ¬ ((c9 u it).getD pc g7).op = 6) : CB 47 [.agg [.vec u.globals.length (j7 u.globals), .vec u.c4.length (g9 u.c4), .vec u.procs.length (l5 u.procs), .int .i64 u.main], .agg [.int .i64 it.proc, .vec it.l7.length (j7 it.l7)], .int .i64 ((pc : Nat) : Int)] h (kS ((c9 u it).getD pc g7) pc) := by
  refine .bz Tryz.f47 16 ?_
  have w1 := w.lo
  have w2 := w.hi
  have hsz : (c9 u it).length ≤ 1664 := u0 hu w
  refine c260z ?_
  refine .ca rfl rfl ((DX ((c9 u it).getD pc g7)).mono fun y k hq => ⟨hq.1.trans (OG h8 h7 h6), hq.2⟩) ?_
  refine .n ?_
  refine c225z ?_
  refine o1.cq rfl (jH rfl rfl zX) hb140 (DV pc (by omega)) ?_
  refine .n ?_
  exact .ret (.ex (hq := by (exact (DT h8 h7 h6).symm)))
theorem DY (hu : WU u) (w : WIt u it) (hpc : pc < (c9 u it).length) : CB 47 [.agg [.vec u.globals.length (j7 u.globals), .vec u.c4.length (g9 u.c4), .vec u.procs.length (l5 u.procs), .int .i64 u.main], .agg [.int .i64 it.proc, .vec it.l7.length (j7 it.l7)], .int .i64 ((pc : Nat) : Int)] h (kS ((c9 u it).getD pc g7) pc) := by
  by_cases h8 : ((c9 u it).getD pc g7).op = 8
  · exact c_next8 hu w hpc h8
  by_cases h7 : ((c9 u it).getD pc g7).op = 7
  · exact c_next7 hu w hpc h7
  by_cases h6 : ((c9 u it).getD pc g7).op = 6
  · by_cases ht : ((c9 u it).getD pc g7).target = (pc : Int) + 1
    · exact LC hu w hpc h6 ht
    · exact c_next6 hu w hpc h6 ht
  exact c_nextn hu w hpc h8 h7 h6
variable {t : Int}
theorem kW_1 (h : a < t) : kW [a] t = 1 := by simp [kW, List.takeWhile, h]
theorem kW_0 (h : ¬ a < t) : kW [a] t = 0 := by simp [kW, List.takeWhile, h]
theorem DZ (h : x.op = 6) : AV.vec (iX [(pc : Int) + 1] x.target).length (j7 (iX [(pc : Int) + 1] x.target)) = kS x pc := by
  by_cases h2 : x.target = (pc : Int) + 1
  · rw [N8 h h2, iX, if_pos (by simp [h2])]; rw [h2]; rfl
  · rw [DS h h2, iX, if_neg t99]
    by_cases h3 : (pc : Int) + 1 < x.target
    · rw [kW_1 h3, show min x.target ((pc : Int) + 1) = (pc : Int) + 1 from by omega, show max x.target ((pc : Int) + 1) = x.target from by omega]; rfl
    · rw [kW_0 h3, show min x.target ((pc : Int) + 1) = x.target from by omega, show max x.target ((pc : Int) + 1) = (pc : Int) + 1 from by omega]; rfl
theorem c_with1 {b1 b2 : Blk} : CH 41 [.own (h.length + 3) g 0 1, .int .i64 t] (h ++ [b0, b1, b2, ⟨g, false, 3, 1, [.int .i64 a], 0⟩]) (.vec (iX [a] t).length (j7 (iX [a] t))) (h ++ [b0, b1, b2, ⟨g, false, 3, 1, [.int .i64 a], 1⟩]) := by
  refine CallA.sF (β := h.length + 3) (off := 0) (len := 1) (b := ⟨g, false, 3, 1, [.int .i64 a], 0⟩) (cs := j7 [a]) (args' := [.vec 1 (j7 [a]), .int .i64 t]) t29 rfl (by simp) rfl ⟨.inr ⟨rfl, rfl⟩, .inl rfl, trivial⟩ ?_
  rw [p7]
  exact DH (h := h ++ [b0, b1, b2, ⟨g, false, 3, 1, [.int .i64 a], 1⟩]) [a] t (by simp)
theorem c_nextR (hu : WU u) (w : WIt u it) (hpc : pc < (c9 u it).length) : CB 32 [.agg [.vec u.globals.length (j7 u.globals), .vec u.c4.length (g9 u.c4), .vec u.procs.length (l5 u.procs), .int .i64 u.main], .agg [.int .i64 it.proc, .vec it.l7.length (j7 it.l7)], .int .i64 ((pc : Nat) : Int)] h (kS ((c9 u it).getD pc g7) pc) := by
  refine .bz Tryz.f32 38 ?_
  have w1 := w.lo
  have w2 := w.hi
  have hsz : (c9 u it).length ≤ 1664 := u0 hu w
  refine c32z ?_
  refine .e 8 ?_
  refine c42z ?_
  refine .c8 [2, 7] ?_
  refine c24z ?_
  refine .z ?_
  refine u2z ?_ ?_
  ·intro e1 qe1
   refine .z ?_
   exact .ret (.ex (hf := t172) (hq := t61))
  intro e1 qe1
  refine .z ?_
  refine u2z ?_ ?_
  ·intro e2 qe2
   refine .z ?_
   exact .ret (.ex (hf := t172) (hq := t61))
  intro e2 qe2
  refine .z ?_
  refine u2z ?_ ?_
  ·intro e3 qe3
   refine .c8 [2, 7] ?_
   refine c26z ?_
   refine .ch rfl rfl (c_with1) ?_
   refine .n ?_
   exact .ret (.ex (hf := t172) (hq := t61))
  intro e3 qe3
  refine c4z ?_
  refine .c8 [2] ?_
  refine .z ?_
  exact .ret (.ex (hf := t172) (hq := t61))
end Go.Proofs.YtapdldekgbbomaaGreat
end
section
namespace Go.Un
open Go.Ab
def EA (n : Nat) : AV := .int .i64 (n : Int)
def EB (l : List Nat) : AV := .vec l.length (l.map EA)
variable {i : Nat}
theorem read1N {l : List Nat} (h : i < l.length) : List.take 1 (List.drop i (l.map EA)) = [AV.int .i64 ((l.getD i 0 : Nat) : Int)] := by
 rw [← List.map_drop, ← List.map_take, List.drop_eq_getElem_cons h, List.take_succ_cons, List.take_zero]
 simp [List.getD, h, EA]
theorem i64_63 (n : Int) (h0 : 0 ≤ n) (h1 : n < 2 ^ 63) : IntKind.wrap .i64 n = n := wrap64 (by omega) (by omega)
theorem orN {a b : Nat} (ha : a < 512) (hb : b < 512) : bits .or .i64 (a : Int) (b : Int) = ((a ||| b : Nat) : Int) := (bits_nat .i64 63 (by decide) i64_63 a b (by omega) (by omega)).2
def dhV (k : Nat) (n : Int) (d : Nat) : Nat := if 0 ≤ (d : Int) + n ∧ (d : Int) + n ≤ k then 2 ^ ((d : Int) + n).toNat else 0
def dhN (k : Nat) (n : Int) : List Nat := (List.range (k + 1)).map (dhV k n)
def hasD (s : Nat) (d : Int) : Bool := decide (0 ≤ d ∧ d ≤ 8) && s.testBit d.toNat
theorem testAll : ((List.range 9).all fun m => (List.range 512).all fun s => (bits .and .i64 ((s : Int).fdiv (2 ^ (min m 64))) 1 == 1) == s.testBit m) = true := by kernel_rfl
variable {s : Nat}
theorem testN {m : Nat} (hm : m ≤ 8) (hs : s < 512) : (bits .and .i64 ((s : Int).fdiv (2 ^ (min m 64))) 1 == 1) = s.testBit m := by
 have h1 := List.all_eq_true.1 testAll m (List.mem_range.2 (by omega))
 have h2 := List.all_eq_true.1 h1 s (List.mem_range.2 hs)
 simpa using h2
theorem hasN (hi : i ≤ 8) : hasD s (i : Int) = s.testBit i := by
 have : 0 ≤ (i : Int) ∧ (i : Int) ≤ 8 := by omega
 simp [hasD, this]
def fF (r : List Nat) (s : Nat) : Nat → Nat
 | 0 => 0
 | i + 1 => if s.testBit i then fF r s i ||| r.getD i 0 else fF r s i
def applyN (r : List Nat) (s : Nat) : Nat := fF r s r.length
variable {r : List Nat}
theorem EC (hr : ∀ x ∈ r, x < 512) (i : Nat) : r.getD i 0 < 512 := by
 rw [List.getD_eq_getElem?_getD]
 cases h : r[i]? with
 | none => simp
 | some x => exact hr x (List.mem_of_getElem? h)
theorem or_lt {a b : Nat} (ha : a < 512) (hb : b < 512) : a ||| b < 512 := Nat.or_lt_two_pow (n := 9) ha hb
theorem mE {r : List Nat} (hr : ∀ x ∈ r, x < 512) (s : Nat) : ∀ i, fF r s i < 512
 | 0 => by simp [fF]
 | i + 1 => by
  unfold fF
  split
  ·exact or_lt (mE hr s i) (EC hr i)
  ·exact mE hr s i
theorem applyT (h : s.testBit i = true) : fF r s (i + 1) = fF r s i ||| r.getD i 0 := by rw [fF, if_pos h]
theorem applyF (h : s.testBit i = false) : fF r s (i + 1) = fF r s i := by rw [fF, if_neg (by simp [h])]
def withinN (x m : Int) : Nat := (within x m).toNat
def relV (l : List Int) (k d : Nat) : Nat := if d < l.length then withinN (l.getD d 0) ((2 ^ (k + 1) : Nat) : Int) else 0
def VR (l : List Int) (k : Nat) : List Nat := (List.range (k + 1)).map (relV l k)
theorem LD {n d : Nat} {f : Nat → Nat} (hd : d < n) : ((List.range n).map f).getD d 0 = f d := by simp [List.getD, hd]
theorem rel_len (l : List Int) (k : Nat) : (VR l k).length = k + 1 := by simp [VR]
theorem sh_len (k : Nat) (n : Int) : (dhN k n).length = k + 1 := by simp [dhN]
theorem sh_lt {k : Nat} {n : Int} (hk : k ≤ 8) : ∀ x ∈ dhN k n, x < 512 := by
 intro x hx
 obtain ⟨d, hd, rfl⟩ := List.mem_map.1 hx
 unfold dhV
 split
 ·rename_i h
  have : ((d : Int) + n).toNat ≤ 8 := by omega
  exact Nat.lt_of_le_of_lt (Nat.pow_le_pow_right (by decide) this) (by decide)
 ·decide
theorem map_ext {n : Nat} {f g : Nat → Nat} (h : ∀ d, d < n → f d = g d) : (List.range n).map f = (List.range n).map g := dY fun d hd => h d (List.mem_range.1 hd)
theorem qM (l : List Int) (k : Nat) : VR l k = (List.range (VR l k).length).map fun d => (VR l k).getD d 0 := by
 rw [rel_len]
 exact map_ext fun d hd => by rw [VR, LD hd]
section
variable (u : Un) (c : Clo) (m : Nat)
end
section
variable {u : Un} {c : Clo} {m : Nat}
end
section
variable (u : Un) (c : Clo) (m : Nat)
end
section
variable {u : Un} {c : Clo} {m : Nat}
end
end Go.Un
end
section
namespace Go.Proofs.YtapdldekgbbomaaGreat
open Go.Ab Go.Un
theorem cellN_I (l : List Nat) : l.map EA = j7 (l.map fun n : Nat => (n : Int)) := by simp [j7, EA, Function.comp_def]
theorem vecN_I (l : List Nat) : EB l = .vec (l.map fun n : Nat => (n : Int)).length (j7 (l.map fun n : Nat => (n : Int))) := by simp [EB, cellN_I]
theorem vec_sh (k : Nat) (n : Int) : AV.vec (shI k n).length (j7 (shI k n)) = EB (dhN k n) := by
  have : shI k n = (dhN k n).map fun n : Nat => (n : Int) := by
    unfold shI dhN
    rw [List.map_map]
    refine List.map_congr_left fun d _ => ?_
    unfold shV dhV
    simp only [Function.comp_apply]
    split <;> simp
  rw [vecN_I, this]
attribute [local go_sem] rd EB n6 Int.natCast_nonneg Int.natCast_inj read1N testN hasN orN List.length_set List.length_replicate Int.toNat_natCast_add_one iB List.length_map wrap64 oR max2 iD
variable {h : c6}
theorem c_has8 (s : Nat) (d : Int) (hs : s < 512) : CB 80 [.int .i64 ((s : Nat) : Int), .int .i64 d] h (.bool (hasD s d)) := by
  refine .bz Tryz.f80 18 ?_
  refine .z ?_
  refine c20z ?_
  refine .spl 7 rfl rfl (fun e1 => ?_) (fun e1 => ?_)
  ·try simp only [e1]
   have qe1 := fact e1
   refine .k 4 [(2, 7)] ?_
   refine .spl 11 rfl rfl (fun e2 => ?_) (fun e2 => ?_)
   ·try simp only [e2]
    have qe2 := fact e2
    refine .m [(6, 11)] ?_
    refine c2z ?_
    exact ⟨[], _, (List.append_nil _).symm, t44, t68⟩
   try simp only [e2]
   have qe2 := fact e2
   refine .m [(6, 11)] ?_
   refine c2z ?_
   exact ⟨[], _, (List.append_nil _).symm, t44, t68⟩
  try simp only [e1]
  have qe1 := fact e1
  refine .k 8 [(2, 7), (6, 11)] ?_
  refine .m [(6, 11)] ?_
  refine c2z ?_
  exact ⟨[], _, (List.append_nil _).symm, t44, t68⟩
theorem c_appM (r : List Nat) (s : Nat) (hr : ∀ x ∈ r, x < 512) (hs : s < 512) (hl : r.length ≤ 9) : CB 81 [EB r, .int .i64 ((s : Nat) : Int)] h (.int .i64 ((applyN r s : Nat) : Int)) := by
  refine .bz Tryz.f81 25 ?_
  refine c73z ?_
  refine .fZ (fun m st => ∃ (i : Nat), (m = r.length - i ∧ i ≤ r.length) ∧ st = ⟨mkS 25 [(1, AV.int .i64 ((s : Nat) : Int)), (5, AV.int .i64 ((fF r s i : Nat) : Int)), (8, EB r), (9, AV.int .i64 ((r.length : Nat) : Int)), (10, AV.int .i64 ((i : Nat) : Int))], h⟩) _ (.v ⟨0, ⟨rfl, by omega⟩, rfl⟩ (hs := t82)) ?_
  rintro m sl h' ⟨i, ⟨hm, hi⟩, hst⟩
  obtain ⟨rfl, rfl⟩ := St.mk.inj hst
  have hacc := mE hr s i; have hgi := EC hr i
  refine c12z ?_
  refine u2z ?_ ?_
  ·intro e1 qe1
   refine c3z ?_
   refine c176z ?_
   refine u2z ?_ ?_
   ·intro e2 qe2
    refine .c8 [1, 5, 7, 8, 9, 10] ?_
    refine c62z ?_
    exact ⟨_, by omega, .v ⟨(i + 1), ⟨rfl, by omega⟩, rfl⟩ (hs := t82)⟩
   intro e2 qe2
   refine c4z ?_
   refine .c8 [1, 5, 8, 9, 10] ?_
   refine .rz ?_
   exact ⟨_, by omega, .v ⟨(i + 1), ⟨rfl, by omega⟩, rfl⟩ (hs := t82)⟩
  intro e1 qe1
  refine c178z ?_
  exact ⟨[], _, (List.append_nil _).symm, t44, by (show AV.int .i64 _ = _; rw [applyN, show i = r.length from by omega])⟩
theorem LF (r : List Nat) (s : Nat) (hr : ∀ x ∈ r, x < 512) (hs : s < 512) (hl : r.length ≤ 9) : CB 49 [EB r, .int .i64 ((s : Nat) : Int)] h (.int .i64 ((applyN r s : Nat) : Int)) := by
  refine .bz Tryz.f49 8 ?_
  refine c223z ?_
  refine .ca rfl rfl (c_appM _ _ hr hs hl) ?_
  refine c161z ?_
  exact ⟨[], _, (List.append_nil _).symm, t44, by rfl⟩
end Go.Proofs.YtapdldekgbbomaaGreat
end
section
namespace Go.Un
open Go.Ab
def encPt (p : Int × Int) : List AV := [.int .i64 p.1, .int .i64 p.2]
def g6 (l : List (Int × Int)) : List AV := l.flatMap encPt
theorem p8 (l : List (Int × Int)) : (g6 l).length = 2 * l.length := bV _ 2 (fun _ => rfl) l
variable {i : Nat}
theorem iY {l : List (Int × Int)} (h : i < l.length) : List.take 2 (List.drop (i * 2) (g6 l)) = [.int .i64 (l.getD i (0, 0)).1, .int .i64 (l.getD i (0, 0)).2] := aW encPt 2 (fun _ => rfl) (0, 0) h
structure Cf where
 d : Int
 st : List (Int × Int)
deriving DecidableEq
def aR : Cf := ⟨0, []⟩
def uA (x : Cf) : List AV := [.int .i64 x.d, .vec x.st.length (g6 x.st)]
def j0 (l : List Cf) : List AV := l.flatMap uA
theorem aD (l : List Cf) : (j0 l).length = 2 * l.length := bV _ 2 (fun _ => rfl) l
theorem kE {l : List Cf} (h : i < l.length) : List.take 2 (List.drop (i * 2) (j0 l)) = [.int .i64 (l.getD i aR).d, .vec (l.getD i aR).st.length (g6 (l.getD i aR).st)] := aW uA 2 (fun _ => rfl) aR h
def ptI (c : Clo) (p : Int × Int) : w4 := c.insts.getD p.1.toNat c7
def ptX (u : Un) (c : Clo) (p : Int × Int) : Ins := (c9 u (ptI c p)).getD p.2.toNat g7
def ptC (c : Clo) (p : Int × Int) : Int := (c.calls.getD p.1.toNat []).getD p.2.toNat 0
def eE (u : Un) (c : Clo) (m : Nat) (d : Int) (b : List (Int × Int)) (p : Int × Int) : List Cf :=
 if (ptX u c p).op = 8 then [⟨d, b⟩]
 else if (ptX u c p).op = 2 then [⟨d, b ++ [(p.1, p.2 + 1), (ptC c p, 0)]⟩]
 else if 0 ≤ d + chI (ptI c p) (ptX u c p) m ∧ d + chI (ptI c p) (ptX u c p) m ≤ (gS (u.c4.getD m u5) : Int) then (cA (ptX u c p) p.2.toNat).map fun k => ⟨d + chI (ptI c p) (ptX u c p) m, b ++ [(p.1, k)]⟩ else []
def o4 (u : Un) (c : Clo) (m : Nat) (x : Cf) : List Cf := match x.st.getLast? with
 | none => []
 | some p => eE u c m x.d x.st.dropLast p
variable {u : Un} {c : Clo} {m : Nat} {d : Int}
theorem U9 : o4 u c m ⟨d, []⟩ = [] := rfl
variable {b : List (Int × Int)} {p : Int × Int}
theorem mY : o4 u c m ⟨d, b ++ [p]⟩ = eE u c m d b p := by
 simp [o4]
structure WPt (u : Un) (c : Clo) (p : Int × Int) : Prop where
 i0 : 0 ≤ p.1
 i1 : p.1 < c.insts.length
 p0 : 0 ≤ p.2
 p1 : p.2 < (c9 u (ptI c p)).length
structure WCf (u : Un) (c : Clo) (m n : Nat) (x : Cf) : Prop where
 d0 : 0 ≤ x.d
 d1 : x.d ≤ (gS (u.c4.getD m u5) : Int)
 pt : ∀ p ∈ x.st, WPt u c p
 len : x.st.length ≤ n
variable {n : Nat} {x : Cf}
theorem WCf.mono {k : Nat} (h : WCf u c m n x) (hk : n ≤ k) : WCf u c m k x := ⟨h.d0, h.d1, h.pt, Nat.le_trans h.len hk⟩
theorem WPt.nat (h : WPt u c p) : ∃ i pc : Nat, p = ((i : Int), (pc : Int)) ∧ i < c.insts.length ∧ pc < (c9 u (c.insts.getD i c7)).length := by
 obtain ⟨a, b⟩ := p
 obtain ⟨h1, h2, h3, h4⟩ := h
 obtain ⟨i, rfl⟩ := Int.eq_ofNat_of_zero_le h1
 obtain ⟨pc, rfl⟩ := Int.eq_ofNat_of_zero_le h3
 simp only [ptI, Int.toNat_natCast] at h4
 exact ⟨i, pc, rfl, t99, by simpa using h4⟩
variable {pc : Nat}
theorem WPt.of (h1 : i < c.insts.length) (h2 : pc < (c9 u (c.insts.getD i c7)).length) : WPt u c ((i : Int), (pc : Int)) := ⟨by simp, t123, by simp, by simpa [ptI] using h2⟩
theorem WCf.snoc (h : WCf u c m n x) (hn : 0 < x.st.length) : ∃ (b : List (Int × Int)) (i pc : Nat), x = ⟨x.d, b ++ [((i : Int), (pc : Int))]⟩ ∧ i < c.insts.length ∧ pc < (c9 u (c.insts.getD i c7)).length ∧ b.length + 1 = x.st.length := by
 obtain ⟨d, st⟩ := x
 have hne : st ≠ [] := fun e => by subst e; simp at hn
 obtain ⟨i, pc, he, h1, h2⟩ := (h.pt (st.getLast hne) (List.getLast_mem hne)).nat
 refine ⟨st.dropLast, i, pc, ?_, h1, h2, ?_⟩
 ·rw [← he, List.dropLast_concat_getLast]
 ·simp only [List.length_dropLast]
  simp only at hn
  omega
theorem op_next (hu : WU u) {it : w4} (w : WIt u it) (hpc : pc < (c9 u it).length) (h8 : ¬ ((c9 u it).getD pc g7).op = 8) : pc + 1 < (c9 u it).length := by
 obtain ⟨_, h2, _⟩ := lF hu w
 by_cases e : pc = (c9 u it).length - 1
 ·rw [← e] at h2; exact absurd h2 h8
 ·omega
theorem LG (hu : WU u) (wc : WC u c) (hd0 : 0 ≤ d) (hd1 : d ≤ (gS (u.c4.getD m u5) : Int)) (hb : ∀ p ∈ b, WPt u c p) (hn : b.length + 1 ≤ n) (hi : i < c.insts.length) (hpc : pc < (c9 u (c.insts.getD i c7)).length) :
  ∀ y ∈ eE u c m d b ((i : Int), (pc : Int)), WCf u c m (n + 1) y := by
 have w : WIt u (c.insts.getD i c7) := wc.wi _ (l3 hi)
 have eX : ptX u c ((i : Int), (pc : Int)) = (c9 u (c.insts.getD i c7)).getD pc g7 := rfl
 have eI : ptI c ((i : Int), (pc : Int)) = c.insts.getD i c7 := rfl
 have eC : ptC c ((i : Int), (pc : Int)) = (c.calls.getD i []).getD pc 0 := rfl
 intro y hy
 unfold eE at hy
 rw [eX, eI, eC] at hy
 simp only [Int.toNat_natCast] at hy
 split at hy
 ·replace hy := s6z hy
  subst hy
  exact ⟨hd0, hd1, hb, t84⟩
 ·rename_i h8
  split at hy
  ·rename_i h2
   replace hy := s6z hy
   subst hy
   have hnx := op_next hu w hpc h8
   obtain ⟨c1, c2, c3⟩ := (wc.call i hi pc hpc).1 (.inl h2)
   refine ⟨hd0, hd1, fun p hp => ?_, t80⟩
   simp only [List.mem_append, List.mem_cons, List.not_mem_nil, or_false] at hp
   rcases hp with hp | rfl | rfl
   ·exact hb p hp
   ·have := WPt.of (u := u) hi hnx
    simpa using this
   ·have w2 : WIt u (c.insts.getD ((c.calls.getD i []).getD pc 0).toNat c7) := wc.wi _ (l3 (by omega))
    exact ⟨c1, c2, Int.le_refl _, by have := (lF hu w2).1; show (0 : Int) < ((c9 u (c.insts.getD ((c.calls.getD i []).getD pc 0).toNat c7)).length : Int); omega⟩
  ·split at hy
   ·rename_i hr
    obtain ⟨k, hk, rfl⟩ := List.mem_map.1 hy
    refine ⟨hr.1, hr.2, fun p hp => ?_, t80⟩
    simp only [List.mem_append, List.mem_cons, List.not_mem_nil, or_false] at hp
    rcases hp with hp | rfl
    ·exact hb p hp
    ·obtain ⟨j, hj, rfl⟩ := List.mem_iff_getElem.1 hk
     have := next_in hu w hpc j hj
     rw [List.getD_eq_getElem?_getD, List.getElem?_eq_getElem hj, Option.getD_some] at this
     exact ⟨by simp, by simpa using hi, this.1, this.2⟩
   ·simp at hy
theorem oP (hu : WU u) (wc : WC u c) (h : WCf u c m n x) : ∀ y ∈ o4 u c m x, WCf u c m (n + 1) y := by
 by_cases hn : 0 < x.st.length
 ·obtain ⟨b, i, pc, he, hi, hpc, hl⟩ := h.snoc hn
  have hb : ∀ p ∈ b, WPt u c p := fun p hp => h.pt p (by rw [he]; exact List.mem_append.2 (.inl hp))
  have h1 := h.d0; have h2 := h.d1; have h3 := h.len
  rw [he, mY]
  exact LG hu wc h1 h2 hb (by omega) hi hpc
 ·obtain ⟨d, st⟩ := x
  have : st = [] := List.length_eq_zero_iff.1 (by simp only at hn; omega)
  subst this
  intro y hy
  simp [U9] at hy
theorem LH (hu : WU u) (wc : WC u c) {r : Int} (hr : r ∈ c.roots) : WCf u c m 1 ⟨0, [(r, 0)]⟩ := by
 obtain ⟨h0, h1⟩ := wc.rr r hr
 have w : WIt u (c.insts.getD r.toNat c7) := wc.wi _ (l3 (by omega))
 refine ⟨Int.le_refl _, by simp, fun p hp => ?_, by simp⟩
 replace hp := s6z hp
 subst hp
 exact ⟨h0, h1, Int.le_refl _, by have := (lF hu w).1; show (0 : Int) < ((c9 u (c.insts.getD r.toNat c7)).length : Int); omega⟩
theorem ED : (eE u c m d b p).length ≤ 2 := by
 unfold eE
 split
 ·simp
 ·split
  ·simp
  ·split
   ·rw [List.length_map]; exact eN
   ·simp
theorem pP : (o4 u c m x).length ≤ 2 := by
 unfold o4
 split
 ·simp
 ·exact ED
end Go.Un
end
section
namespace Go.Proofs.YtapdldekgbbomaaGreat
open Go.Ab Go.Un
attribute [local go_sem] n6 aB s3 aI o2 Int.natCast_nonneg Int.natCast_inj List.length_map bT hB_1 hB_2 hB_5 RH RJ RK RL eL xB eR E1
variable {c : Core} {e : Frame} {left I : Int}
theorem OH {l : c6} (hc : OkC c) (hI : OkI c.L I) (hL : c.L.length < 4611686018427387904) (vars : List BA) (hN : vars.length < 1000) (f : Fu) (hp : f.params.length ≤ 2) : CH 60 [.ptr 5 0 0, .agg (dI f), .vec vars.length (z7 vars)] (hB c e I left ++ l) (.agg (J9 (s7 c f.params vars I).1)) (hB c e (s7 c f.params vars I).2 left ++ l) := c_ref (e := ⟨e.b0, e.b1, e.b2, e.z, e.m, e.g, e.rest ++ l⟩) hc hI hL vars hN f hp
variable {n : Nat}
theorem O0 {c : Core} {e : Frame} {I left : Int} {fb rb : Blk} {g : Nat} {zs : List AV} {x1 x2 x3 x4 x5 x6 x7 : AV} (hz : zs.length = n * 7) (hn : n < 1000) :
    j5 cfg 178 (hB c e I left ++ [fb, rb, n9 178 7 g zs, ⟨0, false, 178, 7, [x1, x2, x3, x4, x5, x6, x7], 0⟩]) (.own (e.n + 2) g 0 n) (.own (e.n + 3) 0 0 1) = some (.own (e.n + 2) (g + 1) 0 (n + 1), hB c e I left ++ [fb, rb, n9 178 7 (g + 1) (zs ++ [x1, x2, x3, x4, x5, x6, x7]), ⟨0, false, 178, 7, [x1, x2, x3, x4, x5, x6, x7], 0⟩]) := by
  have hb : (hB c e I left ++ [fb, rb, n9 178 7 g zs, ⟨0, false, 178, 7, [x1, x2, x3, x4, x5, x6, x7], 0⟩])[e.n + 2]? = some (n9 178 7 g zs) := eL
  rw [v7 (C := cfg) (K := 7) (m := 1) (new := [x1, x2, x3, x4, x5, x6, x7]) hb rfl (by omega) hz rfl (by omega) t130 rfl (by decide) (by omega), eR]
  rfl
theorem EE {c : Core} {e : Frame} {I left : Int} {fb rb : Blk} {g : Nat} {zs : List AV} {x1 x2 x3 : AV} {x : Ex} (hz : zs.length = n * 7) (hn : n < 1000) :
    j5 cfg 178 (hB c e I left ++ [fb, rb, n9 178 7 g zs, ⟨0, false, 178, 7, x1 :: x2 :: x3 :: s6 x, 0⟩]) (.own (e.n + 2) g 0 n) (.own (e.n + 3) 0 0 1) = some (.own (e.n + 2) (g + 1) 0 (n + 1), hB c e I left ++ [fb, rb, n9 178 7 (g + 1) (zs ++ x1 :: x2 :: x3 :: s6 x), ⟨0, false, 178, 7, x1 :: x2 :: x3 :: s6 x, 0⟩]) := by
  rw [bD]
  exact O0 hz hn
variable {ps l : List Pm} {vars : List BA} {j : Nat} {J : Int}
theorem args_t (h : j < l.length) (hm : (l.getD j gN).mu = true) : w7 c ps vars (l.drop j) J = (⟨true, (s7 c ps vars J).1, l6⟩ :: (w7 c ps vars (l.drop (j + 1)) (s7 c ps vars J).2).1, (w7 c ps vars (l.drop (j + 1)) (s7 c ps vars J).2).2) := by
  rw [List.drop_eq_getElem_cons h, w7, if_pos (by simpa [List.getD, h] using hm)]
theorem args_f (h : j < l.length) (hm : (l.getD j gN).mu = false) : w7 c ps vars (l.drop j) J = (⟨false, n7, (j4 c vars J).1⟩ :: (w7 c ps vars (l.drop (j + 1)) (j4 c vars J).2).1, (w7 c ps vars (l.drop (j + 1)) (j4 c vars J).2).2) := by
  rw [List.drop_eq_getElem_cons h, w7, if_neg (by rw [show l[j].mu = (l.getD j gN).mu from by simp [List.getD, h], hm]; decide)]
theorem uU {l : List Ar} {a : Ar} : aY (l ++ [a]) = aY l ++ V6 a := by simp [aY]
theorem refs_A {l : List Ar} : ∀ x ∈ aY l, Refs n x := by
  intro x hx
  obtain ⟨a, _, hx⟩ := List.mem_flatMap.1 hx
  simp only [V6, bD, List.mem_cons, List.not_mem_nil, or_false] at hx
  rcases hx with rfl | rfl | rfl | rfl | rfl | rfl | rfl
  · exact .bool _
  · exact .str _
  · exact .vec _ _
  · exact .int _ _
  · exact .int _ _
  · exact .str _
  · exact .vec _ _
theorem zZ {J' : Int} {xs : List Ar} {a : Ar} (h : w7 c ps vars l I = (xs ++ (w7 c ps vars (l.drop j) J).1, (w7 c ps vars (l.drop j) J).2)) (hs : w7 c ps vars (l.drop j) J = (a :: (w7 c ps vars (l.drop (j + 1)) J').1, (w7 c ps vars (l.drop (j + 1)) J').2)) : w7 c ps vars l I = ((xs ++ [a]) ++ (w7 c ps vars (l.drop (j + 1)) J').1, (w7 c ps vars (l.drop (j + 1)) J').2) := by
  rw [h, hs]
  simp only [List.append_assoc, List.cons_append, List.nil_append]
section
attribute [local go_sem] fA wrap64 dI J9 O0 EE kB zF oR
theorem c_args (hc : OkC c) (hI : OkI c.L I) (hL : c.L.length < 4611686018427387904) (vars : List BA) (hN : vars.length < 1000) (f g : Fu) (hp : f.params.length ≤ 2) (hq : g.params.length ≤ 2) : CH 62 [.ptr 5 0 0, .agg (dI f), .agg (dI g), .vec vars.length (z7 vars)] (hB c e I left) (.vec (w7 c f.params vars g.params I).1.length (aY (w7 c f.params vars g.params I).1)) (hB c e (w7 c f.params vars g.params I).2 left) := by
  refine .wz Tryz.f62 40 ?_
  refine c73z ?_
  refine g5.sK 9 rfl ?_
  refine .aG (fun m st => ∃ (j : Nat) (J : Int) (xs : List Ar), (m = g.params.length - j ∧ (j ≤ g.params.length ∧ OkI c.L J ∧ xs.length = j ∧ w7 c f.params vars g.params I = (xs ++ (w7 c f.params vars (g.params.drop j) J).1, (w7 c f.params vars (g.params.drop j) J).2))) ∧ st = ⟨mkS 40 [(0, AV.ptr 5 0 0), (3, AV.vec vars.length (z7 vars)), (5, AV.ptr e.n 0 0), (6, AV.ptr (e.n + 1) 0 0), (9, AV.own (e.n + 2) j 0 j), (10, AV.int .i64 ((j : Nat) : Int))], hB c e J left ++ [⟨0, false, 106, 3, [.str f.name, .vec f.params.length (u7 f.params), .vec f.body.len (o9 f.body)], 0⟩, ⟨0, false, 106, 3, [.str g.name, .vec g.params.length (u7 g.params), .vec g.body.len (o9 g.body)], 0⟩, n9 178 7 j (aY xs)]⟩) (.v ⟨0, I, [], ⟨rfl, ⟨by omega, hI, rfl, rfl⟩⟩, rfl⟩ (hs := t34) (hr := t1)) ?_
  rintro m sl h' ⟨j, J, xs, ⟨hm, ⟨hj, hJ, hal, hA⟩⟩, hst⟩
  obtain ⟨rfl, rfl⟩ := St.mk.inj hst; clear hst
  have hz7 : (aY xs).length = j * 7 := by rw [bZ, hal]; omega
  refine c0z ?_
  refine u2z ?_ ?_
  ·intro e1 qe1
   refine c201z ?_
   refine u2z ?_ ?_
   ·intro e2 qe2
    refine .c8 [0, 3, 5, 6, 9, 10] ?_
    refine c189z ?_
    refine .ch rfl rfl (OH hc hJ hL vars hN f hp) ?_
    refine c30z ?_
    refine .c8 [0, 3, 5, 6, 9, 10] ?_
    refine g5.nilsO (β := e.n + 2) (aY (xs ++ [(⟨true, (s7 c f.params vars J).1, l6⟩ : Ar)])) t62 (by rw [uU]; exact (mT.refl _).app JM) ?_
    simp only [eR, List.set_cons_succ, List.set_cons_zero]
    refine .rz ?_
    exact ⟨_, by omega, .v ⟨(j + 1), (s7 c f.params vars J).2, (xs ++ [(⟨true, (s7 c f.params vars J).1, l6⟩ : Ar)]), ⟨rfl, ⟨by omega, (oB hc hJ).2, by simp [hal], zZ hA (args_t (by omega) (by assumption))⟩⟩, rfl⟩ (he := t81) (hl := t26) (hk := t160) (hs := t34) (hr := t1)⟩
   intro e2 qe2
   refine .c8 [0, 3, 5, 6, 9, 10] ?_
   refine .r ?_
   refine .e 3 ?_
   refine .ch rfl rfl (M3 hc hJ hL vars hN) ?_
   refine c30z ?_
   refine g5.nilsO (β := e.n + 2) (aY (xs ++ [(⟨false, n7, (j4 c vars J).1⟩ : Ar)])) t62 (by rw [uU]; exact (mT.refl _).app CG) ?_
   simp only [eR, List.set_cons_succ, List.set_cons_zero]
   refine .rz ?_
   exact ⟨_, by omega, .v ⟨(j + 1), (j4 c vars J).2, (xs ++ [(⟨false, n7, (j4 c vars J).1⟩ : Ar)]), ⟨rfl, ⟨by omega, (iK hJ).2, by simp [hal], zZ hA (args_f (by omega) (by assumption))⟩⟩, rfl⟩ (he := t81) (hl := t26) (hk := t160) (hs := t34) (hr := t1)⟩
  intro e1 qe1
  refine c8z ?_
  refine .c8 [9] ?_
  refine c34z ?_
  exact ⟨hB _ _ _ _, _, .vec xs.length (aY xs), rfl, t66, gD, by (show gV _ (hB c e J left ++ _) 6 (.own (e.n + 2) j 0 j) = _; rw [bT, bW, if_neg (by omega), hal]; exact eG eL (by omega) (by rw [bZ, hal]; omega) (by omega) frz_A), by refine ⟨?_, ?_⟩ <;> (rw [hA, List.drop_of_length_le (by omega)]; simp only [w7, List.append_nil])⟩
end
end Go.Proofs.YtapdldekgbbomaaGreat
end
section
namespace Go.Proofs.YtapdldekgbbomaaGreat
open Go.Ab Go.Un
theorem c_argsA {c : Core} {e : Frame} {left I : Int} {l : c6} (hc : OkC c) (hI : OkI c.L I) (hL : c.L.length < 4611686018427387904) (vars : List BA) (hN : vars.length < 1000) (f g : Fu) (hp : f.params.length ≤ 2) (hq : g.params.length ≤ 2) : CH 62 [.ptr 5 0 0, .agg (dI f), .agg (dI g), .vec vars.length (z7 vars)] (hB c e I left ++ l) (.vec (w7 c f.params vars g.params I).1.length (aY (w7 c f.params vars g.params I).1)) (hB c e (w7 c f.params vars g.params I).2 left ++ l) := c_args (e := ⟨e.b0, e.b1, e.b2, e.z, e.m, e.g, e.rest ++ l⟩) hc hI hL vars hN f g hp hq
theorem sealC_n {l : List BA} : p6 nL (z7 l) = some (z7 l) := by
 induction l with
 | nil => rfl
 | cons x l ih =>
  have e : nL (.str x) = some (.str x) := rfl
  simp only [z7, List.map_cons, p6, e] at ih ⊢
  rw [ih]
variable {β : Nat}
theorem LJ {H : c6} {b : Blk} (h : H[β]? = some b) : H.set β b = H := by
 obtain ⟨h1, h2⟩ := List.getElem?_eq_some_iff.1 h
 rw [← h2]
 exact List.set_getElem_self h1
variable {g : Nat}
theorem C3 {f : FuncId} {args args' : List AV} {H : c6} {Q : AV → c6 → Prop} {vs : List BA} (hb : H[β]? = some ⟨g, false, 9, 1, z7 vs, vs.length⟩) (ha : Q8 β g 0 vs.length (z7 vs) args' args) (r : CallA Tryz.prog cfg f args' H Q) : CallA Tryz.prog cfg f args H Q := by
 have e : H.set β (cU ⟨g, false, 9, 1, z7 vs, vs.length⟩ (0 + vs.length * 1)) = H := by
  rw [show cU ⟨g, false, 9, 1, z7 vs, vs.length⟩ (0 + vs.length * 1) = ⟨g, false, 9, 1, z7 vs, vs.length⟩ from by simp [cU]]
  exact LJ hb
 refine CallA.sF (β := β) (off := 0) (len := vs.length) (cs := z7 vs) hb rfl (by simp [aB]) ?_ ha (by rw [e]; exact r)
 simp only [List.drop_zero, Nat.mul_one]
 rw [List.take_of_length_le t153]
 exact sealC_n
theorem raise {c : Code} {sl : List AV} {h : c6} {Q : Exit → St → Prop} {k : Nat} {b : Blk} (hb : h[β]? = some b) (hk : b.frz ≤ k) (r : g5 Tryz.prog cfg c ⟨sl, h.set β ⟨b.gen, b.bR, b.elem, b.esz, b.cells, k⟩⟩ Q) : g5 Tryz.prog cfg c ⟨sl, h⟩ Q := by
 refine g5.step _ (fun B φ w i => ?_) r
 have := nO k i hb
 have e : cU b k = ⟨b.gen, b.bR, b.elem, b.esz, b.cells, k⟩ := by
  simp only [cU, Nat.max_eq_right hk]
 rw [e] at this
 exact this
section
variable {c : Core} {e : Frame} {I left : Int} {l : c6} {fb : Blk} {gv : Nat} {vs : List BA}
theorem hB_v : (hB c e I left ++ (fb :: ⟨gv, false, 9, 1, z7 vs, vs.length⟩ :: l))[e.n + 1]? = some ⟨gv, false, 9, 1, z7 vs, vs.length⟩ := eL
theorem mF (hc : OkC c) (hI : OkI c.L I) (hL : c.L.length < 4611686018427387904) (hN : vs.length < 1000) : CH 61 [.ptr 5 0 0, .own (e.n + 1) gv 0 vs.length] (hB c e I left ++ (fb :: ⟨gv, false, 9, 1, z7 vs, vs.length⟩ :: l)) (.agg (s6 (j4 c vs I).1)) (hB c e (j4 c vs I).2 left ++ (fb :: ⟨gv, false, 9, 1, z7 vs, vs.length⟩ :: l)) :=
 C3 (args' := [.ptr 5 0 0, .vec vs.length (z7 vs)]) hB_v ⟨.inl rfl, .inr ⟨rfl, rfl⟩, trivial⟩ (M3 hc hI hL vs hN)
theorem O1 (hc : OkC c) (hI : OkI c.L I) (hL : c.L.length < 4611686018427387904) (hN : vs.length < 1000) (f : Fu) (hp : f.params.length ≤ 2) : CH 60 [.ptr 5 0 0, .agg (dI f), .own (e.n + 1) gv 0 vs.length] (hB c e I left ++ (fb :: ⟨gv, false, 9, 1, z7 vs, vs.length⟩ :: l)) (.agg (J9 (s7 c f.params vs I).1)) (hB c e (s7 c f.params vs I).2 left ++ (fb :: ⟨gv, false, 9, 1, z7 vs, vs.length⟩ :: l)) :=
 C3 (args' := [.ptr 5 0 0, .agg (dI f), .vec vs.length (z7 vs)]) hB_v ⟨.inl rfl, .inl rfl, .inr ⟨rfl, rfl⟩, trivial⟩ (OH hc hI hL vs hN f hp)
theorem EF (hc : OkC c) (hI : OkI c.L I) (hL : c.L.length < 4611686018427387904) (hN : vs.length < 1000) (f g : Fu) (hp : f.params.length ≤ 2) (hq : g.params.length ≤ 2) : CH 62 [.ptr 5 0 0, .agg (dI f), .agg (dI g), .own (e.n + 1) gv 0 vs.length] (hB c e I left ++ (fb :: ⟨gv, false, 9, 1, z7 vs, vs.length⟩ :: l)) (.vec (w7 c f.params vs g.params I).1.length (aY (w7 c f.params vs g.params I).1)) (hB c e (w7 c f.params vs g.params I).2 left ++ (fb :: ⟨gv, false, 9, 1, z7 vs, vs.length⟩ :: l)) :=
 C3 (args' := [.ptr 5 0 0, .agg (dI f), .agg (dI g), .vec vs.length (z7 vs)]) hB_v ⟨.inl rfl, .inl rfl, .inl rfl, .inr ⟨rfl, rfl⟩, trivial⟩ (c_argsA hc hI hL vs hN f g hp hq)
def A0 (c : Core) (f : Fu) (fu : Nat) (left : Int) : Prop := ∀ {e : Frame} (I l' : Int) (vs all : List BA) (d m : Int), OkI c.L I → 0 ≤ l' → l' < left → 0 ≤ d → d ≤ 100 → 0 ≤ m → m ≤ 100 → (∀ x ∈ vs, x ∈ all) → Fr l'.toNat all → vs.length + l'.toNat ≤ 500 →
 CallA Tryz.prog cfg 34 [.ptr 5 0 0, .agg (dI f), .vec vs.length (z7 vs), .int .i64 d, .int .i64 m] (hB c e I l') (fun y' h' => y' = .vec (g8 c f.params fu vs d m I l').1.len (o9 (g8 c f.params fu vs d m I l').1) ∧ h' = hB c e (g8 c f.params fu vs d m I l').2.1 (g8 c f.params fu vs d m I l').2.2)
theorem A0.V {f : Fu} {fu : Nat} {left0 : Int} (h : A0 c f fu left0) (l' : Int) (all : List BA) (d m : Int) (hI : OkI c.L I) (h1 : 0 ≤ l') (h2 : l' < left0) (h3 : 0 ≤ d) (h4 : d ≤ 100) (h5 : 0 ≤ m) (h6 : m ≤ 100) (h7 : ∀ x ∈ vs, x ∈ all) (h8 : Fr l'.toNat all) (h9 : vs.length + l'.toNat ≤ 500) :
  CallA Tryz.prog cfg 34 [.ptr 5 0 0, .agg (dI f), .own (e.n + 1) gv 0 vs.length, .int .i64 d, .int .i64 m] (hB c e I l' ++ (fb :: ⟨gv, false, 9, 1, z7 vs, vs.length⟩ :: l)) (fun y' h' => y' = .vec (g8 c f.params fu vs d m I l').1.len (o9 (g8 c f.params fu vs d m I l').1) ∧ h' = hB c e (g8 c f.params fu vs d m I l').2.1 (g8 c f.params fu vs d m I l').2.2 ++ (fb :: ⟨gv, false, 9, 1, z7 vs, vs.length⟩ :: l)) :=
 C3 (args' := [.ptr 5 0 0, .agg (dI f), .vec vs.length (z7 vs), .int .i64 d, .int .i64 m]) hB_v ⟨.inl rfl, .inl rfl, .inr ⟨rfl, rfl⟩, .inl rfl, .inl rfl, trivial⟩ (h (e := ⟨e.b0, e.b1, e.b2, e.z, e.m, e.g, e.rest ++ (fb :: ⟨gv, false, 9, 1, z7 vs, vs.length⟩ :: l)⟩) I l' vs all d m hI h1 h2 h3 h4 h5 h6 h7 h8 h9)
def gO (g n : Nat) : Nat := if n = 0 then g else g + 1
theorem LK (hn : vs.length < 1000) : j5 cfg 9 (hB c e I left ++ [fb, ⟨0, false, 9, 1, [], 0⟩]) (.own (e.n + 1) 0 0 0) (.vec vs.length (z7 vs)) = some (.own (e.n + 1) (gO 0 vs.length) 0 vs.length, hB c e I left ++ [fb, ⟨gO 0 vs.length, false, 9, 1, z7 vs, 0⟩]) := by
 have e1 : cfg.sz 9 = 1 := rfl
 have e2 : (cfg.ti 9).bytes = 16 := rfl
 have hm : vs.length ≤ maxLen := by
  have : (1000 : Nat) ≤ maxLen := by decide
  omega
 have hb : vs.length * 16 ≤ 140737488355328 := by omega
 cases vs with
 | nil => simp [j5, rd, lenOf, e1, e2, eL, gO, z7]
 | cons x vs =>
  have h0 : (z7 (x :: vs)).length = vs.length + 1 := by simp [z7]
  simp only [List.length_cons] at hm hb
  simp [j5, rd, lenOf, e1, e2, eL, gO, h0, hm, hb, eR]
variable {t : Blk}
theorem app_vs {O p : Blk} {x : BA} (hn : vs.length < 1000) : j5 cfg 9 (hB c e I left ++ [fb, ⟨gv, false, 9, 1, z7 vs, vs.length⟩, O, t, p, ⟨0, false, 9, 1, [.str x], 0⟩]) (.own (e.n + 1) gv 0 vs.length) (.own (e.n + 5) 0 0 1) = some (.own (e.n + 1) (gv + 1) 0 (vs.length + 1), hB c e I left ++ [fb, ⟨gv + 1, false, 9, 1, z7 (vs ++ [x]), vs.length⟩, O, t, p, ⟨0, false, 9, 1, [.str x], 0⟩]) := by
 have e1 : cfg.sz 9 = 1 := rfl
 have e2 : (cfg.ti 9).bytes = 16 := rfl
 have hm : vs.length + 1 ≤ maxLen := by
  have : (1001 : Nat) ≤ maxLen := by decide
  omega
 have hb : (vs.length + 1) * 16 ≤ 140737488355328 := by omega
 have ht : List.take vs.length (z7 vs) = z7 vs := List.take_of_length_le t153
 have hnl : ¬ vs.length + 1 ≤ vs.length := by omega
 simp [j5, rd, lenOf, e1, e2, eL, aB, hm, hb, eR, ht, hnl, jD]
variable {n : Nat} {zs : List AV}
theorem LL {vb t : Blk} {g : Nat} {x1 x2 x3 x4 x5 x6 x7 x8 x9 x10 x11 : AV} (hz : zs.length = n * 11) (hn : n < 1000) :
  j5 cfg 149 (hB c e I left ++ [fb, vb, n9 149 11 g zs, t, ⟨0, false, 149, 11, [x1, x2, x3, x4, x5, x6, x7, x8, x9, x10, x11], 0⟩]) (.own (e.n + 2) g 0 n) (.own (e.n + 4) 0 0 1) = some (.own (e.n + 2) (g + 1) 0 (n + 1), hB c e I left ++ [fb, vb, n9 149 11 (g + 1) (zs ++ [x1, x2, x3, x4, x5, x6, x7, x8, x9, x10, x11]), t, ⟨0, false, 149, 11, [x1, x2, x3, x4, x5, x6, x7, x8, x9, x10, x11], 0⟩]) := by
 have hb : (hB c e I left ++ [fb, vb, n9 149 11 g zs, t, ⟨0, false, 149, 11, [x1, x2, x3, x4, x5, x6, x7, x8, x9, x10, x11], 0⟩])[e.n + 2]? = some (n9 149 11 g zs) := eL
 rw [v7 (C := cfg) (K := 11) (m := 1) (new := [x1, x2, x3, x4, x5, x6, x7, x8, x9, x10, x11]) hb rfl (by omega) hz rfl (by omega) t130 rfl (by decide) (by omega), eR]
 rfl
theorem LM {vb t u : Blk} {g : Nat} {x1 x2 x3 x4 x5 x6 x7 x8 x9 x10 x11 : AV} (hz : zs.length = n * 11) (hn : n < 1000) :
  j5 cfg 149 (hB c e I left ++ [fb, vb, n9 149 11 g zs, t, u, ⟨0, false, 149, 11, [x1, x2, x3, x4, x5, x6, x7, x8, x9, x10, x11], 0⟩]) (.own (e.n + 2) g 0 n) (.own (e.n + 5) 0 0 1) = some (.own (e.n + 2) (g + 1) 0 (n + 1), hB c e I left ++ [fb, vb, n9 149 11 (g + 1) (zs ++ [x1, x2, x3, x4, x5, x6, x7, x8, x9, x10, x11]), t, u, ⟨0, false, 149, 11, [x1, x2, x3, x4, x5, x6, x7, x8, x9, x10, x11], 0⟩]) := by
 have hb : (hB c e I left ++ [fb, vb, n9 149 11 g zs, t, u, ⟨0, false, 149, 11, [x1, x2, x3, x4, x5, x6, x7, x8, x9, x10, x11], 0⟩])[e.n + 2]? = some (n9 149 11 g zs) := eL
 rw [v7 (C := cfg) (K := 11) (m := 1) (new := [x1, x2, x3, x4, x5, x6, x7, x8, x9, x10, x11]) hb rfl (by omega) hz rfl (by omega) t130 rfl (by decide) (by omega), eR]
 rfl
theorem O2 {vb t u v : Blk} {g : Nat} {x1 x2 x3 x4 x5 x6 x7 x8 x9 x10 x11 : AV} (hz : zs.length = n * 11) (hn : n < 1000) :
  j5 cfg 149 (hB c e I left ++ [fb, vb, n9 149 11 g zs, t, u, v, ⟨0, false, 149, 11, [x1, x2, x3, x4, x5, x6, x7, x8, x9, x10, x11], 0⟩]) (.own (e.n + 2) g 0 n) (.own (e.n + 6) 0 0 1) = some (.own (e.n + 2) (g + 1) 0 (n + 1), hB c e I left ++ [fb, vb, n9 149 11 (g + 1) (zs ++ [x1, x2, x3, x4, x5, x6, x7, x8, x9, x10, x11]), t, u, v, ⟨0, false, 149, 11, [x1, x2, x3, x4, x5, x6, x7, x8, x9, x10, x11], 0⟩]) := by
 have hb : (hB c e I left ++ [fb, vb, n9 149 11 g zs, t, u, v, ⟨0, false, 149, 11, [x1, x2, x3, x4, x5, x6, x7, x8, x9, x10, x11], 0⟩])[e.n + 2]? = some (n9 149 11 g zs) := eL
 rw [v7 (C := cfg) (K := 11) (m := 1) (new := [x1, x2, x3, x4, x5, x6, x7, x8, x9, x10, x11]) hb rfl (by omega) hz rfl (by omega) t130 rfl (by decide) (by omega), eR]
 rfl
variable {m : Nat} {cs : List AV}
theorem EG {vb t u s : Blk} {g : Nat} (hz : zs.length = n * 11) (hcs : cs.length = m * 11) (hn : n < 1000) (hm : m < 1000) :
  j5 cfg 149 (hB c e I left ++ [fb, vb, n9 149 11 g zs, t, u, s]) (.own (e.n + 2) g 0 n) (.vec m cs) = some (.own (e.n + 2) (gO g m) 0 (n + m), hB c e I left ++ [fb, vb, n9 149 11 (gO g m) (zs ++ cs), t, u, s]) := by
 have hb : (hB c e I left ++ [fb, vb, n9 149 11 g zs, t, u, s])[e.n + 2]? = some (n9 149 11 g zs) := eL
 by_cases h0 : m = 0
 ·subst h0
  obtain rfl : cs = [] := List.length_eq_zero_iff.1 (by simpa using hcs)
  have e1 : cfg.sz 149 = 11 := rfl
  have e2 : (cfg.ti 149).bytes = 192 := rfl
  have hmx : n ≤ maxLen := by
   have : (1000 : Nat) ≤ maxLen := by decide
   omega
  have hbd : n * 192 ≤ 140737488355328 := by omega
  simp [j5, rd, lenOf, e1, e2, hb, qT, gO, hmx, hbd]
 ·rw [v7 (C := cfg) (K := 11) (m := m) (new := cs) hb rfl (by omega) hz hcs (by omega) rfl rfl (by decide) (by omega), eR]
  simp only [gO, h0, if_false]
  rfl
theorem LN {vb t u s : Blk} {g : Nat} {y1 y2 y3 y4 y5 y6 y7 y8 y9 y10 y11 : AV} (hz : zs.length = n * 11) (hcs : cs.length = m * 11) (hn : n < 900) (hm : m < 1000) :
  j5 cfg 149 (hB c e I left ++ [fb, vb, n9 149 11 g (zs ++ [y1, y2, y3, y4, y5, y6, y7, y8, y9, y10, y11]), t, u, s]) (.own (e.n + 2) g 0 (n + 1)) (.vec m cs) = some (.own (e.n + 2) (gO g m) 0 (n + 1 + m), hB c e I left ++ [fb, vb, n9 149 11 (gO g m) ((zs ++ [y1, y2, y3, y4, y5, y6, y7, y8, y9, y10, y11]) ++ cs), t, u, s]) :=
 EG (by rw [List.length_append, hz]; simp; omega) hcs (by omega) hm
theorem LO {vb t u v : Blk} {g : Nat} {y1 y2 y3 y4 y5 y6 y7 y8 y9 y10 y11 x1 x2 x3 x4 x5 x6 x7 x8 x9 x10 x11 : AV} (hz : zs.length = n * 11) (hcs : cs.length = m * 11) (hn : n < 400) (hm : m < 400) :
  j5 cfg 149 (hB c e I left ++ [fb, vb, n9 149 11 g (zs ++ y1 :: y2 :: y3 :: y4 :: y5 :: y6 :: y7 :: y8 :: y9 :: y10 :: y11 :: cs), t, u, v, ⟨0, false, 149, 11, [x1, x2, x3, x4, x5, x6, x7, x8, x9, x10, x11], 0⟩]) (.own (e.n + 2) g 0 (n + 1 + m)) (.own (e.n + 6) 0 0 1) = some (.own (e.n + 2) (g + 1) 0 (n + 1 + m + 1), hB c e I left ++ [fb, vb, n9 149 11 (g + 1) ((zs ++ y1 :: y2 :: y3 :: y4 :: y5 :: y6 :: y7 :: y8 :: y9 :: y10 :: y11 :: cs) ++ [x1, x2, x3, x4, x5, x6, x7, x8, x9, x10, x11]), t, u, v, ⟨0, false, 149, 11, [x1, x2, x3, x4, x5, x6, x7, x8, x9, x10, x11], 0⟩]) :=
 O2 (by rw [List.length_append, hz]; simp only [List.length_cons, hcs]; omega) (by omega)
end
theorem OI {n : Nat} : ∀ (s : Sl), ∀ x ∈ o9 s, Refs n x
 | .nil, x, hx => by simp [o9] at hx
 | .cons k nm e r as' th el rest, x, hx => by
  simp only [o9, bD, List.cons_append, List.nil_append, List.mem_cons] at hx
  rcases hx with rfl | rfl | rfl | rfl | rfl | rfl | rfl | rfl | rfl | rfl | rfl | hx
  ·exact .int _ _
  ·exact .str _
  ·exact .int _ _
  ·exact .int _ _
  ·exact .str _
  ·exact .vec _ _
  ·exact .str _
  ·exact .vec _ _
  ·exact .vec _ _
  ·exact .vec _ _
  ·exact .vec _ _
  ·exact OI rest x hx
theorem frz_S {n d : Nat} {H : c6} : ∀ (s : Sl), p6 (jP n H (d + 1)) (o9 s) = some (o9 s)
 | .nil => rfl
 | .cons k nm e r as' th el rest => by
  have ih := frz_S (n := n) (d := d) (H := H) rest
  simp only [o9, bD, List.cons_append, List.nil_append, p6, nV, nW, lV, ih]
theorem aO {k : Int} {nm : BA} {x : Ex} {r : Rf} {xs : List Ar} {th el : Sl} {a b c d f : AV} (ha : a = .vec x.args.length (n5 x.args) ∨ (a = .j9 ∧ x.args = [])) (hb : b = .vec r.idx.length (n5 r.idx) ∨ (b = .j9 ∧ r.idx = [])) (hc : c = .vec xs.length (aY xs) ∨ (c = .j9 ∧ xs = []))
  (hd : d = .vec th.len (o9 th) ∨ (d = .j9 ∧ th = .nil)) (hf : f = .vec el.len (o9 el) ∨ (f = .j9 ∧ el = .nil)) :
  mT (o9 (row k nm x r xs th el)) [.int .i64 k, .str nm, .int .i64 x.op, .int .i64 x.num, .str x.name, a, .str r.name, b, c, d, f] := by
 simp only [row, o9, bD, List.cons_append, List.nil_append]
 refine ⟨.inl rfl, .inl rfl, .inl rfl, .inl rfl, .inl rfl, ?_, .inl rfl, ?_, ?_, ?_, ?_, trivial⟩
 ·rcases ha with rfl | ⟨rfl, h⟩
  ·exact .inl rfl
  ·rw [h]; exact .inr ⟨rfl, rfl⟩
 ·rcases hb with rfl | ⟨rfl, h⟩
  ·exact .inl rfl
  ·rw [h]; exact .inr ⟨rfl, rfl⟩
 ·rcases hc with rfl | ⟨rfl, h⟩
  ·exact .inl rfl
  ·rw [h]; exact .inr ⟨rfl, rfl⟩
 ·rcases hd with rfl | ⟨rfl, h⟩
  ·exact .inl rfl
  ·rw [h]; exact .inr ⟨rfl, rfl⟩
 ·rcases hf with rfl | ⟨rfl, h⟩
  ·exact .inl rfl
  ·rw [h]; exact .inr ⟨rfl, rfl⟩
theorem jI {k : Int} {nm : BA} {x : Ex} {r : Rf} {xs : List Ar} {th el : Sl} : o9 (row k nm x r xs th el) = [.int .i64 k, .str nm, .int .i64 x.op, .int .i64 x.num, .str x.name, .vec x.args.length (n5 x.args), .str r.name, .vec r.idx.length (n5 r.idx), .vec xs.length (aY xs), .vec th.len (o9 th), .vec el.len (o9 el)] := by
 simp only [row, o9, bD, List.cons_append, List.nil_append]
theorem wrap8 {n : Int} (h1 : 0 ≤ n) (h2 : n < 256) : IntKind.wrap .u8 n = n := by
 unfold IntKind.wrap
 have e1 : (2 : Int) ^ IntKind.bits .u8 = 256 := rfl
 have e3 : IntKind.signed .u8 = false := rfl
 simp only [e1, e3, Bool.false_and, Bool.false_eq_true, if_false]
 omega
theorem vnm_eq {l : Int} (h0 : 0 ≤ l) (h1 : l < 24) : (⟨#[118]⟩ : BA) ++ (⟨#[UInt8.ofNat (97 + l.tmod 26).toNat, UInt8.ofNat (97 + (l.tdiv 26).tmod 26).toNat]⟩ : BA) = vnm l.toNat := by
 obtain ⟨n, rfl⟩ := Int.eq_ofNat_of_zero_le h0
 have key : ∀ n : Fin 24, (⟨#[118]⟩ : BA) ++ (⟨#[UInt8.ofNat (97 + ((n.1 : Nat) : Int).tmod 26).toNat, UInt8.ofNat (97 + (((n.1 : Nat) : Int).tdiv 26).tmod 26).toNat]⟩ : BA) = vnm n.1 := by decide +kernel
 exact key ⟨n, by omega⟩
theorem tm26 {l : Int} (h0 : 0 ≤ l) : 0 ≤ l.tmod 26 ∧ l.tmod 26 < 26 := ⟨Int.tmod_nonneg _ h0, Int.tmod_lt_of_pos _ (by omega)⟩
theorem td26 {l : Int} (h0 : 0 ≤ l) (h1 : l < 24) : l.tdiv 26 = 0 := by
 obtain ⟨n, rfl⟩ := Int.eq_ofNat_of_zero_le h0
 have key : ∀ n : Fin 24, (((n.1 : Nat) : Int).tdiv 26) = 0 := by decide
 exact key ⟨n, by omega⟩
end Go.Proofs.YtapdldekgbbomaaGreat
end
