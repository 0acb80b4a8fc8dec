/- My own texts, put together by a program of mine. -/
import Derived.Laws.BitsLemmas
import Derived.Test.YtfbjlfhjkojmkaaGreatH25
set_option linter.unusedSimpArgs false
set_option linter.unusedVariables false
set_option maxRecDepth 100000
set_option maxHeartbeats 4000000
section
namespace Go.Proofs.YtfbjlfhjkojmkaaGreat
open Go.Ab Go.Un
variable {p : Go.Un.Pg} {f : Fu}
theorem FF (h : GH p) (hf : f ∈ p.funcs) : ∀ x ∈ f.params, rM x.name = false := by
  obtain ⟨i, hi, rfl⟩ := bB (d := g9) hf
  intro x hx
  have hm : x.name ∈ (p.funcs.getD i g9).params.map (·.name) := List.mem_map.2 ⟨x, hx, rfl⟩
  rcases (h.fn i hi).2.2 with e | e | e <;> rw [e] at hm <;> simp at hm
  · rw [hm]; exact H9 1 (by omega)
  · rcases hm with e | e <;> rw [e]
    · exact H9 2 (by omega)
    · exact H9 1 (by omega)
variable {i : Nat}
theorem lR {α : Type} (f : α → List AV) (K j : Nat) (hK : ∀ a, (f a).length = K) (hj : j < K) (d : α) {l : List α} (h : i < l.length) : List.take 1 (List.drop (i * K + j) (l.flatMap f)) = List.take 1 (List.drop j (f (l.getD i d))) := by
  rw [← bP f K hK d h, List.drop_take, List.take_take, List.drop_drop, Nat.min_eq_left (by omega)]
theorem MW {l : List Gl} (h : i < l.length) : List.take 1 (List.drop (i * 2) (o8 l)) = [.str (l.getD i jZ).name] := lR X2 2 0 (fun _ => rfl) (by omega) jZ h
theorem MX {l : List Gl} (h : i < l.length) : List.take 1 (List.drop (i * 2 + 1) (o8 l)) = [.int .i64 (l.getD i jZ).init] := lR X2 2 1 (fun _ => rfl) (by omega) jZ h
variable {l : List Pm}
theorem MY (h : i < l.length) : List.take 1 (List.drop (i * 2) (s4 l)) = [.str (l.getD i fR).name] := lR X1 2 0 (fun _ => rfl) (by omega) fR h
theorem MZ (h : i < l.length) : List.take 1 (List.drop (i * 2 + 1) (s4 l)) = [.bool (l.getD i fR).mu] := lR X1 2 1 (fun _ => rfl) (by omega) fR h
theorem txtGl_0 {l : List Gl} (h : (l.getD i jZ).init = 0) : jE l (i + 1) = jE l i ++ B2 ++ (l.getD i jZ).name ++ pD := by rw [jE, if_pos h]
theorem txtGl_1 {l : List Gl} (h : ¬ (l.getD i jZ).init = 0) : jE l (i + 1) = jE l i ++ B2 ++ (l.getD i jZ).name ++ KK ++ X5 (l.getD i jZ).init ++ pD := by rw [jE, if_neg h]
variable {out : BA}
theorem NA {l : List Mx} (h1 : (l.getD i v9).re = false) (h : ¬ 0 < (l.getD i v9).size) : dB l out (i + 1) = dB l out i ++ aU ++ (l.getD i v9).name ++ pD := by rw [dB, if_neg h, if_neg (by rw [h1]; decide)]
theorem NB {l : List Mx} (h1 : (l.getD i v9).re = true) (h : ¬ 0 < (l.getD i v9).size) : dB l out (i + 1) = dB l out i ++ t_r ++ aU ++ (l.getD i v9).name ++ pD := by rw [dB, if_neg h, if_pos h1]
theorem NC {l : List Mx} (h1 : (l.getD i v9).re = false) (h : 0 < (l.getD i v9).size) : dB l out (i + 1) = dB l out i ++ aU ++ (l.getD i v9).name ++ IP ++ X5 (l.getD i v9).size ++ IQ ++ pD := by rw [dB, if_pos h, if_neg (by rw [h1]; decide)]
theorem ND {l : List Mx} (h1 : (l.getD i v9).re = true) (h : 0 < (l.getD i v9).size) : dB l out (i + 1) = dB l out i ++ t_r ++ aU ++ (l.getD i v9).name ++ IP ++ X5 (l.getD i v9).size ++ IQ ++ pD := by rw [dB, if_pos h, if_pos h1]
theorem NF (h1 : (l.getD i fR).mu = false) (h : ¬ 0 < i) : eB l out (i + 1) = eB l out i ++ (l.getD i fR).name := by rw [eB, if_neg h, if_neg (by rw [h1]; decide)]
theorem NG (h1 : (l.getD i fR).mu = true) (h : ¬ 0 < i) : eB l out (i + 1) = eB l out i ++ aU ++ (l.getD i fR).name := by rw [eB, if_neg h, if_pos h1]
theorem NH (h1 : (l.getD i fR).mu = false) (h : 0 < i) : eB l out (i + 1) = eB l out i ++ kG ++ (l.getD i fR).name := by rw [eB, if_pos h, if_neg (by rw [h1]; decide)]
theorem NI (h1 : (l.getD i fR).mu = true) (h : 0 < i) : eB l out (i + 1) = eB l out i ++ kG ++ aU ++ (l.getD i fR).name := by rw [eB, if_pos h, if_pos h1]
theorem GHgres (h : GH p) (hf : f ∈ p.funcs) : pM (KP p f) := by
  refine ⟨⟨fun m hm => ?_, fun x hx => ?_⟩, fun x hx => ?_⟩
  · obtain ⟨i, hi, rfl⟩ := bB (d := v9) hm
    show rM (p.c4.getD i v9).name = false
    rw [(h.mn i hi).1]
    exact EN i (by have := h.ml; have hi2 : i < p.c4.length := hi; omega)
  · exact FF h hf x hx
  · obtain ⟨g, hg, rfl⟩ := List.mem_map.1 hx
    obtain ⟨i, hi, rfl⟩ := bB (d := g9) hg
    show rM (p.funcs.getD i g9).name = false
    rw [(h.fn i hi).1]
    exact EO i (by have := h.fl; omega)
theorem FG (h : GH p) (hf : f ∈ p.funcs) : v7 (KQ p f) := by
  intro x hx
  refine ⟨h.TE hf x hx, ?_⟩
  rcases List.mem_append.1 hx with hx | hx
  · obtain ⟨g, hg, rfl⟩ := List.mem_map.1 hx
    obtain ⟨i, hi, rfl⟩ := bB (d := jZ) hg
    rw [(h.gn i hi).1]
    exact EM i (by have := h.gl; omega)
  · obtain ⟨g, hg, rfl⟩ := List.mem_map.1 hx
    exact FF h hf g (List.mem_filter.1 hg).1
theorem J3 {l : List Fu} (h : i < l.length) : (l.getD i g9).body.wt ≤ qM l l.length := by
  have key : ∀ n, i < n → (l.getD i g9).body.wt ≤ qM l n := by
    intro n hn
    induction n with
    | zero => omega
    | succ n ih =>
      rw [qM]
      by_cases e : i = n
      · rw [e]; omega
      · have := ih (by omega); omega
  exact key _ h
variable {h : c6}
theorem c_lexF {L : Bs} (hx : LX L 4000) (hl : L.length ≤ 262144) : CB 57 [.vec L.length (rL L)] h (.tup [.any, .int .i64 L.length, .int .i64 0]) :=
  C3 rfl ((c_lex0 L 4000 hx (Nat.le_refl _) hl).mono fun _ _ h => h.1) h
theorem encB_8 {b : BA} : b.toList.map (fun c => AV.int .u8 ((c.toNat : Nat) : Int)) = rL (L8 b) := by rw [ByteArray.toList_eq]; rfl
theorem c_lexB {b : BA} (hx : LX (L8 b) 4000) (hl : b.size ≤ 262144) : CB 57 [.vec b.size (b.toList.map fun c => AV.int .u8 ((c.toNat : Nat) : Int))] h (.tup [.any, .int .i64 b.size, .int .i64 0]) := by
  rw [encB_8, jD]
  exact c_lexF hx (by rw [← jD]; exact hl)
attribute [local go_sem] lP w9 m8 aN bQ aP l9 cK n5 aJ aA Int.natCast_nonneg Int.natCast_inj List.length_map wrap64 Y3 kJ xU w8 kZ eq_mk lA Nat.reduceMul MW MX MY MZ xF sT dA
theorem R8 {l : List Pm} (hn : ∀ x ∈ l, isName (L8 x.name)) (out : BA) : ∀ i, i ≤ l.length → (eB l out i).size ≤ out.size + 30 * i
  | 0, _ => Nat.le_refl _
  | i + 1, hi => by
    have ih := R8 hn out i (by omega)
    have hs := u5 (hn _ (l3 (d := fR) (show i < l.length from by omega)))
    have e1 : aU.size = 6 := rfl
    have e2 : kG.size = 2 := rfl
    unfold eB
    repeat' split
    all_goals simp only [w8]
    all_goals omega
theorem FH {l : List Fu} : ∀ {a b : Nat}, a ≤ b → qM l a ≤ qM l b := by
  intro a b h
  induction h with
  | refl => exact Nat.le_refl _
  | step _ ih => rw [qM]; omega
theorem c_progT (hp : GP p) : CB 80 [.agg [.vec p.globals.length (o8 p.globals), .vec p.c4.length (g5 p.c4), .vec p.funcs.length (n6 p.funcs)]] h (.str (txtP p)) := by
  refine .bz Tryz.f80 131 ?_
  have hgl := rG hp.toGH p.globals.length (Nat.le_refl _)
  have hmx := rH hp.toGH hgl.1 p.c4.length (Nat.le_refl _)
  have hgl0 := hp.gl
  have hml0 := hp.ml
  have hfl0 := hp.fl
  have htot := hp.wt
  have hwm : ∀ i, i ≤ p.funcs.length → qM p.funcs i ≤ 48 := fun i hi => Nat.le_trans (FH hi) htot
  refine c48z ?_
  refine .cI (fun m st => ∃ (i : Nat), (m = p.globals.length - i ∧ i ≤ p.globals.length) ∧ st = ⟨mkS 131 [(1, AV.ptr h.length 0 0), (3, AV.str (jE p.globals i)), (4, AV.int .i64 ((i : Nat) : Int))], h ++ [⟨0, false, 27, 3, [.vec p.globals.length (o8 p.globals), .vec p.c4.length (g5 p.c4), .vec p.funcs.length (n6 p.funcs)], 0⟩]⟩) _ (.v ⟨0, ⟨rfl, by omega⟩, rfl⟩ (hs := t58)) ?_
  rintro m sl h' ⟨i, ⟨hm, hi⟩, hst⟩
  obtain ⟨rfl, rfl⟩ := St.mk.inj hst
  have hsz := (rG hp.toGH i hi).2
  refine c0z ?_
  refine u2z ?_ ?_
  ·intro e1 qe1
   refine c2z ?_
   have hgn := dM (hp.toGH.DE (l3 (d := jZ) (l := p.globals) (i := i) (by omega)))
   have hgi := (hp.gn i (by omega)).2
   refine c72z ?_
   refine c38z ?_
   refine .c7 [1, 3, 4] ?_
   refine .z ?_
   refine u2z ?_ ?_
   ·intro e2 qe2
    have hns := (sW hgi.1 hgi.2).2
    refine c120z ?_
    refine c196z ?_
    refine .c7 [1, 3, 4] ?_
    refine c46z ?_
    exact ⟨_, by omega, .v ⟨(i + 1), ⟨rfl, by omega⟩, rfl⟩ (hs := t58)⟩
   intro e2 qe2
   refine .sk ?_
   refine c92z ?_
   exact ⟨_, by omega, .v ⟨(i + 1), ⟨rfl, by omega⟩, rfl⟩ (hs := t58)⟩
  intro e1 qe1
  refine .exit ?_
  obtain rfl : i = p.globals.length := by omega
  change c9 ..
  refine c4z ?_
  refine .z7 (fun m st => ∃ (i : Nat), (m = p.c4.length - i ∧ i ≤ p.c4.length) ∧ st = ⟨mkS 131 [(1, AV.ptr h.length 0 0), (3, AV.str (dB p.c4 (jE p.globals p.globals.length) i)), (5, AV.int .i64 ((i : Nat) : Int))], h ++ [⟨0, false, 27, 3, [.vec p.globals.length (o8 p.globals), .vec p.c4.length (g5 p.c4), .vec p.funcs.length (n6 p.funcs)], 0⟩]⟩) (.v ⟨0, ⟨rfl, by omega⟩, rfl⟩ (hs := t19)) ?_
  rintro m sl h' ⟨i, ⟨hm, hi⟩, hst⟩
  obtain ⟨rfl, rfl⟩ := St.mk.inj hst; clear hst
  have hsz := (rH hp.toGH hgl.1 i hi).2
  refine c0z ?_
  refine u2z ?_ ?_
  ·intro e3 qe3
   refine c2z ?_
   have hmn := dM (hp.toGH.KU (l3 (d := v9) (l := p.c4) (i := i) (by omega)))
   have hmi := (hp.mn i (by omega)).2
   refine c26z ?_
   refine .c7 [1, 3, 5, 6] ?_
   refine .z ?_
   refine u2z ?_ ?_
   ·intro e4 qe4
    refine c1z ?_
    refine c26z ?_
    refine .c7 [1, 3, 5, 6] ?_
    refine .z ?_
    refine u2z ?_ ?_
    ·intro e5 qe5
     have hns := (sW (n := (p.c4.getD i v9).size) (by omega) (by omega)).2
     refine c138z ?_
     refine c196z ?_
     refine .c7 [1, 3, 5] ?_
     refine c46z ?_
     exact ⟨_, by omega, .v ⟨(i + 1), ⟨rfl, by omega⟩, rfl⟩ (he := t41) (hs := t19)⟩
    intro e5 qe5
    refine .sk ?_
    refine c46z ?_
    exact ⟨_, by omega, .v ⟨(i + 1), ⟨rfl, by omega⟩, rfl⟩ (he := t41) (hs := t19)⟩
   intro e4 qe4
   refine .sk ?_
   refine c86z ?_
   refine u2z ?_ ?_
   ·intro e6 qe6
    refine .c7 [1, 3, 5, 6] ?_
    have hns := (sW (n := (p.c4.getD i v9).size) (by omega) (by omega)).2
    refine c138z ?_
    refine c196z ?_
    refine .c7 [1, 3, 5] ?_
    refine c46z ?_
    exact ⟨_, by omega, .v ⟨(i + 1), ⟨rfl, by omega⟩, rfl⟩ (he := t41) (hs := t19)⟩
   intro e6 qe6
   refine .sk ?_
   refine .c7 [1, 3, 5] ?_
   refine c46z ?_
   exact ⟨_, by omega, .v ⟨(i + 1), ⟨rfl, by omega⟩, rfl⟩ (he := t41) (hs := t19)⟩
  intro e3 qe3
  refine .exit ?_
  obtain rfl : i = p.c4.length := by omega
  change c9 ..
  refine c4z ?_
  refine .z7 (fun m st => ∃ (i : Nat), (m = p.funcs.length - i ∧ i ≤ p.funcs.length) ∧ st = ⟨mkS 131 [(1, AV.ptr h.length 0 0), (3, AV.str (qL p.funcs (dB p.c4 (jE p.globals p.globals.length) p.c4.length) i)), (7, AV.int .i64 ((i : Nat) : Int))], h ++ [⟨0, false, 27, 3, [.vec p.globals.length (o8 p.globals), .vec p.c4.length (g5 p.c4), .vec p.funcs.length (n6 p.funcs)], 0⟩]⟩) (.v ⟨0, ⟨rfl, by omega⟩, rfl⟩) ?_
  rintro m sl h' ⟨i, ⟨hm, hi⟩, hst⟩
  obtain ⟨rfl, rfl⟩ := St.mk.inj hst; clear hst
  have hsz := (xM hp hmx.1 i hi).2
  have hwi := hwm i hi
  refine c0z ?_
  refine u2z ?_ ?_
  ·intro e7 qe7
   refine c2z ?_
   have hfm := l3 (d := g9) (l := p.funcs) (i := i) (by omega)
   have hfn := dM (hp.toGH.DF hfm)
   have hpn := hp.toGH.nS hfm
   have hbd := hp.body i (by omega)
   have hwt := J3 (l := p.funcs) (i := i) (by omega)
   have hww := hp.wt
   have hlw := cC (p.funcs.getD i g9).body
   refine .z ?_
   refine .c7 [1, 3, 7, 8] ?_
   refine c53z ?_
   refine .cI (fun m st => ∃ (j : Nat), (m = (p.funcs.getD i g9).params.length - j ∧ j ≤ (p.funcs.getD i g9).params.length) ∧ st = ⟨mkS 131 [(1, AV.ptr h.length 0 0), (3, AV.str (eB (p.funcs.getD i g9).params (qL p.funcs (dB p.c4 (jE p.globals p.globals.length) p.c4.length) i ++ qC ++ (p.funcs.getD i g9).name ++ uX) j)), (7, AV.int .i64 ((i : Nat) : Int)), (8, AV.ptr (h.length + 1) 0 0), (9, AV.int .i64 ((j : Nat) : Int))], h ++ [⟨0, false, 27, 3, [.vec p.globals.length (o8 p.globals), .vec p.c4.length (g5 p.c4), .vec p.funcs.length (n6 p.funcs)], 0⟩, ⟨0, false, 101, 3, [.str (p.funcs.getD i g9).name, .vec (p.funcs.getD i g9).params.length (s4 (p.funcs.getD i g9).params), .vec (p.funcs.getD i g9).body.len (n8 (p.funcs.getD i g9).body)], 0⟩]⟩) _ (.v ⟨0, ⟨rfl, by omega⟩, rfl⟩ (hs := t27)) ?_
   rintro m sl h' ⟨j, ⟨hm, hj⟩, hst⟩
   obtain ⟨rfl, rfl⟩ := St.mk.inj hst
   have hsp := R8 (l := (p.funcs.getD i g9).params) hpn.2 (qL p.funcs (dB p.c4 (jE p.globals p.globals.length) p.c4.length) i ++ qC ++ (p.funcs.getD i g9).name ++ uX) j hj
   have hs0 : (qL p.funcs (dB p.c4 (jE p.globals p.globals.length) p.c4.length) i ++ qC ++ (p.funcs.getD i g9).name ++ uX).size ≤ (qL p.funcs (dB p.c4 (jE p.globals p.globals.length) p.c4.length) i).size + 30 := by simp only [w8]; have e1 : qC.size = 5 := rfl; have e2 : uX.size = 1 := rfl; omega
   refine c0z ?_
   refine u2z ?_ ?_
   ·intro e8 qe8
    refine c2z ?_
    refine c0z ?_
    refine u2z ?_ ?_
    ·intro e9 qe9
     refine c1z ?_
     refine .seq ?_
     refine .c7 [1, 3, 7, 8, 9] ?_
     have hpj := dM (hpn.2 _ (l3 (d := fR) (l := (p.funcs.getD i g9).params) (i := j) (by omega)))
     refine .z ?_
     refine u2z ?_ ?_
     ·intro e10 qe10
      refine c1z ?_
      refine .c7 [1, 3, 7, 8, 9] ?_
      refine c202z ?_
      refine .rz ?_
      exact ⟨_, by omega, .v ⟨(j + 1), ⟨rfl, by omega⟩, rfl⟩ (hs := t27)⟩
     intro e10 qe10
     refine .sk ?_
     refine c202z ?_
     refine .rz ?_
     exact ⟨_, by omega, .v ⟨(j + 1), ⟨rfl, by omega⟩, rfl⟩ (hs := t27)⟩
    intro e9 qe9
    refine c190z ?_
    have hpj := dM (hpn.2 _ (l3 (d := fR) (l := (p.funcs.getD i g9).params) (i := j) (by omega)))
    refine .z ?_
    refine u2z ?_ ?_
    ·intro e11 qe11
     refine .c7 [1, 3, 7, 8, 9] ?_
     refine c1z ?_
     refine c202z ?_
     refine .rz ?_
     exact ⟨_, by omega, .v ⟨(j + 1), ⟨rfl, by omega⟩, rfl⟩ (hs := t27)⟩
    intro e11 qe11
    refine .sk ?_
    refine .c7 [1, 3, 7, 8, 9] ?_
    refine c202z ?_
    refine .rz ?_
    exact ⟨_, by omega, .v ⟨(j + 1), ⟨rfl, by omega⟩, rfl⟩ (hs := t27)⟩
   intro e8 qe8
   refine .exit ?_
   obtain rfl : j = (p.funcs.getD i g9).params.length := by omega
   change c9 ..
   have htab : eY.size = 1 := rfl
   have hbs := (iC (hp.toGH.genv hfm) (p.funcs.getD i g9).body _ eY ByteArray.empty 0 (hp.toGH.TE hfm) hbd.1 (by omega) B3 Cl.nil).2
   have he0 : ByteArray.empty.size = 0 := rfl
   refine c138z ?_
   refine .ca rfl rfl (EP (hp.toGH.genv hfm) 1000 _ (by omega) (Nat.le_refl _) _ eY (FG hp.toGH hfm) hbd.1 (by omega) B3 _) ?_
   refine c25z ?_
   refine .c7 [1, 3, 7] ?_
   refine .rz ?_
   exact ⟨_, by omega, .v ⟨(i + 1), ⟨rfl, by omega⟩, rfl⟩ (he := t41)⟩
  intro e7 qe7
  refine .exit ?_
  obtain rfl : i = p.funcs.length := by omega
  refine c224z ?_
  exact .ret (.ex (hq := by rfl))
theorem c_valid (hp : GP p) : CB 49 [.agg [.vec p.globals.length (o8 p.globals), .vec p.c4.length (g5 p.c4), .vec p.funcs.length (n6 p.funcs)]] h (.bool true) := by
  refine .bz Tryz.f49 140 ?_
  have hgl0 := hp.gl
  have hml0 := hp.ml
  have hfl0 := hp.fl
  refine c26z ?_
  refine c23z ?_
  refine .spl 16 rfl rfl (fun e1 => by exfalso; have q := fact e1; omega) (fun e1 => ?_)
  try simp only [e1]
  have qe1 := fact e1
  refine .k 6 [(4, 16)] ?_
  refine .spl 22 rfl rfl (fun e2 => by exfalso; have q := fact e2; omega) (fun e2 => ?_)
  try simp only [e2]
  have qe2 := fact e2
  refine .m [(10, 22)] ?_
  refine uFbz ?_
  intro e3 qe3
  refine c190z ?_
  refine .c7 [1] ?_
  refine c24z ?_
  refine .cI (fun m st => ∃ (i : Nat), (m = p.globals.length - i ∧ i ≤ p.globals.length) ∧ st = ⟨mkS 140 [(1, AV.ptr h.length 0 0), (3, AV.int .i64 ((i : Nat) : Int))], h ++ [⟨0, false, 27, 3, [.vec p.globals.length (o8 p.globals), .vec p.c4.length (g5 p.c4), .vec p.funcs.length (n6 p.funcs)], 0⟩]⟩) _ (.v ⟨0, ⟨rfl, by omega⟩, rfl⟩) ?_
  rintro m sl h' ⟨i, ⟨hm, hi⟩, hst⟩
  obtain ⟨rfl, rfl⟩ := St.mk.inj hst
  refine c0z ?_
  refine u2z ?_ ?_
  ·intro e4 qe4
   refine c2z ?_
   have hgi := (hp.gn i (by omega)).2
   have hgr : rM (p.globals.getD i jZ).name = false := by rw [(hp.gn i (by omega)).1]; exact EM i (by omega)
   refine c125z ?_
   refine .ca rfl rfl (kY _ (hp.toGH.DE (l3 (d := jZ) (l := p.globals) (i := i) (by omega))) hgr) ?_
   refine .k 8 [(8, 43)] ?_
   refine .m [(8, 43)] ?_
   refine uFbz ?_
   intro e5 qe5
   refine c5z ?_
   refine .c7 [1, 3] ?_
   refine .rz ?_
   exact ⟨_, by omega, .v ⟨(i + 1), ⟨rfl, by omega⟩, rfl⟩⟩
  intro e4 qe4
  refine c9z ?_
  refine c4z ?_
  refine .z7 (fun m st => ∃ (i : Nat), (m = p.c4.length - i ∧ i ≤ p.c4.length) ∧ st = ⟨mkS 140 [(1, AV.ptr h.length 0 0), (4, AV.int .i64 ((i : Nat) : Int))], h ++ [⟨0, false, 27, 3, [.vec p.globals.length (o8 p.globals), .vec p.c4.length (g5 p.c4), .vec p.funcs.length (n6 p.funcs)], 0⟩]⟩) (.v ⟨0, ⟨rfl, by omega⟩, rfl⟩) ?_
  rintro m sl h' ⟨i, ⟨hm, hi⟩, hst⟩
  obtain ⟨rfl, rfl⟩ := St.mk.inj hst; clear hst
  refine c0z ?_
  refine u2z ?_ ?_
  ·intro e6 qe6
   refine c2z ?_
   have hmi := (hp.mn i (by omega)).2
   have hmr : rM (p.c4.getD i v9).name = false := by rw [(hp.mn i (by omega)).1]; exact EN i (by omega)
   refine .z ?_
   refine .c7 [1, 4, 5] ?_
   refine c30z ?_
   refine .ca rfl rfl (kY _ (hp.toGH.KU (l3 (d := v9) (l := p.c4) (i := i) (by omega))) hmr) ?_
   refine .k 7 [(4, 68)] ?_
   refine .spl 73 rfl rfl (fun e7 => by exfalso; have q := fact e7; omega) (fun e7 => ?_)
   try simp only [e7]
   have qe7 := fact e7
   refine .k 5 [(9, 73)] ?_
   refine .spl 78 rfl rfl (fun e8 => by exfalso; have q := fact e8; omega) (fun e8 => ?_)
   try simp only [e8]
   have qe8 := fact e8
   refine .k 3 [(14, 78)] ?_
   refine .spl 81 rfl rfl (fun e9 => ?_) (fun e9 => ?_)
   ·try simp only [e9]
    have qe9 := fact e9
    refine .m [(14, 78), (17, 81)] ?_
    refine .spl 86 rfl rfl (fun e10 => by exfalso; have q := fact e10; have := hmi.2.2 (by assumption); omega) (fun e10 => ?_)
    try simp only [e10]
    have qe10 := fact e10
    refine c45z ?_
    refine .c7 [1, 4] ?_
    refine .rz ?_
    exact ⟨_, by omega, .v ⟨(i + 1), ⟨rfl, by omega⟩, rfl⟩ (he := t41)⟩
   try simp only [e9]
   have qe9 := fact e9
   refine .m [(14, 78), (17, 81)] ?_
   refine c45z ?_
   refine .c7 [1, 4] ?_
   refine .rz ?_
   exact ⟨_, by omega, .v ⟨(i + 1), ⟨rfl, by omega⟩, rfl⟩ (he := t41)⟩
  intro e6 qe6
  refine c9z ?_
  refine c4z ?_
  refine .z7 (fun m st => ∃ (i : Nat), (m = p.funcs.length - i ∧ i ≤ p.funcs.length) ∧ st = ⟨mkS 140 [(1, AV.ptr h.length 0 0), (6, AV.int .i64 ((i : Nat) : Int))], h ++ [⟨0, false, 27, 3, [.vec p.globals.length (o8 p.globals), .vec p.c4.length (g5 p.c4), .vec p.funcs.length (n6 p.funcs)], 0⟩]⟩) (.v ⟨0, ⟨rfl, by omega⟩, rfl⟩) ?_
  rintro m sl h' ⟨i, ⟨hm, hi⟩, hst⟩
  obtain ⟨rfl, rfl⟩ := St.mk.inj hst; clear hst
  refine c0z ?_
  refine u2z ?_ ?_
  ·intro e11 qe11
   refine c2z ?_
   have hfm := l3 (d := g9) (l := p.funcs) (i := i) (by omega)
   have hfn := dM (hp.toGH.DF hfm)
   have hpn := hp.toGH.nS hfm
   have hbd := hp.body i (by omega)
   have hwt := J3 (l := p.funcs) (i := i) (by omega)
   have hww := hp.wt
   have hlw := cC (p.funcs.getD i g9).body
   have hfr : rM (p.funcs.getD i g9).name = false := by rw [(hp.fn i (by omega)).1]; exact EO i (by omega)
   refine c26z ?_
   refine .c7 [1, 6, 7] ?_
   refine c30z ?_
   refine .ca rfl rfl (kY _ (hp.toGH.DF hfm) hfr) ?_
   refine .k 8 [(4, 103)] ?_
   refine .spl 109 rfl rfl (fun e12 => by exfalso; have q := fact e12; omega) (fun e12 => ?_)
   try simp only [e12]
   have qe12 := fact e12
   refine .k 2 [(10, 109)] ?_
   refine .ca rfl rfl (c_okS (hp.toGH.genv hfm) (GHgres hp.toGH hfm) 1000 _ (by omega) (Nat.le_refl _) _ 0 (FG hp.toGH hfm) hbd.1 (by omega) (by omega) _) ?_
   refine .m [(10, 109)] ?_
   refine c17z ?_
   refine .c7 [1, 6, 7] ?_
   refine c24z ?_
   refine .cI (fun m st => ∃ (j : Nat), (m = (p.funcs.getD i g9).params.length - j ∧ j ≤ (p.funcs.getD i g9).params.length) ∧ st = ⟨mkS 140 [(1, AV.ptr h.length 0 0), (6, AV.int .i64 ((i : Nat) : Int)), (7, AV.ptr (h.length + 1) 0 0), (8, AV.int .i64 ((j : Nat) : Int))], h ++ [⟨0, false, 27, 3, [.vec p.globals.length (o8 p.globals), .vec p.c4.length (g5 p.c4), .vec p.funcs.length (n6 p.funcs)], 0⟩, ⟨0, false, 101, 3, [.str (p.funcs.getD i g9).name, .vec (p.funcs.getD i g9).params.length (s4 (p.funcs.getD i g9).params), .vec (p.funcs.getD i g9).body.len (n8 (p.funcs.getD i g9).body)], 0⟩]⟩) _ (.v ⟨0, ⟨rfl, by omega⟩, rfl⟩) ?_
   rintro m sl h' ⟨j, ⟨hm, hj⟩, hst⟩
   obtain ⟨rfl, rfl⟩ := St.mk.inj hst
   refine c0z ?_
   refine u2z ?_ ?_
   ·intro e13 qe13
    refine c2z ?_
    refine c125z ?_
    refine .ca rfl rfl (kY _ (hpn.2 _ (l3 (d := fR) (l := (p.funcs.getD i g9).params) (i := j) (by omega))) (FF hp.toGH hfm _ (l3 (d := fR) (l := (p.funcs.getD i g9).params) (i := j) (by omega)))) ?_
    refine .n ?_
    refine c45z ?_
    refine .c7 [1, 6, 7, 8] ?_
    refine .rz ?_
    exact ⟨_, by omega, .v ⟨(j + 1), ⟨rfl, by omega⟩, rfl⟩⟩
   intro e13 qe13
   refine c9z ?_
   refine .rz ?_
   exact ⟨_, by omega, .v ⟨(i + 1), ⟨rfl, by omega⟩, rfl⟩ (he := t41)⟩
  intro e11 qe11
  refine c9z ?_
  have htx := txtP_ok hp
  refine c66z ?_
  refine .ca rfl rfl (c_progT hp) ?_
  refine .e 1 ?_
  refine .ca rfl rfl (c_lexB htx.1 htx.2) ?_
  refine .n ?_
  refine .c7 [11] ?_
  refine .z ?_
  exact .ret (.ex (hq := by rfl))
end Go.Proofs.YtfbjlfhjkojmkaaGreat
end
section
namespace Go.Proofs.YtfbjlfhjkojmkaaGreat
open Go.Ab Go.Un
def sc1 : AV → AV
  | .bool b => .bool b
  | .int k n => .int k n
  | .str s => .str s
  | _ => .any
def sc2 : AV → AV
  | .agg cs => .agg (cs.map sc1)
  | x => sc1 x
def VS : AV → AV
  | .tup xs => .tup (xs.map sc2)
  | x => sc2 x
section
variable {h1 h2 : c6} {φ1 φ2 : Map} {w : World} {v : Value} {x : AV}
theorem FI (r : Rel h1 φ1 w v x) : Rel h2 φ2 w v (sc1 x) := by
  unfold sc1
  split
  · cases r.aE; exact .aI _
  · cases r.r9; exact .aX _ _
  · cases r.cR; exact .mW _
  · exact .gM _
theorem FJ (r : Rel h1 φ1 w v x) : Rel h2 φ2 w v (sc2 x) := by
  unfold sc2
  split
  · rename_i cs
    obtain ⟨a, rfl, ha, hc, hr⟩ := r.hC
    refine .agg a _ (by simp [ha]) hc fun j u z hu hz => ?_
    rw [List.getElem?_map] at hz
    obtain ⟨y, hy, rfl⟩ := Option.map_eq_some_iff.1 hz
    exact FI (hr j u y hu hy)
  · exact FI r
theorem FK (r : Rel h1 φ1 w v x) : Rel h2 φ2 w v (VS x) := by
  unfold VS
  split
  · rename_i xs
    obtain ⟨a, rfl, ha, hr⟩ := r.kL
    refine .tup a _ (by simp [ha]) fun j u z hu hz => ?_
    rw [List.getElem?_map] at hz
    obtain ⟨y, hy, rfl⟩ := Option.map_eq_some_iff.1 hz
    exact FJ (hr j u y hu hy)
  · exact FJ r
end
variable {h : c6}
theorem borrowD {f : FuncId} {args args' : List AV} {x : AV} (ha : JY 0 h args' args) (r : CallA Tryz.prog cfg f args' (aY 0 h) fun y _ => y = x) : CallA Tryz.prog cfg f args h fun y k => y = VS x ∧ k = h := by
  intro B φ w cargs i hs hr
  obtain ⟨i', _⟩ := N1 0 i
  obtain ⟨k1, k2⟩ := ha.get
  refine (r B φ w cargs i' (by rw [k1]; exact hs) fun j v y h1 h2 => ?_).mono fun e w' hp => ?_
  · have hj : j < args.length := by rw [← k1]; exact (List.getElem?_eq_some_iff.1 h2).1
    have e1 : args'.getD j .any = y := by simp [List.getD, h2]
    have e2 : args.getD j .any = args[j] := by simp [List.getD, hj]
    rcases k2 j with h | h
    · rw [e1] at h
      rw [h]; exact .gM _
    · rw [e1, e2] at h
      exact N2 i 0 h (hr j v _ h1 (List.getElem?_eq_getElem hj))
  · obtain ⟨v, y, h', φ', rfl, h1, h2, h3, rfl⟩ := hp
    have hfree : ∀ k, k < w.heap.size → L0 (aY 0 h) φ w k := fun k hk => ⟨hk, fun β b hb hv => by
      rcases cA hb with ⟨hn, _⟩ | ⟨_, b', _, rfl⟩
      · omega
      · cases hv⟩
    have hk : ∀ k, k < w.heap.size → w'.heap[k]? = w.heap[k]? := fun k hk => (h2.iW k (hfree k hk)).1
    have ev : Ev h φ w h φ w' := ⟨h2.os, h2.tape, h2.output, h2.size, fun k hs => ⟨hk k hs.1, Nat.lt_of_lt_of_le hs.1 h2.size, hs.2⟩, fun k j hs => ⟨World.cell?_of_block (hk k hs.1), Nat.lt_of_lt_of_le hs.1 h2.size, hs.2⟩, Nat.le_refl _, fun β b b' e1 e2 => by rw [e1] at e2; cases e2; exact ⟨Nat.le_refl _, fun _ => ⟨rfl, rfl, rfl⟩⟩⟩
    refine ⟨v, _, h, φ, rfl, ⟨fun β b hb hv => ?_, i.inj, i.base, i.bH, Nat.le_trans i.room h2.size, fun g => ev.E6 (i.cX g)⟩, ev, FK h3, rfl, rfl⟩
    obtain ⟨cur, q1, q2, q3, q4⟩ := i.blk β b hb hv
    exact ⟨cur, (hk _ (Array.getElem?_eq_some_iff.1 q1).1).trans q1, q2, q3, fun j v x a d => ⟨(q4 j v x a d).1, ev.rel (q4 j v x a d).2⟩⟩
variable {g n : Nat}
theorem yH {H : c6} {β : Nat} {l : List Ent} {x : BA} (hb : H[β]? = some (p4 110 3 g (j0 l))) (hn : l.length = n) (hl : l.length < 1000000) (hf : aV l x = none) : CB 51 [.own β g 0 n, .str x] H (.tup [.agg [.str ByteArray.empty, .int .i64 0, .int .i64 0], .bool false]) := by
  subst hn
  have e : PQ 0 H (.own β g 0 l.length) = some (.vec l.length (j0 l)) := iK hb (Nat.zero_le _) (by rw [p6]; omega) (by omega) ((pL l).frz _ _ _)
  have ha : JY 0 H [.vec l.length (j0 l), .str x] [.own β g 0 l.length, .str x] := And.intro (.inr e) (And.intro (.inr rfl) trivial)
  exact borrowD ha ((EW hf hl).mono fun _ _ h => h.1)
variable {p : Go.Un.Pg}
theorem oC : (aB p).length = p.globals.length + (p.c4.length + p.funcs.length) := by simp [aB]
variable {i : Nat}
theorem NJ (h : i < (aB p).length) : (aB p).getD i iB = if i < p.globals.length then ⟨(p.globals.getD i jZ).name, 1, (i : Int)⟩ else if i - p.globals.length < p.c4.length then ⟨(p.c4.getD (i - p.globals.length) v9).name, 2, ((i - p.globals.length : Nat) : Int)⟩ else ⟨(p.funcs.getD (i - p.globals.length - p.c4.length) g9).name, 3, ((i - p.globals.length - p.c4.length : Nat) : Int)⟩ := by
  rw [oC] at h
  unfold aB
  rw [List.getD_eq_getElem?_getD]
  by_cases h1 : i < p.globals.length
  · rw [if_pos h1, List.getElem?_append_left t126]
    simp [h1]
  · rw [if_neg h1, List.getElem?_append_right (by simpa using Nat.le_of_not_lt h1)]
    simp only [List.length_map, List.length_range]
    by_cases h2 : i - p.globals.length < p.c4.length
    · rw [if_pos h2, List.getElem?_append_left t97]
      simp [h2]
    · rw [if_neg h2, List.getElem?_append_right (by simpa using Nat.le_of_not_lt h2)]
      simp only [List.length_map, List.length_range]
      have h3 : i - p.globals.length - p.c4.length < p.funcs.length := by omega
      simp [h3]
theorem FL (h : i < (aB p).length) : (aB p).getD i iB = if i < p.globals.length then ⟨(p.globals.getD i jZ).name, 1, (i : Int)⟩ else if (i : Int) - p.globals.length < p.c4.length then ⟨(p.c4.getD ((i : Int) - p.globals.length).toNat v9).name, 2, (i : Int) - p.globals.length⟩ else ⟨(p.funcs.getD ((i : Int) - p.globals.length - p.c4.length).toNat g9).name, 3, (i : Int) - p.globals.length - p.c4.length⟩ := by
  rw [NJ h]
  by_cases h1 : i < p.globals.length
  · rw [if_pos h1, if_pos h1]
  · rw [if_neg h1, if_neg h1, show ((i : Int) - p.globals.length).toNat = i - p.globals.length from by omega, show ((i : Int) - p.globals.length - p.c4.length).toNat = i - p.globals.length - p.c4.length from by omega]
    by_cases h2 : i - p.globals.length < p.c4.length
    · rw [if_pos h2, if_pos (by omega), show ((i - p.globals.length : Nat) : Int) = (i : Int) - p.globals.length from by omega]
    · rw [if_neg h2, if_neg (by omega), show ((i - p.globals.length - p.c4.length : Nat) : Int) = (i : Int) - p.globals.length - p.c4.length from by omega]
theorem FM {l : List Ent} (hn : (l.map (·.name)).Nodup) (hi : i < l.length) : aV (l.take i) (l.getD i iB).name = none := by
  refine sX fun h => ?_
  obtain ⟨e, he, hx⟩ := List.mem_map.1 h
  obtain ⟨j, hj, rfl⟩ := List.mem_iff_getElem.1 he
  simp only [List.length_take] at hj
  have hjl : j < l.length := by omega
  simp only [List.getElem_take] at hx
  have e1 : l.getD i iB = l[i] := by simp [List.getD, hi]
  rw [e1] at hx
  have := (List.pairwise_iff_getElem.1 hn) j i (by simpa using hjl) (by simpa using hi) (by omega)
  simp only [List.getElem_map] at this
  exact this hx
theorem vQ (h : GP p) : ((aB p).map (·.name)).Nodup := by
  have h1 := (sZ h.toGH (i := 0) (by have := h.fl; omega)).nodup sY
  rw [List.map_append] at h1
  exact (List.nodup_append.1 h1).1
theorem takeD {l : List Ent} (h : i < l.length) : l.take (i + 1) = l.take i ++ [l.getD i iB] := by
  rw [List.take_add_one]
  simp [List.getD, h]
theorem D4 {l : List Ent} {x : Ent} : j0 (l ++ [x]) = j0 l ++ [.str x.name, .int .i64 x.kind, .int .i64 x.n] := by simp [j0, gE]
variable {b0 b2 b3 : Blk} {es : List Ent}
theorem app_ent {l : c6} {x : BA} {k m : Int} (hn : es.length = n) (hl : n < 100000) : j5 cfg 110 (h ++ (b0 :: p4 110 3 g (j0 es) :: b2 :: b3 :: ⟨0, false, 110, 3, [.str x, .int .i64 k, .int .i64 m], 0⟩ :: l)) (.own (h.length + 1) g 0 n) (.own (h.length + 4) 0 0 1) = some (.own (h.length + 1) (g + 1) 0 (n + 1), h ++ (b0 :: p4 110 3 (g + 1) (j0 (es ++ [⟨x, k, m⟩])) :: b2 :: b3 :: ⟨0, false, 110, 3, [.str x, .int .i64 k, .int .i64 m], 0⟩ :: l)) := by
  subst hn
  rw [z1 (C := cfg) (K := 3) (m := 1) (new := [.str x, .int .i64 k, .int .i64 m]) (zs := j0 es) t30 rfl (by omega) (by rw [p6]; omega) rfl (by omega) t161 rfl (by decide) (by omega), D4, o7]
  rfl
theorem NK {l : List Gl} (h : i < l.length) : List.take 1 (List.drop (i * 2) (o8 l)) = [.str (l.getD i jZ).name] := Y9 X2 2 0 (fun _ => rfl) (by omega) jZ h
theorem NL {l : List Mx} (h : i < l.length) : List.take 1 (List.drop (i * 3) (g5 l)) = [.str (l.getD i v9).name] := Y9 KH 3 0 (fun _ => rfl) (by omega) v9 h
theorem NM {l : List Fu} (h : i < l.length) : List.take 1 (List.drop (i * 3) (n6 l)) = [.str (l.getD i g9).name] := Y9 dA 3 0 (fun _ => rfl) (by omega) g9 h
attribute [local go_sem] rd p6 m8 aN bQ s5 aC eE cK n5 aJ aA l9 aP Int.natCast_nonneg Int.natCast_inj List.length_map wrap64 eJ gV gX P6 B8 G9 P7 xO max2 dV bU aQ Nat.reduceMul lO iM v8 gE nY jM tL NK NL NM app_ent
theorem c_decl (hp : GP p) : CB 50 [.agg [.vec p.globals.length (o8 p.globals), .vec p.c4.length (g5 p.c4), .vec p.funcs.length (n6 p.funcs)]] h (.tup [.vec (aB p).length (j0 (aB p)), .int .i64 (-1)]) := by
  refine .bz Tryz.f50 94 ?_
  have hdl := oC (p := p)
  have hnd := vQ hp
  have hgl := hp.gl
  have hml := hp.ml
  have hfl := hp.fl
  refine c19z ?_
  refine .z ?_
  refine c72z ?_
  refine c38z ?_
  refine .c7 [1, 4, 5, 6] ?_
  refine c24z ?_
  refine c9.A5 4 rfl ?_
  refine .z7 (fun m st => ∃ (i : Nat), (m = (aB p).length - i ∧ i ≤ (aB p).length) ∧ st = ⟨mkS 94 [(1, AV.ptr h.length 0 0), (4, AV.own (h.length + 1) i 0 i), (5, AV.int .i64 (-1)), (6, AV.int .i64 ((aB p).length : Int)), (7, AV.int .i64 ((i : Nat) : Int))], h ++ [⟨0, false, 27, 3, [.vec p.globals.length (o8 p.globals), .vec p.c4.length (g5 p.c4), .vec p.funcs.length (n6 p.funcs)], 0⟩, p4 110 3 i (j0 ((aB p).take i))]⟩) (.v ⟨0, ⟨rfl, by omega⟩, rfl⟩ (hs := t47)) ?_
  rintro m sl h' ⟨i, ⟨hm, hi⟩, hst⟩
  obtain ⟨rfl, rfl⟩ := St.mk.inj hst; clear hst
  have htl : ((aB p).take i).length = i := by simp; omega
  refine c0z ?_
  refine u2z ?_ ?_
  ·intro e1 qe1
   refine c2z ?_
   refine c26z ?_
   have hat := FL (p := p) (i := i) (by omega)
   have hfn := FM hnd (i := i) (by omega)
   refine c24z ?_
   refine .c7 [1, 4, 5, 6, 7, 8, 9] ?_
   refine .z ?_
   refine u2z ?_ ?_
   ·intro e2 qe2
    refine c127z ?_
    refine .seq ?_
    refine .c7 [1, 4, 5, 6, 7, 8] ?_
    rw [if_pos (by omega)] at hat
    rw [hat] at hfn
    refine c193z ?_
    refine .n ?_
    refine c211z ?_
    refine c17z ?_
    refine c1z ?_
    refine .c7 [1, 4, 5, 6, 7] ?_
    refine .rz ?_
    exact ⟨_, by omega, .v ⟨(i + 1), ⟨rfl, by omega⟩, rfl⟩ (he := t101) (hk := t98) (hs := t47)⟩
   intro e2 qe2
   refine .z ?_
   refine u2z ?_ ?_
   ·intro e3 qe3
    refine .c7 [1, 4, 5, 6, 7, 8, 9] ?_
    refine c127z ?_
    refine .seq ?_
    refine .c7 [1, 4, 5, 6, 7, 8] ?_
    rw [if_neg (by omega), if_pos (by omega)] at hat
    rw [hat] at hfn
    refine c193z ?_
    refine .n ?_
    refine c211z ?_
    refine c17z ?_
    refine c1z ?_
    refine .c7 [1, 4, 5, 6, 7] ?_
    refine .rz ?_
    exact ⟨_, by omega, .v ⟨(i + 1), ⟨rfl, by omega⟩, rfl⟩ (he := t101) (hk := t98) (hs := t47)⟩
   intro e3 qe3
   refine .c7 [1, 4, 5, 6, 7, 8, 9] ?_
   refine .so s9 (mkP 17 [0, 1, 0, 0, 8, 24, 60, 127, 255, 511, 0, 0, 2048, 6144, 15360, 32767, 65535] [16]) ?_
   refine .k 8 [] ?_
   refine c59z ?_
   change c9 ..
   refine .seq ?_
   refine .c7 [1, 4, 5, 6, 7, 8] ?_
   rw [if_neg (by omega), if_neg (by omega)] at hat
   rw [hat] at hfn
   refine c193z ?_
   refine .n ?_
   refine c211z ?_
   refine c17z ?_
   refine c1z ?_
   refine .c7 [1, 4, 5, 6, 7] ?_
   refine .rz ?_
   exact ⟨_, by omega, .v ⟨(i + 1), ⟨rfl, by omega⟩, rfl⟩ (he := t101) (hk := t98) (hs := t47)⟩
  intro e1 qe1
  refine .exit ?_
  obtain rfl : i = (aB p).length := by omega
  rw [List.take_length]
  refine c9.A1 (t := 4) (γ := h.length + 1) (len := (aB p).length) t30 (by rw [p6]; omega) (by omega) (pL _) (mP (by decide) rfl) ?_
  rw [bI]; simp only [o7, List.set_cons_succ, List.set_cons_zero]
  refine c224z ?_
  exact .ret (.ex (hq := by rfl))
def s0F (p : Go.Un.Pg) (f : Fu) : Sco := ⟨p, aB p ++ kA f.params 0 0, (eH f.params : Int), 0, [], []⟩
def s1F (p : Go.Un.Pg) (f : Fu) : Sco := bS (s0F p f).l (s0F p f) f.body
def s2F (p : Go.Un.Pg) (f : Fu) : Sco := m9 (s1F p f) ⟨8, 0, false, j9, bA, [], []⟩ (s1F p f).st
variable {a b c d : Blk} {s : Sco} {r : c6}
theorem NN : (h ++ (a :: b :: c :: d :: v8 (h.length + 4) s :: p4 77 12 (s).code.length (o3 (s).code) :: p4 3 1 (s).sites.length (g7 (s).sites) :: r)) = hT ⟨h ++ [a, b, c, d], r⟩ (v8 (h.length + 4) s) s.code s.sites := by simp [hT]
theorem hF_k : Frm.k ⟨h ++ [a, b, c, d], r⟩ = h.length + 4 := by simp [Frm.k]
theorem NO {E : Env} {cx : Ctx} {S : Sl} (hw : S.wt ≤ 1000) {vars : List BA} (sc : SC E cx vars s.l) (hG : GS E S vars) (bd : Bd E cx s.p) (B : Bnd s S.wt) : CH 81 [.ptr (h.length + 4) 0 0, .vec S.len (n8 S)] (h ++ (a :: b :: c :: d :: v8 (h.length + 4) s :: p4 77 12 (s).code.length (o3 (s).code) :: p4 3 1 (s).sites.length (g7 (s).sites) :: r)) (.tup []) (h ++ (a :: b :: c :: d :: v8 (h.length + 4) (bS s.l s S) :: p4 77 12 ((bS s.l s S)).code.length (o3 ((bS s.l s S)).code) :: p4 3 1 ((bS s.l s S)).sites.length (g7 ((bS s.l s S)).sites) :: r)) := by
  have := R7 1000 S hw (Nat.le_refl _) vars s sc hG bd B ⟨h ++ [a, b, c, d], r⟩
  rw [hF_k, ← NN, ← NN] at this
  exact this
theorem c_putF (hc : s.code.length < 10000) (hs : s.sites.length < 10000) (i : Ins) (t : Int) {zs : List AV} (hz : mU (dJ i) zs) : CH 82 [.ptr (h.length + 4) 0 0, .agg zs, .int .i64 t] (h ++ (a :: b :: c :: d :: v8 (h.length + 4) s :: p4 77 12 (s).code.length (o3 (s).code) :: p4 3 1 (s).sites.length (g7 (s).sites) :: r)) (.int .i64 ((s.code.length : Nat) : Int)) (h ++ (a :: b :: c :: d :: v8 (h.length + 4) (m9 s i t) :: p4 77 12 ((m9 s i t)).code.length (o3 ((m9 s i t)).code) :: p4 3 1 ((m9 s i t)).sites.length (g7 ((m9 s i t)).sites) :: r)) := by
  have := lB (e := ⟨h ++ [a, b, c, d], r⟩) hc hs i t hz
  rw [hF_k, ← NN, ← NN] at this
  exact this
variable {b1 : Blk}
theorem app_cpF {l : c6} (hz : es.length = n) (h0 : 0 < n) (hn : n < 1000) : j5 cfg 110 (h ++ (b0 :: b1 :: b2 :: ⟨0, false, 110, 3, [], 0⟩ :: l)) (.own (h.length + 3) 0 0 0) (.vec n (j0 es)) = some (.own (h.length + 3) 1 0 n, h ++ (b0 :: b1 :: b2 :: ⟨1, false, 110, 3, j0 es, 0⟩ :: l)) := by
  subst hz
  have e1 : cfg.sz 110 = 3 := rfl
  have e2 : (cfg.ti 110).bytes = 32 := rfl
  have hm : es.length ≤ maxLen := by
    have : (1000 : Nat) ≤ maxLen := by decide
    omega
  have hb : es.length * 32 ≤ 140737488355328 := by omega
  have h1 : (j0 es).length = es.length * 3 := by rw [p6]; omega
  have h2 : ¬ es.length = 0 := by omega
  have h3 : ¬ es.length * 3 = 0 := by omega
  simp [j5, rd, lenOf, e1, e2, h1, hm, hb, r7, o7, h0, h2, h3]
variable {b4 : Blk}
theorem app_onF {b5 b6 b7 b8 : Blk} {l : c6} {x : BA} {k m : Int} (hz : es.length = n) (hn : n < 1000) : j5 cfg 110 (h ++ (b0 :: b1 :: b2 :: ⟨g, false, 110, 3, j0 es, 0⟩ :: b4 :: b5 :: b6 :: b7 :: b8 :: ⟨0, false, 110, 3, [.str x, .int .i64 k, .int .i64 m], 0⟩ :: l)) (.own (h.length + 3) g 0 n) (.own (h.length + 9) 0 0 1) = some (.own (h.length + 3) (g + 1) 0 (n + 1), h ++ (b0 :: b1 :: b2 :: ⟨g + 1, false, 110, 3, j0 (es ++ [⟨x, k, m⟩]), 0⟩ :: b4 :: b5 :: b6 :: b7 :: b8 :: ⟨0, false, 110, 3, [.str x, .int .i64 k, .int .i64 m], 0⟩ :: l)) := by
  subst hz
  have e1 : cfg.sz 110 = 3 := rfl
  have e2 : (cfg.ti 110).bytes = 32 := rfl
  have hm : es.length + 1 ≤ maxLen := by
    have : (1001 : Nat) ≤ maxLen := by decide
    omega
  have hb : (es.length + 1) * 32 ≤ 140737488355328 := by omega
  have h1 : (j0 es).length = es.length * 3 := by rw [p6]; omega
  have ht : List.take (es.length * 3) (j0 es) = j0 es := List.take_of_length_le (by omega)
  have hnl : ¬ (es.length + 1) * 3 ≤ es.length * 3 := by omega
  have hs : j0 (es ++ [⟨x, k, m⟩]) = j0 es ++ [.str x, .int .i64 k, .int .i64 m] := by simp [j0, gE]
  simp [j5, rd, lenOf, e1, e2, h1, hm, hb, ht, hnl, r7, o7, hs]
theorem oD : ∀ {l : List Pm} {x : Pm} {a b : Nat}, kA (l ++ [x]) a b = kA l a b ++ [if x.mu then ⟨x.name, 5, ((b + aH l : Nat) : Int)⟩ else ⟨x.name, 4, ((a + eH l : Nat) : Int)⟩]
  | [], x, a, b => by simp [kA, aH, eH]; split <;> rfl
  | y :: l, x, a, b => by
    simp only [List.cons_append, kA]
    cases hy : y.mu with
    | true =>
      simp only [if_true, oD (l := l), List.cons_append, aH, eH, List.filter_cons, hy, Bool.not_true, Bool.false_eq_true, if_false, List.length_cons]
      rw [show b + 1 + (l.filter fun x => x.mu).length = b + ((l.filter fun x => x.mu).length + 1) from by omega]
    | false =>
      simp only [Bool.false_eq_true, if_false, oD (l := l), List.cons_append, aH, eH, List.filter_cons, hy, Bool.not_false, if_true, List.length_cons]
      rw [show a + 1 + (l.filter fun x => !x.mu).length = a + ((l.filter fun x => !x.mu).length + 1) from by omega]
variable {l : List Pm}
theorem R9 {a b : Nat} : (kA l a b).length = l.length := by
  have := congrArg List.length (fZ l a b)
  simpa using this
theorem S2 : eH l ≤ l.length := List.length_filter_le _ _
theorem pN (h : i < l.length) : l.take (i + 1) = l.take i ++ [l.getD i fR] := by
  rw [List.take_add_one]
  simp [List.getD, h]
theorem vR {x : Pm} : eH (l ++ [x]) = eH l + (if x.mu then 0 else 1) := by
  simp only [eH, List.filter_append, List.length_append]
  cases h : x.mu <;> simp [h]
theorem tR {x : Pm} : aH (l ++ [x]) = aH l + (if x.mu then 1 else 0) := by
  simp only [aH, List.filter_append, List.length_append]
  cases h : x.mu <;> simp [h]
theorem drop_pm (hi : i < l.length) : l.drop i = l.getD i fR :: l.drop (i + 1) := by
  rw [List.drop_eq_getElem_cons hi]
  simp [List.getD, hi]
theorem findP (hp : GP p) {j : Nat} (hj : j < p.funcs.length) (hi : i < (p.funcs.getD j g9).params.length) : aV (aB p ++ kA ((p.funcs.getD j g9).params.take i) 0 0) ((p.funcs.getD j g9).params.getD i fR).name = none := by
  have hn := (sZ hp.toGH hj).nodup sY
  rw [List.map_append, fZ] at hn
  have hs : ((p.funcs.getD j g9).params.map (·.name)) = (((p.funcs.getD j g9).params.take i).map (·.name)) ++ ((p.funcs.getD j g9).params.getD i fR).name :: (((p.funcs.getD j g9).params.drop (i + 1)).map (·.name)) := by
    have h1 : (p.funcs.getD j g9).params = (p.funcs.getD j g9).params.take i ++ ((p.funcs.getD j g9).params.getD i fR :: (p.funcs.getD j g9).params.drop (i + 1)) := by
      have h2 := drop_pm hi
      rw [← h2, List.take_append_drop]
    have h3 := congrArg (List.map (fun x : Pm => x.name)) h1
    rw [List.map_append, List.map_cons] at h3
    exact h3
  rw [hs, ← List.append_assoc] at hn
  refine sX fun hm => ?_
  rw [List.map_append, fZ] at hm
  exact (List.nodup_append.1 hn).2.2 _ hm _ (by simp) rfl
theorem bd_of (hp : GP p) {f : Fu} : Bd (KP p f) (ctxP p f) p := ⟨rfl, rfl, rfl, fun x hx => by
  obtain ⟨g, hg, rfl⟩ := List.mem_map.1 hx
  exact (hp.toGH.nS hg).1⟩
theorem NP (h : i < l.length) : List.take 1 (List.drop (i * 2) (s4 l)) = [.str (l.getD i fR).name] := Y9 X1 2 0 (fun _ => rfl) (by omega) fR h
section
attribute [local go_sem] app_cpF app_onF yE tM tN yF yG pJ lQ NP
theorem c_func (hp : GP p) {j : Nat} (hj : j < p.funcs.length) : CB 52 [.agg [.vec p.globals.length (o8 p.globals), .vec p.c4.length (g5 p.c4), .vec p.funcs.length (n6 p.funcs)], .vec (aB p).length (j0 (aB p)), .agg (dA (p.funcs.getD j g9))] h (.tup [.agg (sU (mB p (p.funcs.getD j g9))), .vec (s2F p (p.funcs.getD j g9)).sites.length (g7 (s2F p (p.funcs.getD j g9)).sites), .int .i64 0, .int .i64 0]) := by
  unfold dA
  refine .bz Tryz.f52 136 ?_
  have hdl := oC (p := p)
  have hgl := hp.gl
  have hml := hp.ml
  have hfl := hp.fl
  have hpn := (hp.toGH.nS (l3 (d := g9) hj)).1
  have hbd := hp.body j hj
  have hwt := J3 (l := p.funcs) hj
  have hww := hp.wt
  refine .z ?_
  refine .sg s9 (mkH 7 [0, 0, 0, 6, 15, 31, 63] [1, 3, 5] [] [0, 2, 10, 42] [0]) 0 ?_
  refine .rm [true] ?_
  refine .en [true] [2, 0] [_] ?_
  refine .p 1 ?_
  refine .en [true, false] [10, 2, 0] [_] ?_
  refine .p 1 ?_
  refine .en [true, false, false] [42, 10, 2, 0] [_] ?_
  refine .p 1 ?_
  refine .po [false, true, true, true] ?_
  refine s8.nil rfl ?_
  refine .c7 [5, 6, 10] ?_
  refine c9.mA (β := h.length + 4) (k := 8) t30 rfl ?_
  simp only [List.append_assoc, List.cons_append, List.nil_append, r7, o7, List.set_cons_succ, List.set_cons_zero, List.length_append, List.length_cons, List.length_nil, Nat.reduceAdd, Nat.zero_add]
  refine c9.mA (β := h.length + 4) (k := 9) t30 rfl ?_
  simp only [List.append_assoc, List.cons_append, List.nil_append, r7, o7, List.set_cons_succ, List.set_cons_zero, List.length_append, List.length_cons, List.length_nil, Nat.reduceAdd, Nat.zero_add]
  refine c53z ?_
  refine .z7 (fun m st => ∃ (i : Nat), (m = (p.funcs.getD j g9).params.length - i ∧ i ≤ (p.funcs.getD j g9).params.length) ∧ st = ⟨mkS 136 [(5, AV.ptr (h.length + 1) 0 0), (6, AV.ptr (h.length + 2) 0 0), (10, AV.ptr (h.length + 4) 0 0), (11, AV.ptr (h.length + 7) 0 0), (12, AV.int .i64 ((i : Nat) : Int))], h ++ [⟨0, false, 27, 3, [.vec p.globals.length (o8 p.globals), .vec p.c4.length (g5 p.c4), .vec p.funcs.length (n6 p.funcs)], 0⟩, ⟨0, false, 101, 3, [.str (p.funcs.getD j g9).name, .vec (p.funcs.getD j g9).params.length (s4 (p.funcs.getD j g9).params), .vec (p.funcs.getD j g9).body.len (n8 (p.funcs.getD j g9).body)], 0⟩, ⟨0, false, 80, 5, [.str ByteArray.empty, .int .i64 0, .int .i64 0, .int .i64 0, .j6], 0⟩, ⟨1 + i, false, 110, 3, j0 (aB p ++ kA ((p.funcs.getD j g9).params.take i) 0 0), 0⟩, ⟨0, false, 148, 10, [.vec p.globals.length (o8 p.globals), .vec p.c4.length (g5 p.c4), .vec p.funcs.length (n6 p.funcs), .own (h.length + 3) (1 + i) 0 ((aB p).length + i), .int .i64 0, .int .i64 0, .int .i64 0, .int .i64 0, .own (h.length + 5) 0 0 0, .own (h.length + 6) 0 0 0], 0⟩, ⟨0, true, 0, 0, [], 0⟩, ⟨0, true, 0, 0, [], 0⟩, ⟨0, false, 80, 5, [.str (p.funcs.getD j g9).name, .int .i64 ((eH ((p.funcs.getD j g9).params.take i) : Nat) : Int), .int .i64 ((aH ((p.funcs.getD j g9).params.take i) : Nat) : Int), .int .i64 0, .j6], 0⟩]⟩) (.v ⟨0, ⟨rfl, by omega⟩, rfl⟩) ?_ (he := by (simp [kA, eH, aH]))
  rintro m sl h' ⟨i, ⟨hm, hi⟩, hst⟩
  obtain ⟨rfl, rfl⟩ := St.mk.inj hst; clear hst
  have hLl : (aB p ++ kA ((p.funcs.getD j g9).params.take i) 0 0).length = (aB p).length + i := by simp only [List.length_append, R9, List.length_take]; omega
  have hpl : (kA ((p.funcs.getD j g9).params.take i) 0 0).length = i := by simp only [R9, List.length_take]; omega
  have hne : j0 (aB p ++ kA ((p.funcs.getD j g9).params.take i) 0 0) ≠ [] := by intro h0; have := congrArg List.length h0; rw [p6] at this; simp only [List.length_nil] at this; omega
  have hni := S2 (l := (p.funcs.getD j g9).params.take i); have hnl := B5 (l := (p.funcs.getD j g9).params.take i); rw [List.length_take] at hni hnl
  refine c0z ?_
  refine u2z ?_ ?_
  ·intro e1 qe1
   refine c2z ?_
   refine .seq ?_
   have hfn := findP hp hj (i := i) (by omega)
   refine .sg s9 (mkH 17 [0, 1, 3, 7, 0, 16, 0, 112, 240, 496, 1023, 2047, 4095, 4095, 0, 24575, 65535] [10, 14, 15] [(14, 0)] [0, 1024, 16384, 17408, 50176] [0, 1, 2, 3, 4, 5, 6, 7, 8, 9, 10, 11, 12, 13]) 1 ?_
   refine s8.w7 t23 ?_
   refine .p 3 ?_
   refine c107z ?_
   refine c160z ?_
   refine .cm [true] [1024, 0] [_] rfl rfl (by simp only [iV, and_true, List.cons_append, List.nil_append]; exact yH t189 hLl (by omega) hfn) ?_
   refine .p 3 ?_
   refine .en [true, true] [17408, 16384, 1024, 0] [_, _] ?_
   refine .en [true, false, false, false] [50176, 17408, 16384, 1024, 0] [_] ?_
   refine .p 1 ?_
   refine s8.pop [false, false, true, false, true] (by kernel_rfl) (by simp only [pZ, and_true, List.cons_append, List.nil_append]; exact ⟨bX.p5 rfl rfl rfl rfl hb51 (yH t189 hLl (by omega) hfn) rfl, bX.p5 rfl rfl rfl rfl hb51 (yH t189 hLl (by omega) hfn) rfl⟩) ?_
   refine c134z ?_
   refine .po [false, false, true, false, true] ?_
   refine s8.nil rfl ?_
   refine .c7 [5, 6, 10, 11, 12, 14] ?_
   refine c8z ?_
   refine .sk ?_
   refine .z ?_
   refine u2z ?_ ?_
   ·intro e2 qe2
    refine .c7 [5, 6, 10, 11, 12] ?_
    refine .sg s9 (mkH 19 [0, 0, 2, 6, 14, 0, 32, 0, 224, 480, 992, 0, 2048, 8160, 16352, 32766, 65535, 131071, 262143] [14, 15, 18] [] [0, 16384, 49152, 311296] [0, 1, 2, 3, 4]) 0 ?_
    refine c187z ?_
    refine c161z ?_
    refine c89z ?_
    refine c161z ?_
    refine .p 1 ?_
    refine .en [true] [16384, 0] [_] ?_
    refine .en [true, false] [49152, 16384, 0] [_] ?_
    refine .p 2 ?_
    refine .en [true, false, false] [311296, 49152, 16384, 0] [_] ?_
    refine c27z ?_
    refine .c7 [5, 6, 10, 11, 12] ?_
    refine c46z ?_
    have hmu : ((p.funcs.getD j g9).params.getD i fR).mu = true := by simp_all
    have hs1 : kA ((p.funcs.getD j g9).params.take (i + 1)) 0 0 = kA ((p.funcs.getD j g9).params.take i) 0 0 ++ [⟨((p.funcs.getD j g9).params.getD i fR).name, 5, ((aH ((p.funcs.getD j g9).params.take i) : Nat) : Int)⟩] := by rw [pN (by omega), oD, hmu]; simp
    have hs2 : eH ((p.funcs.getD j g9).params.take (i + 1)) = eH ((p.funcs.getD j g9).params.take i) + 0 := by rw [pN (by omega), vR, hmu]; rfl
    have hs3 : aH ((p.funcs.getD j g9).params.take (i + 1)) = aH ((p.funcs.getD j g9).params.take i) + 1 := by rw [pN (by omega), tR, hmu]; rfl
    exact ⟨_, by omega, .v ⟨(i + 1), ⟨rfl, by omega⟩, rfl⟩ (he := t121) (hk := t72)⟩
   intro e2 qe2
   refine .c7 [5, 6, 10, 11, 12] ?_
   refine .sg s9 (mkH 19 [0, 0, 2, 6, 14, 0, 32, 0, 224, 480, 992, 0, 2048, 8160, 16352, 32766, 65535, 131071, 262143] [14, 15, 18] [] [0, 16384, 49152, 311296] [0, 1, 2, 3, 4]) 0 ?_
   refine c187z ?_
   refine c161z ?_
   refine c89z ?_
   refine c161z ?_
   refine .p 1 ?_
   refine .en [true] [16384, 0] [_] ?_
   refine .en [true, false] [49152, 16384, 0] [_] ?_
   refine .p 2 ?_
   refine .en [true, false, false] [311296, 49152, 16384, 0] [_] ?_
   refine c27z ?_
   refine .c7 [5, 6, 10, 11, 12, 80] ?_
   refine c46z ?_
   have hmu : ((p.funcs.getD j g9).params.getD i fR).mu = false := by simp_all
   have hs1 : kA ((p.funcs.getD j g9).params.take (i + 1)) 0 0 = kA ((p.funcs.getD j g9).params.take i) 0 0 ++ [⟨((p.funcs.getD j g9).params.getD i fR).name, 4, ((eH ((p.funcs.getD j g9).params.take i) : Nat) : Int)⟩] := by rw [pN (by omega), oD, hmu]; simp
   have hs2 : eH ((p.funcs.getD j g9).params.take (i + 1)) = eH ((p.funcs.getD j g9).params.take i) + 1 := by rw [pN (by omega), vR, hmu]; rfl
   have hs3 : aH ((p.funcs.getD j g9).params.take (i + 1)) = aH ((p.funcs.getD j g9).params.take i) + 0 := by rw [pN (by omega), tR, hmu]; rfl
   exact ⟨_, by omega, .v ⟨(i + 1), ⟨rfl, by omega⟩, rfl⟩ (he := t121) (hk := t72)⟩
  intro e1 qe1
  refine .exit ?_
  obtain rfl : i = (p.funcs.getD j g9).params.length := by omega
  rw [List.take_length] at hLl hne ⊢
  rw [← hLl]
  refine c9.A0 (γ := h.length + 3) (β := h.length + 4) (k := 3) (off := 0) (len := (aB p ++ kA (p.funcs.getD j g9).params 0 0).length) (cs := j0 (aB p ++ kA (p.funcs.getD j g9).params 0 0)) t30 rfl (by simp only [p6]; omega) (by rw [List.drop_zero, List.take_of_length_le (by simp only [p6]; omega)]; exact (pL _).PR) t30 (by omega) rfl ?_
  refine c15z ?_
  refine .z ?_
  refine .c7 [5, 6, 10, 11] ?_
  refine c9.w7 (h ++ [⟨0, false, 27, 3, [.vec p.globals.length (o8 p.globals), .vec p.c4.length (g5 p.c4), .vec p.funcs.length (n6 p.funcs)], 0⟩, ⟨0, false, 101, 3, [.str (p.funcs.getD j g9).name, .vec (p.funcs.getD j g9).params.length (s4 (p.funcs.getD j g9).params), .vec (p.funcs.getD j g9).body.len (n8 (p.funcs.getD j g9).body)], 0⟩, ⟨0, false, 80, 5, [.str ByteArray.empty, .int .i64 0, .int .i64 0, .int .i64 0, .j6], 0⟩, cJ ⟨1 + (p.funcs.getD j g9).params.length, false, 110, 3, j0 (aB p ++ kA (p.funcs.getD j g9).params 0 0), 0⟩ (0 + (aB p ++ kA (p.funcs.getD j g9).params 0 0).length * 3), v8 (h.length + 4) (s0F p (p.funcs.getD j g9)), p4 77 12 (s0F p (p.funcs.getD j g9)).code.length (o3 (s0F p (p.funcs.getD j g9)).code), p4 3 1 (s0F p (p.funcs.getD j g9)).sites.length (g7 (s0F p (p.funcs.getD j g9)).sites), ⟨0, false, 80, 5, [.str (p.funcs.getD j g9).name, .int .i64 ((eH (p.funcs.getD j g9).params : Nat) : Int), .int .i64 ((aH (p.funcs.getD j g9).params : Nat) : Int), .int .i64 0, .j6], 0⟩]) (by simp only [s0F, v8, List.length_append, Nat.zero_add]; rfl) ?_
  generalize cJ ⟨1 + (p.funcs.getD j g9).params.length, false, 110, 3, j0 (aB p ++ kA (p.funcs.getD j g9).params 0 0), 0⟩ (0 + (aB p ++ kA (p.funcs.getD j g9).params 0 0).length * 3) = Lb
  have hni2 := S2 (l := (p.funcs.getD j g9).params)
  have hB0 : Bnd (s0F p (p.funcs.getD j g9)) (p.funcs.getD j g9).body.wt := ⟨by show 0 < (aB p ++ kA (p.funcs.getD j g9).params 0 0).length; omega, by show (aB p ++ kA (p.funcs.getD j g9).params 0 0).length + _ ≤ _; omega, by show 0 + _ ≤ _; omega, by show 0 + _ ≤ _; omega, by show 0 ≤ ((eH (p.funcs.getD j g9).params : Nat) : Int); omega, by show ((eH (p.funcs.getD j g9).params : Nat) : Int) + _ ≤ _; omega, Int.le_refl _, by show 0 + _ ≤ _; omega⟩
  refine c18z ?_
  refine .ch rfl rfl (NO (s := (s0F p (p.funcs.getD j g9))) (by omega) (sc_of hp.toGH hj) hbd.1 (bd_of hp) hB0) ?_
  refine .nil ?_
  have hc1 := gH (l0 := (s0F p (p.funcs.getD j g9)).l) (s := (s0F p (p.funcs.getD j g9))) (S := (p.funcs.getD j g9).body)
  have hc2 := gB (l0 := (s0F p (p.funcs.getD j g9)).l) (s := (s0F p (p.funcs.getD j g9))) (S := (p.funcs.getD j g9).body)
  change _ ≤ (s1F p (p.funcs.getD j g9)).code.length ∧ (s1F p (p.funcs.getD j g9)).code.length ≤ 0 + _ at hc1
  change _ ≤ (s1F p (p.funcs.getD j g9)).sites.length ∧ (s1F p (p.funcs.getD j g9)).sites.length ≤ 0 + _ at hc2
  refine c9.w7 (h ++ [⟨0, false, 27, 3, [.vec p.globals.length (o8 p.globals), .vec p.c4.length (g5 p.c4), .vec p.funcs.length (n6 p.funcs)], 0⟩, ⟨0, false, 101, 3, [.str (p.funcs.getD j g9).name, .vec (p.funcs.getD j g9).params.length (s4 (p.funcs.getD j g9).params), .vec (p.funcs.getD j g9).body.len (n8 (p.funcs.getD j g9).body)], 0⟩, ⟨0, false, 80, 5, [.str ByteArray.empty, .int .i64 0, .int .i64 0, .int .i64 0, .j6], 0⟩, Lb, v8 (h.length + 4) (s1F p (p.funcs.getD j g9)), p4 77 12 (s1F p (p.funcs.getD j g9)).code.length (o3 (s1F p (p.funcs.getD j g9)).code), p4 3 1 (s1F p (p.funcs.getD j g9)).sites.length (g7 (s1F p (p.funcs.getD j g9)).sites), ⟨0, false, 80, 5, [.str (p.funcs.getD j g9).name, .int .i64 ((eH (p.funcs.getD j g9).params : Nat) : Int), .int .i64 ((aH (p.funcs.getD j g9).params : Nat) : Int), .int .i64 0, .j6], 0⟩]) rfl ?_
  refine c125z ?_
  refine .ch rfl rfl (c_putF (s := (s1F p (p.funcs.getD j g9))) (by omega) (by omega) ⟨8, 0, false, j9, bA, [], []⟩ _ (by repeat' (first | exact trivial | exact mU.refl _ | exact .inl rfl | exact .inr ⟨rfl, rfl⟩ | refine ⟨?_, ?_⟩))) ?_
  refine .nil ?_
  refine .c7 [6, 10, 11] ?_
  refine c9.w7 (h ++ [⟨0, false, 27, 3, [.vec p.globals.length (o8 p.globals), .vec p.c4.length (g5 p.c4), .vec p.funcs.length (n6 p.funcs)], 0⟩, ⟨0, false, 101, 3, [.str (p.funcs.getD j g9).name, .vec (p.funcs.getD j g9).params.length (s4 (p.funcs.getD j g9).params), .vec (p.funcs.getD j g9).body.len (n8 (p.funcs.getD j g9).body)], 0⟩, ⟨0, false, 80, 5, [.str ByteArray.empty, .int .i64 0, .int .i64 0, .int .i64 0, .j6], 0⟩, Lb, v8 (h.length + 4) (s2F p (p.funcs.getD j g9)), p4 77 12 (s2F p (p.funcs.getD j g9)).code.length (o3 (s2F p (p.funcs.getD j g9)).code), p4 3 1 (s2F p (p.funcs.getD j g9)).sites.length (g7 (s2F p (p.funcs.getD j g9)).sites), ⟨0, false, 80, 5, [.str (p.funcs.getD j g9).name, .int .i64 ((eH (p.funcs.getD j g9).params : Nat) : Int), .int .i64 ((aH (p.funcs.getD j g9).params : Nat) : Int), .int .i64 0, .j6], 0⟩]) rfl ?_
  refine c9.nP (γ := h.length + 5) (β := h.length + 4) (k := 8) (len := (s2F p (p.funcs.getD j g9)).code.length) t30 (by rw [s5]; omega) (by omega) (QV _) t30 (by omega) rfl ?_
  simp only [yE, tM, tN, yF, yG, pJ, List.append_assoc, List.cons_append, List.nil_append, r7, o7, List.set_cons_succ, List.set_cons_zero, List.length_append, List.length_cons, List.length_nil, Nat.reduceAdd, Nat.zero_add]
  generalize fQ 77 12 (s2F p (p.funcs.getD j g9)).code.length (o3 (s2F p (p.funcs.getD j g9)).code) ((s2F p (p.funcs.getD j g9)).code.length * 12) = Cb
  refine c9.nP (γ := h.length + 6) (β := h.length + 4) (k := 9) (len := (s2F p (p.funcs.getD j g9)).sites.length) t30 (by rw [l9]; omega) (by omega) (uY _) t30 (by omega) rfl ?_
  simp only [List.append_assoc, List.cons_append, List.nil_append, r7, o7, List.set_cons_succ, List.set_cons_zero, List.length_append, List.length_cons, List.length_nil, Nat.reduceAdd, Nat.zero_add]
  generalize fQ 3 1 (s2F p (p.funcs.getD j g9)).sites.length (g7 (s2F p (p.funcs.getD j g9)).sites) ((s2F p (p.funcs.getD j g9)).sites.length * 1) = Sb
  refine .sg s9 (mkH 12 [0, 1, 3, 7, 0, 16, 48, 112, 15, 271, 1023, 2047] [9, 11] [] [0, 512, 2560] [4, 5, 6, 7]) 0 ?_
  refine c89z ?_
  refine c160z ?_
  refine .p 1 ?_
  refine .en [true] [512, 0] [_] ?_
  refine .p 1 ?_
  refine .en [true, false] [2560, 512, 0] [_] ?_
  refine c169z ?_
  refine .c7 [6, 10, 11] ?_
  refine .sg s9 (mkH 17 [0, 0, 2, 6, 14, 0, 32, 96, 224, 0, 512, 1536, 3584, 1, 8223, 25087, 65535] [13] [] [0, 8192] [1, 2, 3, 4, 5, 6, 7, 8, 9, 10, 11, 12]) 0 ?_
  refine .rn [true] ?_
  refine c160z ?_
  refine c160z ?_
  refine c160z ?_
  refine .en [true] [8192, 0] [_] ?_
  refine .p 3 ?_
  refine .po [true, true] ?_
  refine .po [true, true] ?_
  refine .po [true, true] ?_
  refine s8.nil rfl ?_
  exact .ret (.ex (hq := by rfl))
end
theorem plnMx (l : List Mx) : w6 (g5 l) := w6.flat fun _ => w6.cons .str (w6.cons .bool (w6.cons .int .nil))
theorem plnPr (l : List Pr) : w6 (j7 l) := w6.flat fun _ => w6.cons .str (w6.cons .int (w6.cons .int (w6.cons .int (w6.cons .vec .nil))))
theorem J4 {l : List Pr} {x : Pr} : j7 (l ++ [x]) = j7 l ++ sU x := by simp [j7]
theorem Z2 {l : List Gl} (h : i < l.length) : List.take 1 (List.drop (i * 2 + 1) (o8 l)) = [.int .i64 (l.getD i jZ).init] := Y9 X2 2 1 (fun _ => rfl) (by omega) jZ h
theorem app_cpM {l : c6} {ms : List Mx} (hz : ms.length = n) (h0 : 0 < n) (hn : n < 1000) : j5 cfg 66 (h ++ (b0 :: b1 :: b2 :: ⟨1, false, 66, 3, [], 0⟩ :: l)) (.own (h.length + 3) 1 0 0) (.vec n (g5 ms)) = some (.own (h.length + 3) 2 0 n, h ++ (b0 :: b1 :: b2 :: ⟨2, false, 66, 3, g5 ms, 0⟩ :: l)) := by
  subst hz
  have e1 : cfg.sz 66 = 3 := rfl
  have e2 : (cfg.ti 66).bytes = 32 := rfl
  have hm : ms.length ≤ maxLen := by
    have : (1000 : Nat) ≤ maxLen := by decide
    omega
  have hb : ms.length * 32 ≤ 140737488355328 := by omega
  have h1 : (g5 ms).length = ms.length * 3 := by rw [n5]; omega
  have h2 : ¬ ms.length = 0 := by omega
  have h3 : ¬ ms.length * 3 = 0 := by omega
  simp [j5, rd, lenOf, e1, e2, h1, hm, hb, r7, o7, h0, h2, h3]
theorem app_gi {l : c6} {is : List Int} {x : Int} (hn : is.length = n) (hl : n < 100000) : j5 cfg 3 (h ++ (b0 :: b1 :: b2 :: b3 :: b4 :: p4 3 1 g (g7 is) :: ⟨0, false, 3, 1, [.int .i64 x], 0⟩ :: l)) (.own (h.length + 5) g 0 n) (.own (h.length + 6) 0 0 1) = some (.own (h.length + 5) (g + 1) 0 (n + 1), h ++ (b0 :: b1 :: b2 :: b3 :: b4 :: p4 3 1 (g + 1) (g7 (is ++ [x])) :: ⟨0, false, 3, 1, [.int .i64 x], 0⟩ :: l)) := by
  subst hn
  rw [z1 (C := cfg) (K := 1) (m := 1) (new := [.int .i64 x]) (zs := g7 is) t30 rfl (by omega) (by rw [l9, Nat.mul_one]) rfl (by omega) t161 rfl (by decide) (by omega), ← nZ, o7]
  rfl
theorem app_pr {b5 b7 : Blk} {l : c6} {ps : List Pr} {x : Pr} (hn : ps.length = n) (hl : n < 100000) : j5 cfg 80 (h ++ (b0 :: b1 :: b2 :: b3 :: b4 :: b5 :: p4 80 5 g (j7 ps) :: b7 :: ⟨0, false, 80, 5, sU x, 0⟩ :: l)) (.own (h.length + 6) g 0 n) (.own (h.length + 8) 0 0 1) = some (.own (h.length + 6) (g + 1) 0 (n + 1), h ++ (b0 :: b1 :: b2 :: b3 :: b4 :: b5 :: p4 80 5 (g + 1) (j7 (ps ++ [x])) :: b7 :: ⟨0, false, 80, 5, sU x, 0⟩ :: l)) := by
  subst hn
  rw [z1 (C := cfg) (K := 5) (m := 1) (new := sU x) (zs := j7 ps) t30 rfl (by omega) (by rw [aK, Nat.mul_comm]) rfl (by omega) (by simp [rd, r7, sU]) rfl (by decide) (by omega), ← J4, o7]
  rfl
theorem NQ {l : List Fu} (h : 0 < l.length) : List.take 1 (List.drop 1 (n6 l)) = [AV.vec (l.getD 0 g9).params.length (s4 (l.getD 0 g9).params)] := lQ (i := 0) h
theorem FN (hp : GP p) : aV (aB p) ⟨#[109, 97, 105, 110]⟩ = some ⟨⟨#[109, 97, 105, 110]⟩, 3, 0⟩ := by
  have hf := hp.fl.1
  have hn : (p.funcs.getD 0 g9).name = ⟨#[109, 97, 105, 110]⟩ := (hp.fn 0 (by omega)).1
  have := pF (vQ hp) (e := ⟨(p.funcs.getD 0 g9).name, 3, ((0 : Nat) : Int)⟩) (List.mem_append.2 (.inr (List.mem_append.2 (.inr (List.mem_map.2 ⟨0, List.mem_range.2 (by omega), rfl⟩)))))
  rw [hn] at this
  exact this
theorem taken {α : Type} {l : List α} {d : α} (h : i < l.length) : l.take (i + 1) = l.take i ++ [l.getD i d] := by
  rw [List.take_add_one]
  simp [List.getD, h]
theorem FO {x : Pr} : (sU x).length = 5 := rfl
theorem takePr {x : Pr} : List.take 5 (sU x) = sU x := rfl
section
attribute [local go_sem] app_cpM app_gi app_pr lQ NQ Z2 sT FO takePr
theorem c_lower (hp : GP p) : CB 28 [.agg [.vec p.globals.length (o8 p.globals), .vec p.c4.length (g5 p.c4), .vec p.funcs.length (n6 p.funcs)]] h (.tup [.agg (encUn (cB p)), .int .i64 0, .int .i64 0, .int .i64 0]) := by
  refine .bz Tryz.f28 112 ?_
  have hdl := oC (p := p)
  have hgl := hp.gl
  have hml := hp.ml
  have hfl := hp.fl
  have hmain := FN hp
  have hz0 : (p.funcs.getD 0 g9).params.length = 0 := by rw [(hp.fn 0 (by omega)).2.1 rfl]; rfl
  refine c26z ?_
  refine c66z ?_
  refine .ca rfl rfl (c_valid hp) ?_
  refine .n ?_
  refine c17z ?_
  refine c66z ?_
  refine .ca rfl rfl (c_decl hp) ?_
  refine c38z ?_
  refine .c7 [1, 2, 6, 7] ?_
  refine c8z ?_
  refine .sk ?_
  refine c66z ?_
  refine .ca rfl rfl (J0 hmain (by omega)) ?_
  refine c38z ?_
  refine .s ?_
  refine .k 8 [(2, 37)] ?_
  refine .k 8 [(7, 42)] ?_
  refine .m [(7, 42)] ?_
  refine uFbz ?_
  intro e1 qe1
  refine .sk ?_
  refine .c7 [1, 2, 6, 8, 30] ?_
  refine .sg s9 (mkH 9 [0, 1, 0, 0, 8, 28, 63, 0, 255] [2, 5, 7, 8] [(2, 0), (7, 1)] [0, 4, 36, 128, 132, 164, 420] [0, 1, 2, 3, 4, 5, 6]) 2 ?_
  refine c34z ?_
  refine .em [true] [4, 0] [_] ?_
  refine .p 1 ?_
  refine .rm [true, true] ?_
  refine .em [true, false] [36, 4, 0] [_] ?_
  refine .p 1 ?_
  refine .en [true, true, true] [164, 132, 128, 36, 4, 0] [_, _, _] ?_
  refine .en [true, false, false, false, false, false] [420, 164, 132, 128, 36, 4, 0] [_] ?_
  refine .po [false, false, true, false, false, true, false] ?_
  refine .po [false, false, true, true, false, true, true] ?_
  refine .po [false, false, false, true, false, false, true] ?_
  refine .po [false, true, true, true, true, true, true] ?_
  refine s8.nil rfl ?_
  refine .seq ?_
  refine .c7 [1, 2, 6, 10, 30] ?_
  refine c24z ?_
  refine c9.mA (β := h.length + 4) (k := 0) t30 rfl ?_
  simp only [List.append_assoc, List.cons_append, List.nil_append, r7, o7, List.set_cons_succ, List.set_cons_zero, List.length_append, List.length_cons, List.length_nil, Nat.reduceAdd, Nat.zero_add]
  refine .z7 (fun m st => ∃ (i : Nat), (m = p.globals.length - i ∧ i ≤ p.globals.length) ∧ st = ⟨mkS 112 [(1, AV.ptr h.length 0 0), (2, AV.ptr (h.length + 1) 0 0), (6, AV.vec (aB p).length (j0 (aB p))), (10, AV.ptr (h.length + 4) 1 0), (11, AV.int .i64 ((i : Nat) : Int))], h ++ [⟨0, false, 27, 3, [.vec p.globals.length (o8 p.globals), .vec p.c4.length (g5 p.c4), .vec p.funcs.length (n6 p.funcs)], 0⟩, ⟨0, false, 30, 4, [.j6, .j6, .j6, .int .i64 0], 0⟩, ⟨0, false, 110, 3, [.str ⟨#[109, 97, 105, 110]⟩, .int .i64 3, .int .i64 0], 0⟩, ⟨2, false, 66, 3, g5 p.c4, 0⟩, ⟨1, false, 30, 4, [.own (h.length + 5) i 0 i, .own (h.length + 3) 2 0 p.c4.length, .j6, .int .i64 0], 0⟩, p4 3 1 i (g7 ((cB p).globals.take i))]⟩) (.v ⟨0, ⟨rfl, by omega⟩, rfl⟩) ?_
  rintro m sl h' ⟨i, ⟨hm, hi⟩, hst⟩
  obtain ⟨rfl, rfl⟩ := St.mk.inj hst; clear hst
  have htl : ((cB p).globals.take i).length = i := by simp [cB]; omega
  refine c0z ?_
  refine u2z ?_ ?_
  ·intro e2 qe2
   refine c2z ?_
   refine .og s9 (mkH 12 [0, 1, 0, 4, 0, 28, 60, 124, 252, 511, 1023, 2047] [8, 9, 11] [] [0, 256, 768, 2816] [0, 1]) 0 ?_
   refine c34z ?_
   refine c161z ?_
   refine c89z ?_
   refine .en [true] [256, 0] [_] ?_
   refine .en [true, false] [768, 256, 0] [_] ?_
   refine .p 1 ?_
   refine .en [true, false, false] [2816, 768, 256, 0] [_] ?_
   refine c137z ?_
   refine .c7 [1, 2, 6, 10, 11] ?_
   refine .rz ?_
   exact ⟨_, by omega, .v ⟨(i + 1), ⟨rfl, by omega⟩, rfl⟩ (he := by (rw [taken (d := 0) (l := (cB p).globals) (by simp [cB]; omega), show (cB p).globals.getD i 0 = (p.globals.getD i jZ).init from getD_map (by omega)]; simp only [List.append_assoc, List.cons_append, List.nil_append]; rfl)) (hk := by exact (z5.refl _).app rfl ⟨.inl rfl, .inl rfl, .inl rfl, .inl rfl, .inr (eX.get ⟨.own _ _ _ _ (by simp), .own _ _ _ _ (by simp), .j6, .int _ _, trivial⟩), .inr (by rw [o6]; exact (uY _).refs _), trivial⟩)⟩
  intro e2 qe2
  refine .exit ?_
  obtain rfl : i = p.globals.length := by omega
  change c9 ..
  refine c4z ?_
  refine c9.mA (β := h.length + 4) (k := 2) t30 rfl ?_
  simp only [List.append_assoc, List.cons_append, List.nil_append, r7, o7, List.set_cons_succ, List.set_cons_zero, List.length_append, List.length_cons, List.length_nil, Nat.reduceAdd, Nat.zero_add]
  refine .z7 (fun m st => ∃ (i : Nat), (m = p.funcs.length - i ∧ i ≤ p.funcs.length) ∧ st = ⟨mkS 112 [(1, AV.ptr h.length 0 0), (2, AV.ptr (h.length + 1) 0 0), (6, AV.vec (aB p).length (j0 (aB p))), (10, AV.ptr (h.length + 4) 1 0), (12, AV.int .i64 ((i : Nat) : Int))], h ++ [⟨0, false, 27, 3, [.vec p.globals.length (o8 p.globals), .vec p.c4.length (g5 p.c4), .vec p.funcs.length (n6 p.funcs)], 0⟩, ⟨0, false, 30, 4, [.j6, .j6, .j6, .int .i64 0], 0⟩, ⟨0, false, 110, 3, [.str ⟨#[109, 97, 105, 110]⟩, .int .i64 3, .int .i64 0], 0⟩, ⟨2, false, 66, 3, g5 p.c4, 0⟩, ⟨1, false, 30, 4, [.own (h.length + 5) p.globals.length 0 p.globals.length, .own (h.length + 3) 2 0 p.c4.length, .own (h.length + 6) i 0 i, .int .i64 0], 0⟩, p4 3 1 p.globals.length (g7 ((cB p).globals.take p.globals.length)), p4 80 5 i (j7 ((cB p).procs.take i))]⟩) (.v ⟨0, ⟨rfl, by omega⟩, rfl⟩) ?_
  rintro m sl h' ⟨i, ⟨hm, hi⟩, hst⟩
  obtain ⟨rfl, rfl⟩ := St.mk.inj hst; clear hst
  have htl : ((cB p).procs.take i).length = i := by simp [cB]; omega
  refine c0z ?_
  refine u2z ?_ ?_
  ·intro e3 qe3
   refine c2z ?_
   refine .sg s9 (mkH 18 [0, 0, 0, 4, 0, 28, 60, 127, 255, 511, 511, 511, 511, 0, 9215, 26623, 61439, 131071] [13, 14] [] [0, 8192, 24576] [0, 1, 2, 3, 4, 5, 6, 7, 8, 9, 10, 11, 12]) 0 ?_
   refine .rm [true] ?_
   refine .p 2 ?_
   refine .rm [true] ?_
   refine .p 2 ?_
   refine .rm [true] ?_
   refine .cl rfl rfl (fun _ => c_func hp (by omega)) ?_
   refine .p 5 ?_
   refine .en [true] [8192, 0] [_] ?_
   refine .en [true, false] [24576, 8192, 0] [_] ?_
   refine .p 3 ?_
   refine c35z ?_
   refine c169z ?_
   refine .seq ?_
   refine .c7 [1, 2, 6, 10, 12, 13, 15, 16] ?_
   refine c8z ?_
   refine .sk ?_
   refine c1z ?_
   refine .c7 [1, 2, 6, 10, 12] ?_
   refine .rz ?_
   exact ⟨_, by omega, .v ⟨(i + 1), ⟨rfl, by omega⟩, rfl⟩ (he := by (rw [taken (d := nR) (l := (cB p).procs) (by simp [cB]; omega), show (cB p).procs.getD i nR = mB p (p.funcs.getD i g9) from getD_map (by omega)]; simp only [List.append_assoc, List.cons_append, List.nil_append]; rfl)) (hk := by exact (z5.refl _).app rfl ⟨.inl rfl, .inl rfl, .inl rfl, .inl rfl, .inr (eX.get ⟨.own _ _ _ _ (by simp), .own _ _ _ _ (by simp), .own _ _ _ _ (by simp), .int _ _, trivial⟩), .inl rfl, .inr (by rw [o6]; exact (plnPr _).refs _), trivial⟩)⟩
  intro e3 qe3
  refine .exit ?_
  obtain rfl : i = p.funcs.length := by omega
  have hgt : (cB p).globals.take p.globals.length = (cB p).globals := List.take_of_length_le (by simp [cB])
  have hpt : (cB p).procs.take p.funcs.length = (cB p).procs := List.take_of_length_le (by simp [cB])
  rw [hgt, hpt]
  have hgl2 : (cB p).globals.length = p.globals.length := by simp [cB]
  have hpl2 : (cB p).procs.length = p.funcs.length := by simp [cB]
  refine c9.nP (γ := h.length + 5) (β := h.length + 4) (k := 0) (len := p.globals.length) t30 (by rw [l9, hgl2, Nat.mul_one]) (by omega) (uY _) t30 (by omega) rfl ?_
  simp only [List.append_assoc, List.cons_append, List.nil_append, r7, o7, List.set_cons_succ, List.set_cons_zero, List.length_append, List.length_cons, List.length_nil, Nat.reduceAdd, Nat.zero_add]
  generalize fQ 3 1 p.globals.length (g7 (cB p).globals) (p.globals.length * 1) = Gb
  refine c9.nP (γ := h.length + 6) (β := h.length + 4) (k := 2) (len := p.funcs.length) t30 (by rw [aK, hpl2, Nat.mul_comm]) (by omega) (plnPr _) t30 (by omega) rfl ?_
  simp only [List.append_assoc, List.cons_append, List.nil_append, r7, o7, List.set_cons_succ, List.set_cons_zero, List.length_append, List.length_cons, List.length_nil, Nat.reduceAdd, Nat.zero_add]
  generalize fQ 80 5 p.funcs.length (j7 (cB p).procs) (p.funcs.length * 5) = Pb
  refine c9.A0 (γ := h.length + 3) (β := h.length + 4) (k := 1) (off := 0) (len := p.c4.length) (cs := g5 p.c4) t30 rfl (by simp only [n5]; omega) (by rw [List.drop_zero, List.take_of_length_le (by simp only [n5]; omega)]; exact (plnMx _).PR) t30 (by omega) rfl ?_
  refine c15z ?_
  refine .c7 [2, 10] ?_
  refine .z ?_
  exact .ret (.ex (hq := by (simp only [encUn, hgl2, hpl2]; rfl)))
end
end Go.Proofs.YtfbjlfhjkojmkaaGreat
end
section
namespace Go.Proofs.YtfbjlfhjkojmkaaGreat
open Go.Ab Go.Un
variable {a b : List Int} {i : Nat}
theorem ne_at (h : a.getD i 0 ≠ b.getD i 0) : ¬ a = b := fun e => h (by rw [e])
theorem eq_all (hl : a.length = b.length) (h : ∀ d, d < a.length → a.getD d 0 = b.getD d 0) : a = b := by
  refine List.ext_getElem hl fun i h1 h2 => ?_
  have := h i h1
  simpa [List.getD, h1, h2] using this
theorem all_nx (h : ∀ d, d < i → a.getD d 0 = b.getD d 0) (e : a.getD i 0 = b.getD i 0) : ∀ d, d < i + 1 → a.getD d 0 = b.getD d 0 := fun d hd => by
  by_cases hdi : d = i
  · rw [hdi]; exact e
  · exact h d (by omega)
variable {l : List Int} {n : Int}
theorem no_nx (h : ∀ d, d < i → l.getD d 0 ≠ n) (e : l.getD i 0 ≠ n) : ∀ d, d < i + 1 → l.getD d 0 ≠ n := fun d hd => by
  by_cases hdi : d = i
  · rw [hdi]; exact e
  · exact h d (by omega)
theorem no_mem (h : ∀ d, d < l.length → l.getD d 0 ≠ n) : ¬ n ∈ l := fun hm => by
  obtain ⟨i, hi, rfl⟩ := bB (d := (0 : Int)) hm
  exact h i hi rfl
theorem take_I {k : Nat} : List.take k (g7 l) = g7 (l.take k) := by simp [g7, List.map_take]
theorem dropt_I {k : Nat} : List.take (l.length - k) (List.drop k (g7 l)) = g7 (l.drop k) := by
  rw [g7, ← List.map_drop, List.take_of_length_le (by simp)]; rfl
theorem lC (h : i < l.length) : List.take 1 (List.drop i (g7 l)) = [.int .i64 (l.getD i 0)] := by
  have h2 : i < (g7 l).length := by rw [l9]; exact h
  rw [List.drop_eq_getElem_cons h2]
  simp [g7, List.getD, h]
def gW (g n : Nat) : Nat := if n = 0 then g else g + 1
def kW (l : List Int) (n : Int) : Nat := (l.takeWhile fun x => decide (x < n)).length
def iE (l : List Int) (n : Int) : List Int := if n ∈ l then l else l.take (kW l n) ++ n :: l.drop (kW l n)
theorem kW_at : ∀ {k : Nat}, k ≤ l.length → (∀ d, d < k → l.getD d 0 < n) → (k < l.length → ¬ l.getD k 0 < n) → k = kW l n := by
  induction l with
  | nil => intro k hk _ _; simp at hk; subst hk; rfl
  | cons x l ih =>
    intro k hk h1 h2
    cases k with
    | zero =>
      have := h2 (by simp)
      simp only [List.getD_cons_zero] at this
      simp [kW, List.takeWhile, this]
    | succ k =>
      have h0 := h1 0 (by omega)
      simp only [List.getD_cons_zero] at h0
      have := ih (k := k) (by simpa using hk) (fun d hd => by have := h1 (d + 1) (by omega); simpa using this) (fun hl => by have := h2 (by simpa using hl); simpa using this)
      rw [kW, List.takeWhile_cons_of_pos (by simpa using h0), List.length_cons, this]
      rfl
theorem lt_nx (h : ∀ d, d < i → l.getD d 0 < n) (e : l.getD i 0 < n) : ∀ d, d < i + 1 → l.getD d 0 < n := fun d hd => by
  by_cases hdi : d = i
  · rw [hdi]; exact e
  · exact h d (by omega)
variable {h : c6} {g : Nat}
theorem app_w {l : c6} {n m : Nat} (ha : a.length = n) (hb : b.length = m) (hn : n < 150000) (hm : m < 100000) : j5 cfg 3 (h ++ (⟨g, false, 3, 1, g7 a, 0⟩ :: l)) (.own h.length g 0 n) (.vec m (g7 b)) = some (.own h.length (gW g m) 0 (n + m), h ++ (⟨gW g m, false, 3, 1, g7 (a ++ b), 0⟩ :: l)) := by
  subst ha hb
  have e1 : cfg.sz 3 = 1 := rfl
  have e2 : (cfg.ti 3).bytes = 8 := rfl
  have h1 : a.length + b.length ≤ maxLen := by
    have : (300000 : Nat) ≤ maxLen := by decide
    omega
  have h2 : (a.length + b.length) * 8 ≤ 140737488355328 := by omega
  have ht : List.take a.length (g7 a) = g7 a := List.take_of_length_le t181
  have hs : g7 (a ++ b) = g7 a ++ g7 b := by simp [g7]
  cases b with
  | nil =>
    simp only [List.length_nil, Nat.add_zero] at h1 h2
    simp [j5, rd, lenOf, e1, e2, gW, hs, g7, h1, h2]
  | cons x b =>
    simp only [List.length_cons] at h1 h2
    have h3 : ¬ a.length + (b.length + 1) ≤ a.length := by omega
    simp [j5, rd, lenOf, e1, e2, l9, h1, h2, ht, h3, gW, hs, gQ, wP]
theorem app_w0 {l : c6} {m : Nat} (hb : b.length = m) (hm : m < 100000) : j5 cfg 3 (h ++ (⟨g, false, 3, 1, [], 0⟩ :: l)) (.own h.length g 0 0) (.vec m (g7 b)) = some (.own h.length (gW g m) 0 m, h ++ (⟨gW g m, false, 3, 1, g7 b, 0⟩ :: l)) := by
  have := app_w (h := h) (l := l) (a := []) (b := b) (g := g) (n := 0) rfl hb (by omega) hm
  rw [Nat.zero_add] at this
  exact this
theorem app_w1 {l : c6} {x : Int} {n : Nat} (ha : a.length = n) (hn : n < 100000) : j5 cfg 3 (h ++ (⟨g, false, 3, 1, g7 a, 0⟩ :: ⟨1, false, 3, 1, [.int .i64 x], 0⟩ :: l)) (.own h.length g 0 n) (.own (h.length + 1) 1 0 1) = some (.own h.length (g + 1) 0 (n + 1), h ++ (⟨g + 1, false, 3, 1, g7 (a ++ [x]), 0⟩ :: ⟨1, false, 3, 1, [.int .i64 x], 0⟩ :: l)) := by
  subst ha
  have e1 : cfg.sz 3 = 1 := rfl
  have e2 : (cfg.ti 3).bytes = 8 := rfl
  have h1 : a.length + 1 ≤ maxLen := by
    have : (200000 : Nat) ≤ maxLen := by decide
    omega
  have h2 : (a.length + 1) * 8 ≤ 140737488355328 := by omega
  have ht : List.take a.length (g7 a) = g7 a := List.take_of_length_le t181
  have hs : g7 (a ++ [x]) = g7 a ++ [.int .i64 x] := nZ
  have h3 : ¬ a.length + 1 ≤ a.length := by omega
  simp [j5, rd, lenOf, e1, e2, l9, h1, h2, ht, h3, hs, r7, gQ, wP]
theorem frz_I {n d : Nat} {H : c6} : o2 (jX n H (d + 1)) (g7 l) = some (g7 l) := (uY l).frz _ _ _
theorem D5 {n β len : Nat} {H : c6} (hb : H[β]? = some ⟨g, false, 3, 1, g7 a, 0⟩) (hn : n ≤ β) (hl : a.length = len) : gJ n H 6 (.own β g 0 len) = some (.vec len (g7 a)) := by
  subst hl
  rw [dT, if_neg (by omega), fP, hb]
  simp only [hn, and_self, if_true, Bool.false_eq_true, if_false, Nat.zero_add, Nat.mul_one, l9, Nat.le_refl, List.drop_zero]
  rw [List.take_of_length_le t181, frz_I]
def fI : List u4 → u4 → Int
  | [], _ => -1
  | a :: l, x => if a = x then 0 else if fI l x < 0 then -1 else fI l x + 1
theorem fI_at : ∀ {l : List u4} {x : u4} {i : Nat}, i < l.length → (∀ d, d < i → l.getD d l4 ≠ x) → l.getD i l4 = x → fI l x = i
  | [], x, i, h, _, _ => by simp at h
  | a :: l, x, 0, _, _, h => by simp only [List.getD_cons_zero] at h; rw [fI, if_pos h]; rfl
  | a :: l, x, i + 1, hi, h1, h2 => by
    have h0 := h1 0 (by omega)
    simp only [List.getD_cons_zero] at h0
    have ih := fI_at (l := l) (x := x) (i := i) (by simpa using hi) (fun d hd => by have := h1 (d + 1) (by omega); simpa using this) (by simpa using h2)
    rw [fI, if_neg h0, ih, if_neg (by omega)]
    omega
theorem WB : ∀ {l : List u4} {x : u4}, (∀ d, d < l.length → l.getD d l4 ≠ x) → fI l x = -1
  | [], x, _ => rfl
  | a :: l, x, h => by
    have h0 := h 0 (by simp)
    simp only [List.getD_cons_zero] at h0
    have ih := WB (l := l) (x := x) (fun d hd => by have := h (d + 1) (by simpa using hd); simpa using this)
    rw [fI, if_neg h0, ih, if_pos (by omega)]
theorem S3 : ∀ {l : List u4} {x : u4}, x ∈ l → 0 ≤ fI l x ∧ fI l x < l.length ∧ l.getD (fI l x).toNat l4 = x
  | [], x, h => by simp at h
  | a :: l, x, h => by
    by_cases hx : a = x
    · rw [fI, if_pos hx]; simp [hx]
    · have ih := S3 (l := l) (x := x) (by simpa [Ne.symm hx] using h)
      rw [fI, if_neg hx, if_neg (by omega)]
      refine ⟨by omega, t57, ?_⟩
      rw [show (fI l x + 1).toNat = (fI l x).toNat + 1 from by omega]
      simpa using ih.2.2
variable {x : u4}
theorem fI_not {l : List u4} (h : x ∉ l) : fI l x = -1 := WB fun d hd e => h (e ▸ l3 hd)
theorem it_ne {l : List u4} (h : ∀ d, d < i → l.getD d l4 ≠ x) (e : l.getD i l4 ≠ x) : ∀ d, d < i + 1 → l.getD d l4 ≠ x := fun d hd => by
  by_cases hdi : d = i
  · rw [hdi]; exact e
  · exact h d (by omega)
theorem it_ne1 {l : List u4} (h : ¬ (l.getD i l4).proc = x.proc) : l.getD i l4 ≠ x := fun e => h (by rw [e])
theorem it_ne2 {l : List u4} (h : ¬ (l.getD i l4).j4 = x.j4) : l.getD i l4 ≠ x := fun e => h (by rw [e])
theorem lS {l : List u4} (h : i < l.length) : List.take 1 (List.drop (i * 2) (l5 l)) = [.int .i64 (l.getD i l4).proc] := Y9 X3 2 0 (fun _ => rfl) (by omega) l4 h
theorem S4 {l : List u4} (h : i < l.length) : List.take 1 (List.drop (i * 2 + 1) (l5 l)) = [.vec (l.getD i l4).j4.length (g7 (l.getD i l4).j4)] := Y9 X3 2 1 (fun _ => rfl) (by omega) l4 h
theorem lT {l : List u4} (h : i < l.length) : List.take 2 (List.drop (i * 2) (l5 l)) = [.int .i64 (l.getD i l4).proc, .vec (l.getD i l4).j4.length (g7 (l.getD i l4).j4)] := CV h
variable {u : Un} {it : u4}
theorem dD (h : it.proc.toNat < u.procs.length) : List.take 1 (List.drop (it.proc.toNat * 5 + 4) (j7 u.procs)) = [.vec (c8 u it).length (o3 (c8 u it))] := Y9 sU 5 4 (fun _ => rfl) (by omega) nR h
theorem gY {l : List Ins} (h : i < l.length) : List.take 1 (List.drop (i * 12) (o3 l)) = [.int .i64 (l.getD i g6).op] := by
  rw [show i * 12 = i * 12 + 0 from rfl, o3, Y9 dJ 12 0 aC (by omega) g6 h, jN]; rfl
theorem NR {l : List Ins} (h : i < l.length) : List.take 1 (List.drop (i * 12 + 1) (o3 l)) = [.int .i64 (l.getD i g6).target] := by
  rw [o3, Y9 dJ 12 1 aC (by omega) g6 h, jN]; rfl
theorem NS {l : List Ins} (h : i < l.length) : List.take 1 (List.drop (i * 12 + 11) (o3 l)) = [.vec (l.getD i g6).w4.length (cO (l.getD i g6).w4)] := by
  rw [o3, Y9 dJ 12 11 aC (by omega) g6 h, jN]; rfl
theorem NT {l : List Pl} (h : i < l.length) : List.take 3 (List.drop (i * 3) (cO l)) = [.bool (l.getD i bA).param, .int .i64 (l.getD i bA).index, .vec (l.getD i bA).at'.length (l8 (l.getD i bA).at')] := read_pl h
theorem app_lk {b0 b1 b2 b3 : Blk} {l : c6} {is : List Int} {x : Int} {n : Nat} (hn : is.length = n) (hl : n < 100000) : j5 cfg 3 (h ++ (b0 :: b1 :: b2 :: b3 :: p4 3 1 g (g7 is) :: ⟨0, false, 3, 1, [.int .i64 x], 0⟩ :: l)) (.own (h.length + 4) g 0 n) (.own (h.length + 5) 0 0 1) = some (.own (h.length + 4) (g + 1) 0 (n + 1), h ++ (b0 :: b1 :: b2 :: b3 :: p4 3 1 (g + 1) (g7 (is ++ [x])) :: ⟨0, false, 3, 1, [.int .i64 x], 0⟩ :: l)) := by
  subst hn
  rw [z1 (C := cfg) (K := 1) (m := 1) (new := [.int .i64 x]) (zs := g7 is) t30 rfl (by omega) (by rw [l9, Nat.mul_one]) rfl (by omega) t161 rfl (by decide) (by omega), ← nZ, o7]
  rfl
attribute [local go_sem] rd p6 m8 aN bQ s5 aC eE cK n5 aJ aA l9 aP Int.natCast_nonneg Int.natCast_inj List.length_map wrap64 eJ gV gX P6 B8 G9 P7 xO max2 dV bU aQ Nat.reduceMul lO iM gE tL lC app_w app_w0 app_w1 Nat.sub_zero Option.bind_eq_bind take_I dropt_I lS S4 lT dD gY NR NS NT app_lk u7 aK
theorem QX (a b : List Int) (hl : a.length < 1000000) : CB 20 [.vec a.length (g7 a), .vec b.length (g7 b)] h (.bool (decide (a = b))) := by
  refine .bz Tryz.f20 26 ?_
  refine c86z ?_
  refine u2z ?_ ?_
  ·intro e1 qe1
   refine c130z ?_
   exact ⟨[], _, (List.append_nil _).symm, t45, t54⟩
  intro e1 qe1
  refine .sk ?_
  refine c4z ?_
  refine .cI (fun m st => ∃ (i : Nat), (m = a.length - i ∧ ((∀ d, d < i → a.getD d 0 = b.getD d 0) ∧ i ≤ a.length)) ∧ st = ⟨mkS 26 [(0, AV.vec a.length (g7 a)), (1, AV.vec b.length (g7 b)), (5, AV.int .i64 ((i : Nat) : Int))], h⟩) _ (.v ⟨0, ⟨rfl, ⟨t104, by omega⟩⟩, rfl⟩) ?_
  rintro m sl h' ⟨i, ⟨hm, ⟨hI, hi⟩⟩, hst⟩
  obtain ⟨rfl, rfl⟩ := St.mk.inj hst
  refine c0z ?_
  refine u2z ?_ ?_
  ·intro e2 qe2
   refine c2z ?_
   refine .ss s9 (mkP 9 [0, 0, 3, 7, 0, 0, 48, 112, 255] []) ?_
   refine c59z ?_
   refine u2z ?_ ?_
   ·intro e3 qe3
    refine c130z ?_
    exact ⟨[], _, (List.append_nil _).symm, t45, t54⟩
   intro e3 qe3
   refine c5z ?_
   refine c192z ?_
   exact ⟨_, by omega, .v ⟨(i + 1), ⟨rfl, ⟨all_nx hI (by omega), by omega⟩⟩, rfl⟩⟩
  intro e2 qe2
  refine c90z ?_
  exact ⟨[], _, (List.append_nil _).symm, t45, t54⟩
theorem QY (l : List Int) (n : Int) (hl : l.length < 1000000) : CB 84 [.vec l.length (g7 l), .int .i64 n] h (.bool (decide (n ∈ l))) := by
  refine .bz Tryz.f84 18 ?_
  refine c53z ?_
  refine .cI (fun m st => ∃ (i : Nat), (m = l.length - i ∧ ((∀ d, d < i → l.getD d 0 ≠ n) ∧ i ≤ l.length)) ∧ st = ⟨mkS 18 [(0, AV.vec l.length (g7 l)), (1, AV.int .i64 n), (5, AV.int .i64 ((i : Nat) : Int))], h⟩) _ (.v ⟨0, ⟨rfl, ⟨t104, by omega⟩⟩, rfl⟩) ?_
  rintro m sl h' ⟨i, ⟨hm, ⟨hI, hi⟩⟩, hst⟩
  obtain ⟨rfl, rfl⟩ := St.mk.inj hst
  refine c0z ?_
  refine u2z ?_ ?_
  ·intro e1 qe1
   refine c87z ?_
   refine u2z ?_ ?_
   ·intro e2 qe2
    refine c130z ?_
    exact ⟨[], _, (List.append_nil _).symm, t45, t95⟩
   intro e2 qe2
   refine c5z ?_
   refine c192z ?_
   exact ⟨_, by omega, .v ⟨(i + 1), ⟨rfl, ⟨no_nx hI (by omega), by omega⟩⟩, rfl⟩⟩
  intro e1 qe1
  refine c90z ?_
  exact ⟨[], _, (List.append_nil _).symm, t45, t95⟩
theorem c_hasY (hm : n ∈ l) (hl : l.length < 1000000) : CB 84 [.vec l.length (g7 l), .int .i64 n] h (.bool true) := by
  have := QY (h := h) l n hl
  rw [decide_eq_true hm] at this
  exact this
theorem c_hasN (hm : n ∉ l) (hl : l.length < 1000000) : CB 84 [.vec l.length (g7 l), .int .i64 n] h (.bool false) := by
  have := QY (h := h) l n hl
  rw [decide_eq_false hm] at this
  exact this
theorem c_withY (l : List Int) (n : Int) (hl : l.length < 100000) (hmem : n ∈ l) : CB 55 [.vec l.length (g7 l), .int .i64 n] h (.vec (iE l n).length (g7 (iE l n))) := by
  refine .bz Tryz.f55 36 ?_
  refine c26z ?_
  refine c30z ?_
  refine .ca rfl rfl (c_hasY hmem (by omega)) ?_
  refine .nil ?_
  refine .T ?_
  refine .z ?_
  exact .ret (.ex (hq := by (rw [iE, if_pos hmem])))
theorem c_withN (l : List Int) (n : Int) (hl : l.length < 100000) (hmem : n ∉ l) : CB 55 [.vec l.length (g7 l), .int .i64 n] h (.vec (iE l n).length (g7 (iE l n))) := by
  refine .bz Tryz.f55 36 ?_
  refine c26z ?_
  refine c30z ?_
  refine .ca rfl rfl (c_hasN hmem (by omega)) ?_
  refine .nil ?_
  refine c111z ?_
  refine .sb ?_
  refine .cI (fun m st => ∃ (i : Nat), (m = l.length - i ∧ ((∀ d, d < i → l.getD d 0 < n) ∧ i ≤ l.length)) ∧ st = ⟨mkS 36 [(0, AV.vec l.length (g7 l)), (1, AV.int .i64 n), (5, AV.int .i64 ((i : Nat) : Int))], h⟩) _ (.v ⟨0, ⟨rfl, ⟨t104, by omega⟩⟩, rfl⟩) ?_
  rintro m sl h' ⟨i, ⟨hm, ⟨hI, hi⟩⟩, hst⟩
  obtain ⟨rfl, rfl⟩ := St.mk.inj hst
  refine .seq ?_
  refine c23z ?_
  refine .spl 14 rfl rfl (fun e1 => ?_) (fun e1 => ?_)
  ·try simp only [e1]
   have qe1 := fact e1
   refine .m [(4, 14)] ?_
   refine u2z ?_ ?_
   ·intro e2 qe2
    refine c171z ?_
    refine c192z ?_
    exact ⟨_, by omega, .v ⟨(i + 1), ⟨rfl, ⟨lt_nx hI (by omega), by omega⟩⟩, rfl⟩⟩
   intro e2 qe2
   refine .exit ?_
   have hkw : i = kW l n := kW_at hi hI (by intro _; omega)
   have hdl : (l.drop i).length = l.length - i := List.length_drop
   have htl : (l.take i).length = i := by rw [List.length_take]; omega
   have hcl : (l.take i ++ [n]).length = i + 1 := by rw [List.length_append, htl]; rfl
   change c9 ..
   refine .c7 [0, 1, 5] ?_
   refine .sg s9 (mkH 13 [0, 0, 0, 6, 15, 0, 32, 127, 0, 0, 768, 2047, 4095] [0, 4, 6, 7, 11] [(0, 0), (6, 1)] [0, 1, 17, 64, 65, 81, 209, 2257] [0, 1, 2, 3, 4]) 2 ?_
   refine .em [true] [1, 0] [_] ?_
   refine .p 3 ?_
   refine .em [true, false] [17, 1, 0] [_] ?_
   refine .p 1 ?_
   refine .en [true, true, true] [81, 65, 64, 17, 1, 0] [_, _, _] ?_
   refine .en [true, false, false, false, false, false] [209, 81, 65, 64, 17, 1, 0] [_] ?_
   refine .p 3 ?_
   refine .en [true, false, false, false, false, false, false] [2257, 209, 81, 65, 64, 17, 1, 0] [_] ?_
   refine .p 1 ?_
   refine c88z ?_
   refine s8.nil rfl ?_
   refine c3z ?_
   exact ⟨_, _, rfl, D5 t129 (Nat.le_refl _) t103, t142⟩
  try simp only [e1]
  have qe1 := fact e1
  refine .m [(4, 14)] ?_
  refine .F ?_
  refine .exit ?_
  have hkw : i = kW l n := kW_at hi hI (by intro _; omega)
  have hdl : (l.drop i).length = l.length - i := List.length_drop
  have htl : (l.take i).length = i := by rw [List.length_take]; omega
  have hcl : (l.take i ++ [n]).length = i + 1 := by rw [List.length_append, htl]; rfl
  change c9 ..
  refine .c7 [0, 1, 5] ?_
  refine .sg s9 (mkH 13 [0, 0, 0, 6, 15, 0, 32, 127, 0, 0, 768, 2047, 4095] [0, 4, 6, 7, 11] [(0, 0), (6, 1)] [0, 1, 17, 64, 65, 81, 209, 2257] [0, 1, 2, 3, 4]) 2 ?_
  refine .em [true] [1, 0] [_] ?_
  refine .p 3 ?_
  refine .em [true, false] [17, 1, 0] [_] ?_
  refine .p 1 ?_
  refine .en [true, true, true] [81, 65, 64, 17, 1, 0] [_, _, _] ?_
  refine .en [true, false, false, false, false, false] [209, 81, 65, 64, 17, 1, 0] [_] ?_
  refine .p 3 ?_
  refine .en [true, false, false, false, false, false, false] [2257, 209, 81, 65, 64, 17, 1, 0] [_] ?_
  refine .p 1 ?_
  refine c88z ?_
  refine s8.nil rfl ?_
  refine c3z ?_
  exact ⟨_, _, rfl, D5 t129 (Nat.le_refl _) t103, t142⟩
theorem FP (l : List Int) (n : Int) (hl : l.length < 100000) : CB 55 [.vec l.length (g7 l), .int .i64 n] h (.vec (iE l n).length (g7 (iE l n))) := by
  by_cases hm : n ∈ l
  · exact c_withY l n hl hm
  · exact c_withN l n hl hm
theorem FQ (it : u4) (p : Pl) (hp : p.param = true → 0 ≤ p.index ∧ p.index.toNat < it.j4.length) : CB 83 [.agg [.int .i64 it.proc, .vec it.j4.length (g7 it.j4)], .agg [.bool p.param, .int .i64 p.index, .vec p.at'.length (l8 p.at')]] h (.int .i64 (vI it p)) := by
  refine .bz Tryz.f83 15 ?_
  refine c86z ?_
  refine u2z ?_ ?_
  ·intro e1 qe1
   have hpp := hp (by assumption)
   refine .z ?_
   exact .ret (.ex (hq := by (unfold vI; simp_all)))
  intro e1 qe1
  refine .sk ?_
  refine .z ?_
  exact .ret (.ex (hq := by (unfold vI; simp_all)))
theorem r8 (hu : WU u) (w : WIt u it) : (c8 u it).length ≤ 1664 := by
  have := (tA hu (l := [it]) (by simp) (by simpa using w)).2
  simpa using this
variable {pc : Nat}
theorem FR (hu : WU u) (w : WIt u it) (hpc : pc < (c8 u it).length) (hc : gG ((c8 u it).getD pc g6)) : ∀ p ∈ ((c8 u it).getD pc g6).w4, p.param = true → 0 ≤ p.index ∧ p.index.toNat < it.j4.length := by
  obtain ⟨_, _, _, hh⟩ := (kT hu w).2.2 pc hpc
  intro p hp hpar
  obtain ⟨h0, ⟨_, h2⟩ | ⟨h1, _⟩⟩ := (hh hc).2.2 p hp
  · refine ⟨h0, ?_⟩
    rw [w.len]
    simp only at h2
    omega
  · rw [hpar] at h1; cases h1
theorem Z3 (hu : WU u) (w : WIt u it) (hpc : pc < (c8 u it).length) (hc : gG ((c8 u it).getD pc g6)) : ((c8 u it).getD pc g6).w4.length ≤ 2 := by
  have h1 := vJ hu w hpc hc
  have h2 := h1.len
  have h3 := hu.j4 (cV u it pc).proc.toNat (by have := h1.lo; have := h1.hi; omega)
  simp only [cV, List.length_map] at h2 h3
  omega
theorem FT (hu : WU u) (w : WIt u it) (hpc : pc < (c8 u it).length) (hc : ¬ gG ((c8 u it).getD pc g6)) : CB 53 [.agg [.vec u.globals.length (g7 u.globals), .vec u.c4.length (g5 u.c4), .vec u.procs.length (j7 u.procs), .int .i64 u.main], .agg [.int .i64 it.proc, .vec it.j4.length (g7 it.j4)], .int .i64 ((pc : Nat) : Int)] h (.tup [.agg [.int .i64 0, .vec 0 []], .bool false]) := by
  refine .bz Tryz.f53 75 ?_
  have w1 := w.lo
  have w2 := w.hi
  have hsz : (c8 u it).length ≤ 1664 := r8 hu w
  refine c154z ?_
  refine .c7 [2, 4, 6, 8] ?_
  refine c18z ?_
  refine .spl 20 rfl rfl (fun e1 => by exfalso; have q := fact e1; omega) (fun e1 => ?_)
  try simp only [e1]
  have qe1 := fact e1
  refine .k 6 [(2, 20)] ?_
  refine .spl 26 rfl rfl (fun e2 => by exfalso; have q := fact e2; omega) (fun e2 => ?_)
  try simp only [e2]
  have qe2 := fact e2
  refine .k 7 [(8, 26)] ?_
  refine .spl 33 rfl rfl (fun e3 => ?_) (fun e3 => by exfalso; have q := fact e3; exact hc (.inl (by omega)))
  try simp only [e3]
  have qe3 := fact e3
  refine .m [(8, 26), (15, 33)] ?_
  refine .spl 41 rfl rfl (fun e4 => ?_) (fun e4 => by exfalso; have q := fact e4; exact hc (.inr (by omega)))
  try simp only [e4]
  have qe4 := fact e4
  refine .T ?_
  refine .c7 [6] ?_
  refine .z ?_
  exact .ret (.ex (hq := by rfl))
theorem FU (hu : WU u) (w : WIt u it) (hpc : pc < (c8 u it).length) (hc : gG ((c8 u it).getD pc g6)) : CB 53 [.agg [.vec u.globals.length (g7 u.globals), .vec u.c4.length (g5 u.c4), .vec u.procs.length (j7 u.procs), .int .i64 u.main], .agg [.int .i64 it.proc, .vec it.j4.length (g7 it.j4)], .int .i64 ((pc : Nat) : Int)] h (.tup [.agg [.int .i64 (cV u it pc).proc, .vec (cV u it pc).j4.length (g7 (cV u it pc).j4)], .bool true]) := by
  refine .bz Tryz.f53 75 ?_
  have w1 := w.lo
  have w2 := w.hi
  have hsz : (c8 u it).length ≤ 1664 := r8 hu w
  have hpl := FR hu w hpc hc
  have hpn := Z3 hu w hpc hc
  refine c154z ?_
  refine .c7 [2, 4, 6, 8] ?_
  refine c18z ?_
  refine .spl 20 rfl rfl (fun e1 => by exfalso; have q := fact e1; omega) (fun e1 => ?_)
  try simp only [e1]
  have qe1 := fact e1
  refine .k 6 [(2, 20)] ?_
  refine .spl 26 rfl rfl (fun e2 => by exfalso; have q := fact e2; omega) (fun e2 => ?_)
  try simp only [e2]
  have qe2 := fact e2
  refine .k 7 [(8, 26)] ?_
  refine .spl 33 rfl rfl (fun e3 => ?_) (fun e3 => ?_)
  ·try simp only [e3]
   have qe3 := fact e3
   refine .m [(8, 26), (15, 33)] ?_
   refine .spl 41 rfl rfl (fun e4 => by exfalso; have q := fact e4; rcases hc with hc | hc <;> omega) (fun e4 => ?_)
   try simp only [e4]
   have qe4 := fact e4
   refine c17z ?_
   refine .c7 [2, 4, 6, 8] ?_
   refine c53z ?_
   refine c9.mA (β := h.length + 3) (k := 1) t30 rfl ?_
   simp only [List.append_assoc, List.cons_append, List.nil_append, r7, o7, List.set_cons_succ, List.set_cons_zero, List.length_append, List.length_cons, List.length_nil, Nat.reduceAdd, Nat.zero_add]
   refine .z7 (fun m st => ∃ (q : Nat), (m = ((c8 u it).getD pc g6).w4.length - q ∧ q ≤ ((c8 u it).getD pc g6).w4.length) ∧ st = ⟨mkS 75 [(2, AV.int .i64 ((pc : Nat) : Int)), (4, AV.ptr (h.length + 1) 0 0), (6, AV.ptr (h.length + 2) 0 0), (8, AV.vec (c8 u it).length (o3 (c8 u it))), (9, AV.ptr (h.length + 3) 0 0), (10, AV.int .i64 ((q : Nat) : Int))], h ++ [⟨0, false, 30, 4, [.vec u.globals.length (g7 u.globals), .vec u.c4.length (g5 u.c4), .vec u.procs.length (j7 u.procs), .int .i64 u.main], 0⟩, ⟨0, false, 69, 2, [.int .i64 it.proc, .vec it.j4.length (g7 it.j4)], 0⟩, ⟨0, false, 69, 2, [.int .i64 0, .j6], 0⟩, ⟨0, false, 69, 2, [.int .i64 ((c8 u it).getD pc g6).target, .own (h.length + 4) q 0 q], 0⟩, p4 3 1 q (g7 ((((c8 u it).getD pc g6).w4.take q).map (vI it)))]⟩) (.v ⟨0, ⟨rfl, by omega⟩, rfl⟩) ?_
   rintro m sl h' ⟨q, ⟨hm, hq⟩, hst⟩
   obtain ⟨rfl, rfl⟩ := St.mk.inj hst; clear hst
   have htl : ((((c8 u it).getD pc g6).w4.take q).map (vI it)).length = q := by rw [List.length_map, List.length_take]; omega
   refine c0z ?_
   refine u2z ?_ ?_
   ·intro e5 qe5
    refine c2z ?_
    refine .c7 [2, 4, 6, 8, 9, 10] ?_
    refine .og s9 (mkH 16 [0, 1, 0, 0, 0, 24, 56, 120, 0, 504, 1016, 2044, 4092, 8191, 16383, 32767] [12, 13, 15] [] [0, 4096, 12288, 45056] [0, 1]) 0 ?_
    refine c34z ?_
    refine .rn [true] ?_
    refine c157z ?_
    refine c64z ?_
    refine .cl rfl rfl (fun _ => FQ it (((c8 u it).getD pc g6).w4.getD q bA) (hpl _ (l3 (d := bA) (i := q) (by omega)))) ?_
    refine .en [true] [4096, 0] [_] ?_
    refine .en [true, false] [12288, 4096, 0] [_] ?_
    refine .p 1 ?_
    refine .en [true, false, false] [45056, 12288, 4096, 0] [_] ?_
    refine c137z ?_
    refine .c7 [2, 4, 6, 8, 9, 10, 69] ?_
    refine .rz ?_
    exact ⟨_, by omega, .v ⟨(q + 1), ⟨rfl, by omega⟩, rfl⟩ (he := t119) (hk := t106)⟩
   intro e5 qe5
   refine .exit ?_
   obtain rfl : q = ((c8 u it).getD pc g6).w4.length := by omega
   rw [List.take_length] at htl ⊢
   refine c9.nP (γ := h.length + 4) (β := h.length + 3) (k := 1) (len := ((c8 u it).getD pc g6).w4.length) t30 (by rw [l9, htl, Nat.mul_one]) (by omega) (uY _) t30 (by omega) rfl ?_
   refine c15z ?_
   refine .c7 [6, 9] ?_
   refine .z ?_
   exact .ret (.ex (hq := by (simp only [cV, List.length_map])))
  try simp only [e3]
  have qe3 := fact e3
  refine .m [(8, 26), (15, 33)] ?_
  refine c17z ?_
  refine .c7 [2, 4, 6, 8] ?_
  refine c53z ?_
  refine c9.mA (β := h.length + 3) (k := 1) t30 rfl ?_
  simp only [List.append_assoc, List.cons_append, List.nil_append, r7, o7, List.set_cons_succ, List.set_cons_zero, List.length_append, List.length_cons, List.length_nil, Nat.reduceAdd, Nat.zero_add]
  refine .z7 (fun m st => ∃ (q : Nat), (m = ((c8 u it).getD pc g6).w4.length - q ∧ q ≤ ((c8 u it).getD pc g6).w4.length) ∧ st = ⟨mkS 75 [(2, AV.int .i64 ((pc : Nat) : Int)), (4, AV.ptr (h.length + 1) 0 0), (6, AV.ptr (h.length + 2) 0 0), (8, AV.vec (c8 u it).length (o3 (c8 u it))), (9, AV.ptr (h.length + 3) 0 0), (10, AV.int .i64 ((q : Nat) : Int))], h ++ [⟨0, false, 30, 4, [.vec u.globals.length (g7 u.globals), .vec u.c4.length (g5 u.c4), .vec u.procs.length (j7 u.procs), .int .i64 u.main], 0⟩, ⟨0, false, 69, 2, [.int .i64 it.proc, .vec it.j4.length (g7 it.j4)], 0⟩, ⟨0, false, 69, 2, [.int .i64 0, .j6], 0⟩, ⟨0, false, 69, 2, [.int .i64 ((c8 u it).getD pc g6).target, .own (h.length + 4) q 0 q], 0⟩, p4 3 1 q (g7 ((((c8 u it).getD pc g6).w4.take q).map (vI it)))]⟩) (.v ⟨0, ⟨rfl, by omega⟩, rfl⟩) ?_
  rintro m sl h' ⟨q, ⟨hm, hq⟩, hst⟩
  obtain ⟨rfl, rfl⟩ := St.mk.inj hst; clear hst
  have htl : ((((c8 u it).getD pc g6).w4.take q).map (vI it)).length = q := by rw [List.length_map, List.length_take]; omega
  refine c0z ?_
  refine u2z ?_ ?_
  ·intro e6 qe6
   refine c2z ?_
   refine .c7 [2, 4, 6, 8, 9, 10] ?_
   refine .og s9 (mkH 16 [0, 1, 0, 0, 0, 24, 56, 120, 0, 504, 1016, 2044, 4092, 8191, 16383, 32767] [12, 13, 15] [] [0, 4096, 12288, 45056] [0, 1]) 0 ?_
   refine c34z ?_
   refine .rn [true] ?_
   refine c157z ?_
   refine c64z ?_
   refine .cl rfl rfl (fun _ => FQ it (((c8 u it).getD pc g6).w4.getD q bA) (hpl _ (l3 (d := bA) (i := q) (by omega)))) ?_
   refine .en [true] [4096, 0] [_] ?_
   refine .en [true, false] [12288, 4096, 0] [_] ?_
   refine .p 1 ?_
   refine .en [true, false, false] [45056, 12288, 4096, 0] [_] ?_
   refine c137z ?_
   refine .c7 [2, 4, 6, 8, 9, 10, 69] ?_
   refine .rz ?_
   exact ⟨_, by omega, .v ⟨(q + 1), ⟨rfl, by omega⟩, rfl⟩ (he := t119) (hk := t106)⟩
  intro e6 qe6
  refine .exit ?_
  obtain rfl : q = ((c8 u it).getD pc g6).w4.length := by omega
  rw [List.take_length] at htl ⊢
  refine c9.nP (γ := h.length + 4) (β := h.length + 3) (k := 1) (len := ((c8 u it).getD pc g6).w4.length) t30 (by rw [l9, htl, Nat.mul_one]) (by omega) (uY _) t30 (by omega) rfl ?_
  refine c15z ?_
  refine .c7 [6, 9] ?_
  refine .z ?_
  exact .ret (.ex (hq := by (simp only [cV, List.length_map])))
theorem c_findI (l : List u4) (x : u4) {n2 n3 : Nat} {z2 z3 : List AV} (hl : l.length < 1000000) (hk : ∀ y ∈ l, y.j4.length < 1000000) : CB 54 [.agg [.vec l.length (l5 l), .vec n2 z2, .vec n3 z3], .agg [.int .i64 x.proc, .vec x.j4.length (g7 x.j4)]] h (.int .i64 (fI l x)) := by
  refine .bz Tryz.f54 34 ?_
  refine c53z ?_
  refine .cI (fun m st => ∃ (i : Nat), (m = l.length - i ∧ ((∀ d, d < i → l.getD d l4 ≠ x) ∧ i ≤ l.length)) ∧ st = ⟨mkS 34 [(2, AV.ptr h.length 0 0), (3, AV.ptr (h.length + 1) 0 0), (5, AV.int .i64 ((i : Nat) : Int))], h ++ [⟨0, false, 34, 3, [.vec l.length (l5 l), .vec n2 z2, .vec n3 z3], 0⟩, ⟨0, false, 69, 2, [.int .i64 x.proc, .vec x.j4.length (g7 x.j4)], 0⟩]⟩) _ (.v ⟨0, ⟨rfl, ⟨t104, by omega⟩⟩, rfl⟩) ?_
  rintro m sl h' ⟨i, ⟨hm, ⟨hI, hi⟩⟩, hst⟩
  obtain ⟨rfl, rfl⟩ := St.mk.inj hst
  refine c0z ?_
  refine u2z ?_ ?_
  ·intro e1 qe1
   refine c2z ?_
   refine .ss s9 (mkP 20 [0, 1, 0, 7, 15, 31, 0, 64, 255, 511, 1023, 2047, 1023, 8191, 16383, 32767, 1023, 66559, 262143, 524287] []) ?_
   refine .k 8 [] ?_
   refine .k 2 [] ?_
   refine .spl 22 rfl rfl (fun e2 => ?_) (fun e2 => ?_)
   ·try simp only [e2]
    have qe2 := fact e2
    refine .k 8 [(9, 22)] ?_
    refine .ca rfl rfl (QX _ _ (hk _ (l3 (by omega)))) ?_
    refine .n [] ?_
    refine u2z ?_ ?_
    ·intro e3 qe3
     refine .c7 [5] ?_
     refine .z ?_
     exact .ret (.ex (hq := t105))
    intro e3 qe3
    refine c5z ?_
    refine .c7 [2, 3, 5] ?_
    refine .rz ?_
    exact ⟨_, by omega, .v ⟨(i + 1), ⟨rfl, ⟨it_ne hI t187, by omega⟩⟩, rfl⟩⟩
   try simp only [e2]
   have qe2 := fact e2
   refine .k 8 [(9, 22)] ?_
   refine .n [(9, 22)] ?_
   refine c45z ?_
   refine .c7 [2, 3, 5] ?_
   refine .rz ?_
   exact ⟨_, by omega, .v ⟨(i + 1), ⟨rfl, ⟨it_ne hI t187, by omega⟩⟩, rfl⟩⟩
  intro e1 qe1
  refine c9z ?_
  refine c21z ?_
  exact .ret (.ex (hq := t105))
end Go.Proofs.YtfbjlfhjkojmkaaGreat
end
section
namespace Go.Proofs.YtfbjlfhjkojmkaaGreat
open Go.Ab Go.Un
theorem m7.cx {P : Program} {C : Cfg} {h : c6} {ops : Array Oper} {o : Oper} {rest : List Oper} {Q : St → Prop} {n d : Nat} {l : List (Nat × AV)} {c : Call} {f : FuncId} {args : List AV} {K : AV → c6 → Prop} (ho : o.op = .call c) (ht : s7 C (W8 C n l) c = some (f, args)) (hb : o1 C f = true)
    (hc : CallA P C f args h K) (hk : ∀ y h', K y h' → m7 P C ops rest ⟨mkS n ((d, y) :: l), h'⟩ Q) (hw : xD ops n l o = some true := by rfl) (hd : o.dst = some d := by rfl) : m7 P C ops (o :: rest) ⟨mkS n l, h⟩ Q :=
  m7.call (qZ ▸ hw) ho (pA ▸ ht) hb (hc.mono fun y h' hq => by rw [hd]; show m7 P C ops rest ⟨(mkS n l).set d y, h'⟩ Q; rw [bI]; exact hk y h' hq)
def oE (u : Un) (L : List u4) (it : u4) (cs : List Int) (n : Nat) : Prop := ∀ j, j < n →
  (gG ((c8 u it).getD j g6) → 0 ≤ cs.getD j 0 ∧ cs.getD j 0 < L.length ∧ L.getD (cs.getD j 0).toNat l4 = cV u it j) ∧ (¬ gG ((c8 u it).getD j g6) → cs.getD j 0 = -1)
structure LI (u : Un) (L : List u4) : Prop where
  w : ∀ it ∈ L, WIt u it
  nd : L.Nodup
  z : 0 < L.length ∧ L.getD 0 l4 = ⟨0, []⟩
structure RI (L : List u4) (R : List Int) : Prop where
  p : 1 ≤ R.length
  r : ∀ x ∈ R, 0 ≤ x ∧ x < L.length
  s : R.Pairwise (· < ·)
def PI (u : Un) (L : List u4) (CS : List (List Int)) (i : Nat) : Prop := ∀ j, j < i → (CS.getD j []).length = (c8 u (L.getD j l4)).length ∧ oE u L (L.getD j l4) (CS.getD j []) (c8 u (L.getD j l4)).length
def iO (u : Un) (L : List u4) (i : Nat) : Nat := ((L.take i).map fun it => (c8 u it).length).sum
variable {i : Nat}
theorem lU {α : Type} {l m : List α} {d : α} (h : i < l.length) : (l ++ m).getD i d = l.getD i d := by
  simp [List.getD, List.getElem?_append_left h]
variable {u : Un} {L M : List u4} {it : u4} {n : Nat}
theorem oE.app {cs : List Int} (h : oE u L it cs n) : oE u (L ++ M) it cs n := fun j hj => by
  obtain ⟨h1, h2⟩ := h j hj
  refine ⟨fun hc => ?_, h2⟩
  obtain ⟨q1, q2, q3⟩ := h1 hc
  exact ⟨q1, by rw [List.length_append]; omega, by rw [lU (by omega), q3]⟩
theorem oE.set {cs : List Int} {x : Int} (h : oE u L it cs n) (hn : n < cs.length) (hx : (gG ((c8 u it).getD n g6) → 0 ≤ x ∧ x < L.length ∧ L.getD x.toNat l4 = cV u it n) ∧ (¬ gG ((c8 u it).getD n g6) → x = -1)) : oE u L it (cs.set n x) (n + 1) := fun j hj => by
  by_cases hjn : j = n
  · subst hjn
    have : (cs.set j x).getD j 0 = x := by simp [List.getD, hn]
    rw [this]; exact hx
  · have : (cs.set n x).getD j 0 = cs.getD j 0 := by simp [List.getD, List.getElem?_set_ne (Ne.symm hjn)]
    rw [this]; exact h j (by omega)
variable {x : u4}
theorem LI.snoc (h : LI u L) (hx : WIt u x) (hn : x ∉ L) : LI u (L ++ [x]) := by
  refine ⟨fun it hit => ?_, ?_, by simp, ?_⟩
  · rcases List.mem_append.1 hit with hit | hit
    · exact h.w it hit
    · replace hit := s7z hit
      subst hit; exact hx
  · rw [List.nodup_append]
    exact ⟨h.nd, by simp, fun a ha b hb => by replace hb := s7z hb; subst hb; exact fun e => hn (e ▸ ha)⟩
  · rw [lU h.z.1]; exact h.z.2
theorem LI.few (hu : WU u) (h : LI u L) : L.length ≤ 64 := (tA hu h.nd h.w).1
theorem LI.sites (hu : WU u) (h : LI u L) (i : Nat) : iO u L i ≤ 1664 := by
  have h1 := (tA hu (l := L.take i) (h.nd.sublist (List.take_sublist _ _)) (fun it hit => h.w it (List.mem_of_mem_take hit))).2
  exact h1
theorem LI.j4 (hu : WU u) (h : LI u L) : ∀ y ∈ L, y.j4.length ≤ 2 := fun y hy => by
  have w := h.w y hy
  have h1 := w.len
  have h3 := hu.j4 y.proc.toNat (by have := w.lo; have := w.hi; omega)
  omega
variable {R : List Int}
theorem RI.app (h : RI L R) : RI (L ++ M) R := ⟨h.p, fun x hx => by have := h.r x hx; rw [List.length_append]; omega, h.s⟩
variable {l : List Int}
theorem FV {n x : Int} : x ∈ iE l n ↔ x ∈ l ∨ x = n := by
  unfold iE
  split
  · rename_i h
    constructor
    · exact .inl
    · rintro (h1 | rfl)
      · exact h1
      · exact h
  · rw [List.mem_append, List.mem_cons]
    constructor
    · rintro (h | h | h)
      · exact .inl (List.mem_of_mem_take h)
      · exact .inr h
      · exact .inl (List.mem_of_mem_drop h)
    · rintro (h | h)
      · rw [← List.take_append_drop (kW l n) l, List.mem_append] at h
        rcases h with h | h
        · exact .inl h
        · exact .inr (.inr h)
      · exact .inr (.inl h)
theorem take_kW {n : Int} : l.take (kW l n) = l.takeWhile fun x => decide (x < n) := by
  conv => lhs; rw [← List.takeWhile_append_dropWhile (p := fun x => decide (x < n)) (l := l)]
  rw [List.take_append_of_le_length (by simp [kW])]
  exact List.take_of_length_le (by simp [kW])
theorem drop_kW {n : Int} : l.drop (kW l n) = l.dropWhile fun x => decide (x < n) := by
  conv => lhs; rw [← List.takeWhile_append_dropWhile (p := fun x => decide (x < n)) (l := l)]
  rw [List.drop_append_of_le_length (by simp [kW])]
  rw [List.drop_of_length_le (by simp [kW]), List.nil_append]
theorem qF : ∀ {l : List Int} {n : Int}, l.Pairwise (· < ·) → n ∉ l → (l.takeWhile (fun x => decide (x < n)) ++ n :: l.dropWhile (fun x => decide (x < n))).Pairwise (· < ·)
  | [], n, _, _ => by simp
  | x :: l, n, h, hn => by
    rw [List.pairwise_cons] at h
    by_cases hx : x < n
    · have ih := qF (l := l) (n := n) h.2 (fun hm => hn (List.mem_cons_of_mem _ hm))
      rw [List.takeWhile_cons_of_pos t184, List.dropWhile_cons_of_pos t184, List.cons_append, List.pairwise_cons]
      refine ⟨fun y hy => ?_, ih⟩
      rcases List.mem_append.1 hy with hy | hy
      · exact h.1 y ((List.takeWhile_sublist _).subset hy)
      · rcases List.mem_cons.1 hy with rfl | hy
        · exact hx
        · exact h.1 y ((List.dropWhile_sublist _).subset hy)
    · have hne : n ≠ x := fun e => hn (by rw [e]; simp)
      rw [List.takeWhile_cons_of_neg t184, List.dropWhile_cons_of_neg t184, List.nil_append, List.pairwise_cons]
      refine ⟨fun y hy => ?_, List.pairwise_cons.2 h⟩
      rcases List.mem_cons.1 hy with rfl | hy
      · omega
      · have := h.1 y hy; omega
theorem RI.with (h : RI L R) {n : Int} (hn : 0 ≤ n ∧ n < L.length) : RI L (iE R n) := by
  refine ⟨?_, fun x hx => ?_, ?_⟩
  · unfold iE
    split
    · exact h.p
    · simp only [List.length_append, List.length_cons]; omega
  · rcases FV.1 hx with hx | rfl
    · exact h.r x hx
    · exact hn
  · unfold iE
    split
    · exact h.s
    · rename_i hm
      rw [take_kW, drop_kW]
      exact qF h.s hm
theorem vS : ∀ {R : List Int} {a b : Int}, R.Pairwise (· < ·) → (∀ x ∈ R, a ≤ x ∧ x < b) → R.length ≤ (b - a).toNat
  | [], a, b, _, _ => by simp
  | x :: R, a, b, h, hr => by
    rw [List.pairwise_cons] at h
    have h0 := hr x (by simp)
    have ih := vS (R := R) (a := x + 1) (b := b) h.2 (fun y hy => ⟨by have := h.1 y hy; omega, (hr y (by simp [hy])).2⟩)
    simp only [List.length_cons]
    omega
theorem RI.len (hu : WU u) (hl : LI u L) (h : RI L R) : R.length ≤ 64 := by
  have h1 := vS h.s (a := 0) (b := (L.length : Int)) h.r
  have h2 := hl.few hu
  omega
theorem Z4 (h : i < L.length) : iO u L (i + 1) = iO u L i + (c8 u (L.getD i l4)).length := by
  unfold iO
  rw [taken (d := l4) h]
  simp
variable {CS : List (List Int)}
theorem PI.step {v : List Int} (h : PI u L CS i) (hc : CS.length = i) (hi : i < L.length) (hv : v.length = (c8 u (L.getD i l4)).length) (hok : oE u (L ++ M) (L.getD i l4) v (c8 u (L.getD i l4)).length) : PI u (L ++ M) (CS ++ [v]) (i + 1) := fun j hj => by
  by_cases hji : j = i
  · subst hji
    have e1 : (CS ++ [v]).getD j [] = v := by subst hc; simp [List.getD]
    rw [e1, lU hi]
    exact ⟨hv, hok⟩
  · have e1 : (CS ++ [v]).getD j [] = CS.getD j [] := lU (by omega)
    obtain ⟨h1, h2⟩ := h j (by omega)
    rw [e1, lU (by omega)]
    exact ⟨h1, h2.app⟩
theorem J5 {l : List (List Int)} {x : List Int} : m6 (l ++ [x]) = m6 l ++ [.vec x.length (g7 x)] := by simp [m6]
theorem J6 {l : List u4} : l5 (l ++ [x]) = l5 l ++ [.int .i64 x.proc, .vec x.j4.length (g7 x.j4)] := by simp [l5, X3]
theorem NU (l : List (List Int)) : w6 (m6 l) := w6.map fun _ => .vec
theorem NV (l : List u4) : w6 (l5 l) := w6.flat fun _ => w6.cons .int (w6.cons .vec .nil)
variable {h : c6} {g : Nat}
theorem app_its {b0 b1 b3 b4 b5 b6 b7 : Blk} {l : c6} (hz : L.length = n) (hn : n < 1000) : j5 cfg 69 (h ++ (b0 :: b1 :: ⟨g, false, 69, 2, l5 L, 0⟩ :: b3 :: b4 :: b5 :: b6 :: b7 :: ⟨0, false, 69, 2, [.int .i64 x.proc, .vec x.j4.length (g7 x.j4)], 0⟩ :: l)) (.own (h.length + 2) g 0 n) (.own (h.length + 8) 0 0 1) = some (.own (h.length + 2) (g + 1) 0 (n + 1), h ++ (b0 :: b1 :: ⟨g + 1, false, 69, 2, l5 (L ++ [x]), 0⟩ :: b3 :: b4 :: b5 :: b6 :: b7 :: ⟨0, false, 69, 2, [.int .i64 x.proc, .vec x.j4.length (g7 x.j4)], 0⟩ :: l)) := by
  subst hz
  have e1 : cfg.sz 69 = 2 := rfl
  have e2 : (cfg.ti 69).bytes = 32 := rfl
  have hm : L.length + 1 ≤ maxLen := by
    have : (1001 : Nat) ≤ maxLen := by decide
    omega
  have hb : (L.length + 1) * 32 ≤ 140737488355328 := by omega
  have h1 : (l5 L).length = L.length * 2 := by rw [u7]; omega
  have ht : List.take (L.length * 2) (l5 L) = l5 L := List.take_of_length_le (by omega)
  have hnl : ¬ (L.length + 1) * 2 ≤ L.length * 2 := by omega
  simp [j5, rd, lenOf, e1, e2, h1, hm, hb, ht, hnl, r7, o7, J6]
theorem app_cs {b0 b1 b2 b3 b4 b6 : Blk} {l : c6} {x : List Int} {m : Nat} (hn : CS.length = n) (hx : x.length = m) (hl : n < 100000) : j5 cfg 22 (h ++ (b0 :: b1 :: b2 :: b3 :: b4 :: p4 22 1 g (m6 CS) :: b6 :: ⟨0, false, 22, 1, [.vec m (g7 x)], 0⟩ :: l)) (.own (h.length + 5) g 0 n) (.own (h.length + 7) 0 0 1) = some (.own (h.length + 5) (g + 1) 0 (n + 1), h ++ (b0 :: b1 :: b2 :: b3 :: b4 :: p4 22 1 (g + 1) (m6 (CS ++ [x])) :: b6 :: ⟨0, false, 22, 1, [.vec m (g7 x)], 0⟩ :: l)) := by
  subst hn hx
  rw [z1 (C := cfg) (K := 1) (m := 1) (new := [.vec x.length (g7 x)]) (zs := m6 CS) t30 rfl (by omega) (by simp [m6]) rfl (by omega) t161 rfl (by decide) (by omega), ← J5, o7]
  rfl
theorem FW : ∀ {v : List Int} {i : Nat} {x : Int}, i < v.length → List.take i (g7 v) ++ AV.int .i64 x :: List.drop (i + 1) (g7 v) = g7 (v.set i x)
  | y :: v, 0, x, _ => rfl
  | y :: v, i + 1, x, h => by
    have ih := FW (v := v) (i := i) (x := x) (by simpa using h)
    simp only [g7, List.map_cons, List.set_cons_succ, List.take_succ_cons, List.drop_succ_cons, List.cons_append] at ih ⊢
    rw [ih]
theorem zeros_I : (List.replicate n [AV.int .i64 0]).flatten = g7 (List.replicate n 0) := by
  induction n with
  | zero => rfl
  | succ n ih => rw [List.replicate_succ, List.flatten_cons, ih]; simp [g7, List.replicate_succ]
theorem frz_its {d : Nat} {H : c6} {l : List u4} : o2 (jX n H (d + 1)) (l5 l) = some (l5 l) := (NV l).frz _ _ _
theorem J7 {H : c6} {β γ n1 n2 n3 : Nat} {z3 : List AV} (hb : H[β]? = some ⟨g, false, 69, 2, l5 L, 0⟩) (hc : H[γ]? = some (p4 22 1 i (m6 CS))) (h1 : L.length = n1) (h2 : CS.length = n2) (hl : L.length < 1000000) (hk : ∀ y ∈ L, y.j4.length < 1000000) : CB 54 [.agg [.own β g 0 n1, .own γ i 0 n2, .vec n3 z3], .agg [.int .i64 x.proc, .vec x.j4.length (g7 x.j4)]] H (.int .i64 (fI L x)) := by
  subst h1 h2
  have e1 : jX 0 H 6 (.own β g 0 L.length) = some (.vec L.length (l5 L)) := by
    rw [fP, hb]
    simp only [Nat.zero_le, and_self, if_true, Bool.false_eq_true, if_false, Nat.zero_add]
    rw [if_pos (by rw [u7]; omega), List.drop_zero, List.take_of_length_le (by rw [u7]; omega), frz_its]
  have e2 : jX 0 H 6 (.own γ i 0 CS.length) = some (.vec CS.length (m6 CS)) := iK hc (Nat.zero_le _) (by simp [m6]) (by omega) ((NU CS).frz _ _ _)
  have e : PQ 0 H (.agg [.own β g 0 L.length, .own γ i 0 CS.length, .vec n3 z3]) = some (.agg [.vec L.length (l5 L), .vec CS.length (m6 CS), .vec n3 z3]) := by
    simp only [PQ, o2, e1, e2, lM, Option.map_some]
  have ha : JY 0 H [.agg [.vec L.length (l5 L), .vec CS.length (m6 CS), .vec n3 z3], .agg [.int .i64 x.proc, .vec x.j4.length (g7 x.j4)]] [.agg [.own β g 0 L.length, .own γ i 0 CS.length, .vec n3 z3], .agg [.int .i64 x.proc, .vec x.j4.length (g7 x.j4)]] := And.intro (.inr e) (And.intro (.inr rfl) trivial)
  exact CallA.borrow ha ((c_findI L x hl hk).mono fun _ _ h => h.1)
theorem dO {l : List (List Int)} : (m6 l).length = l.length := by simp [m6]
variable {pc : Nat}
theorem Z5 (hu : WU u) (w : WIt u it) (hpc : pc < (c8 u it).length) (hc : gG ((c8 u it).getD pc g6)) {y : u4} (hy : cV u it pc = y) : CB 53 [.agg [.vec u.globals.length (g7 u.globals), .vec u.c4.length (g5 u.c4), .vec u.procs.length (j7 u.procs), .int .i64 u.main], .agg [.int .i64 it.proc, .vec it.j4.length (g7 it.j4)], .int .i64 ((pc : Nat) : Int)] h (.tup [.agg [.int .i64 y.proc, .vec y.j4.length (g7 y.j4)], .bool true]) := by
  subst hy; exact FU hu w hpc hc
theorem Z6 (hu : WU u) (w : WIt u (L.getD i l4)) (hi : L.getD i l4 = it) (hpc : pc < (c8 u it).length) (hc : gG ((c8 u it).getD pc g6)) {y : u4} (hy : cV u it pc = y) : CB 53 [.agg [.vec u.globals.length (g7 u.globals), .vec u.c4.length (g5 u.c4), .vec u.procs.length (j7 u.procs), .int .i64 u.main], .agg [.int .i64 (L.getD i l4).proc, .vec (L.getD i l4).j4.length (g7 (L.getD i l4).j4)], .int .i64 ((pc : Nat) : Int)] h (.tup [.agg [.int .i64 y.proc, .vec y.j4.length (g7 y.j4)], .bool true]) := by
  subst hi; exact Z5 hu w hpc hc hy
theorem Z7 (hu : WU u) (w : WIt u (L.getD i l4)) (hi : L.getD i l4 = it) (hpc : pc < (c8 u it).length) (hc : ¬ gG ((c8 u it).getD pc g6)) : CB 53 [.agg [.vec u.globals.length (g7 u.globals), .vec u.c4.length (g5 u.c4), .vec u.procs.length (j7 u.procs), .int .i64 u.main], .agg [.int .i64 (L.getD i l4).proc, .vec (L.getD i l4).j4.length (g7 (L.getD i l4).j4)], .int .i64 ((pc : Nat) : Int)] h (.tup [.agg [.int .i64 0, .vec 0 []], .bool false]) := by
  subst hi; exact FT hu w hpc hc
theorem mx2000 : (2000 : Nat) ≤ maxLen := by decide
theorem yI {v : List Int} {i : Nat} {x : Int} (h : i < v.length) : (v.set i x).getD i 0 = x := by simp [List.getD, h]
theorem NX {v : List Int} {x : Int} (h : i < v.length) : List.take 1 (List.drop i (g7 (v.set i x))) = [.int .i64 x] := by rw [lC (by rw [List.length_set]; exact h), yI h]
theorem FX (h : i ≤ L.length) : iO u (L ++ M) i = iO u L i := by
  unfold iO
  rw [List.take_append_of_le_length h]
theorem wit0 (hu : WU u) : WIt u ⟨0, []⟩ := by
  have := hu.pl
  refine ⟨Int.le_refl _, by show (0 : Int) < u.procs.length; omega, ?_, fun x hx => by simp at hx⟩
  show 0 = (u.procs.getD 0 nR).j4.toNat
  rw [hu.zero]; rfl
theorem wc_of (hu : WU u) (hL : LI u L) (hR : RI L R) (hc : CS.length = L.length) (hP : PI u L CS L.length) : WC u ⟨L, CS, R⟩ :=
  ⟨⟨hL.z.1, hL.few hu⟩, hL.z.2, hL.w, hL.nd, hc, fun i hi => (hP i hi).1, fun i hi pc hpc => (hP i hi).2 pc hpc, hR.p, hR.r, hR.s⟩
attribute [local go_sem] rd p6 m8 aN bQ s5 aC eE cK n5 aJ aA l9 aP Int.natCast_nonneg Int.natCast_inj List.length_map wrap64 eJ gV gX P6 B8 G9 P7 xO max2 dV bU aQ Nat.reduceMul lO iM gE tL lC lS S4 lT dD gY u7 aK app_its app_cs FW zeros_I dO
section
attribute [local go_sem] NX List.length_set
theorem c_close (hu : WU u) : CallA Tryz.prog cfg 29 [.agg [.vec u.globals.length (g7 u.globals), .vec u.c4.length (g5 u.c4), .vec u.procs.length (j7 u.procs), .int .i64 u.main]] h (fun y' h' => (∃ c, WC u c ∧ y' = .tup [.agg (SU c), .int .i64 0]) ∧ h' = h) := by
  refine .bz Tryz.f29 109 ?_
  refine c19z ?_
  refine .c7 [1, 2, 4] ?_
  refine c9.iJ (β := h.length + 2) [.int .i64 0, .vec 0 []] t30 ?_ ?_
  exact ⟨.inl (by rw [hu.main]), .inr ⟨rfl, rfl⟩, trivial⟩
  simp only [List.append_assoc, List.cons_append, List.nil_append, r7, o7, List.set_cons_succ, List.set_cons_zero, List.length_append, List.length_cons, List.length_nil, Nat.reduceAdd, Nat.zero_add]
  refine c9.mA (β := h.length + 4) (k := 1) t30 rfl ?_
  simp only [List.append_assoc, List.cons_append, List.nil_append, r7, o7, List.set_cons_succ, List.set_cons_zero, List.length_append, List.length_cons, List.length_nil, Nat.reduceAdd, Nat.zero_add]
  refine c9.A0 (γ := h.length + 3) (β := h.length + 4) (k := 2) (off := 0) (len := 1) (cs := [.int .i64 0]) t30 rfl (by simp) rfl t30 (by omega) rfl ?_
  simp only [List.append_assoc, List.cons_append, List.nil_append, r7, o7, List.set_cons_succ, List.set_cons_zero, List.length_append, List.length_cons, List.length_nil, Nat.reduceAdd, Nat.zero_add]
  generalize cJ _ _ = Rb
  refine c53z ?_
  refine .z7 (fun m st => ∃ (i : Nat) (L : List u4) (g : Nat) (R : List Int) (CS : List (List Int)), (m = 65 - i ∧ (LI u L ∧ RI L R ∧ i ≤ L.length ∧ CS.length = i ∧ PI u L CS i)) ∧ st = ⟨mkS 109 [(1, AV.ptr h.length 0 0), (2, AV.ptr (h.length + 1) 0 0), (4, AV.ptr (h.length + 4) 0 0), (5, AV.int .i64 ((iO u L i : Nat) : Int)), (6, AV.int .i64 ((i : Nat) : Int))], h ++ [⟨0, false, 30, 4, [.vec u.globals.length (g7 u.globals), .vec u.c4.length (g5 u.c4), .vec u.procs.length (j7 u.procs), .int .i64 u.main], 0⟩, ⟨0, false, 34, 3, [.j6, .j6, .j6], 0⟩, ⟨g, false, 69, 2, l5 L, 0⟩, Rb, ⟨0, false, 34, 3, [.own (h.length + 2) g 0 L.length, .own (h.length + 5) i 0 i, .vec R.length (g7 R)], 0⟩, p4 22 1 i (m6 CS)]⟩) (.v ⟨0, ([⟨0, []⟩] : List u4), 0, ([0] : List Int), ([] : List (List Int)), ⟨rfl, ⟨⟨fun it hit => by replace hit := s7z hit; subst hit; exact wit0 hu, by simp, by simp⟩, ⟨by simp, by simp, by simp⟩, by omega, rfl, fun j hj => by omega⟩⟩, rfl⟩ (hs := t92)) ?_
  rintro m sl h' ⟨i, L, g, R, CS, ⟨hm, ⟨hL, hR, hi, hCS, hP⟩⟩, hst⟩
  obtain ⟨rfl, rfl⟩ := St.mk.inj hst; clear hst
  have hfew := hL.few hu
  have hrl := hR.len hu hL
  refine c0z ?_
  refine u2z ?_ ?_
  ·intro e1 qe1
   refine c2z ?_
   have hw : WIt u (L.getD i l4) := hL.w _ (l3 (by omega))
   have hw1 := hw.lo; have hw2 := hw.hi
   have hcd := kT hu hw
   have hs0 := hL.sites hu i
   have hs1 : iO u L (i + 1) = iO u L i + (c8 u (L.getD i l4)).length := by rw [Z4 (by omega)]
   have hs2 := hL.sites hu (i + 1)
   refine .ss s9 (mkP 12 [0, 1, 0, 4, 0, 28, 60, 124, 255, 511, 1023, 2047] []) ?_
   refine c59z ?_
   refine .c7 [1, 2, 4, 5, 6, 7, 34] ?_
   refine c26z ?_
   refine c18z ?_
   refine .spl 42 rfl rfl (fun e2 => by exfalso; have q := fact e2; omega) (fun e2 => ?_)
   try simp only [e2]
   have qe2 := fact e2
   refine .m [(2, 42)] ?_
   refine uFbz ?_
   intro e3 qe3
   refine .sk ?_
   refine .c7 [1, 2, 4, 5, 6, 7, 34] ?_
   have hcl1 := hcd.1
   have hclm : (c8 u (L.getD i l4)).length ≤ 2000 := by omega
   have hmx : ((c8 u (L.getD i l4)).length : Int) ≤ (maxLen : Int) := Int.ofNat_le.2 (Nat.le_trans hclm mx2000)
   refine c53z ?_
   refine .z7 (fun m st => ∃ (pc : Nat) (L1 : List u4) (g1 : Nat) (R1 : List Int) (v : List Int), (m = (c8 u (L.getD i l4)).length - pc ∧ (LI u L1 ∧ RI L1 R1 ∧ (∃ M, L1 = L ++ M) ∧ pc ≤ (c8 u (L.getD i l4)).length ∧ v.length = (c8 u (L.getD i l4)).length ∧ oE u L1 (L.getD i l4) v pc)) ∧ st = ⟨mkS 109 [(1, AV.ptr h.length 0 0), (2, AV.ptr (h.length + 1) 0 0), (4, AV.ptr (h.length + 4) 0 0), (5, AV.int .i64 ((iO u L (i + 1) : Nat) : Int)), (6, AV.int .i64 ((i : Nat) : Int)), (7, AV.vec (c8 u (L.getD i l4)).length (o3 (c8 u (L.getD i l4)))), (8, AV.own (h.length + 6) 0 0 (c8 u (L.getD i l4)).length), (9, AV.int .i64 ((pc : Nat) : Int))], h ++ [⟨0, false, 30, 4, [.vec u.globals.length (g7 u.globals), .vec u.c4.length (g5 u.c4), .vec u.procs.length (j7 u.procs), .int .i64 u.main], 0⟩, ⟨0, false, 34, 3, [.j6, .j6, .j6], 0⟩, ⟨g1, false, 69, 2, l5 L1, 0⟩, Rb, ⟨0, false, 34, 3, [.own (h.length + 2) g1 0 L1.length, .own (h.length + 5) i 0 i, .vec R1.length (g7 R1)], 0⟩, p4 22 1 i (m6 CS), ⟨0, false, 3, 1, g7 v, 0⟩]⟩) (.v ⟨0, L, g, R, (List.replicate (c8 u (L.getD i l4)).length 0), ⟨rfl, ⟨hL, hR, ⟨[], by simp⟩, by omega, by simp, fun j hj => by omega⟩⟩, rfl⟩) ?_
   rintro m sl h' ⟨pc, L1, g1, R1, v, ⟨hm, ⟨hL1, hR1, ⟨M, hM⟩, hpc, hv, hok⟩⟩, hst⟩
   obtain ⟨rfl, rfl⟩ := St.mk.inj hst; clear hst
   have hfew1 := hL1.few hu
   have hrl1 := hR1.len hu hL1
   have hit1 : L1.getD i l4 = L.getD i l4 := by rw [hM, lU (by omega)]
   have hw1 : WIt u (L1.getD i l4) := by rw [hit1]; exact hw
   have hil1 : i < L1.length := by rw [hM, List.length_append]; omega
   refine c0z ?_
   refine u2z ?_ ?_
   ·intro e4 qe4
    refine c2z ?_
    by_cases hcl : gG ((c8 u (L.getD i l4)).getD pc g6)
    ·generalize hy : cV u (L.getD i l4) pc = y
     have hwy : WIt u y := by rw [← hy]; exact vJ hu hw (by omega) hcl
     refine .sg s9 (mkH 14 [0, 0, 2, 0, 14, 30, 0, 127, 255, 511, 511, 0, 3071, 8191] [11, 12] [] [0, 2048, 6144] [0, 1, 2, 3, 4, 5, 6, 7, 8, 9, 10]) 0 ?_
     refine c107z ?_
     refine .p 2 ?_
     refine .rm [true] ?_
     refine .p 1 ?_
     refine .cl rfl rfl (fun _ => Z6 hu hw1 hit1 (by omega) hcl hy) ?_
     refine .p 3 ?_
     refine .en [true] [2048, 0] [_] ?_
     refine .en [true, false] [6144, 2048, 0] [_] ?_
     refine .p 1 ?_
     refine c35z ?_
     refine c169z ?_
     refine .seq ?_
     refine .c7 [1, 2, 4, 5, 6, 7, 8, 9, 10, 11] ?_
     refine c8z ?_
     refine c190z ?_
     refine c30z ?_
     refine .ca rfl rfl (J7 t30 t30 rfl hCS (by omega) (fun y hy => Nat.lt_of_le_of_lt (LI.j4 hu hL1 y hy) (by omega))) ?_
     refine .n ?_
     refine u2z ?_ ?_
     ·intro e5 qe5
      refine c1z ?_
      refine .c7 [1, 2, 4, 5, 6, 7, 8, 9, 10] ?_
      have hny : y ∉ L1 := fun hm => by have := S3 hm; omega
      have hL2 := hL1.snoc hwy hny
      have hfew2 := hL2.few hu
      have hmy : y ∈ L1 ++ [y] := by simp
      have hR2 := hR1.app (M := [y])
      have hok2 := hok.app (M := [y])
      obtain ⟨hf1, hf2, hf3⟩ := S3 hmy
      have hsg := @yI v pc (fI (L1 ++ [y]) y) (by omega)
      refine c31z ?_
      refine .ca rfl rfl (J7 (L := (L1 ++ [y])) t30 t30 (by rw [List.length_append]; rfl) hCS (by rw [List.length_append, List.length_singleton]; omega) (fun y hy => Nat.lt_of_le_of_lt (LI.j4 hu hL2 y hy) (by omega))) ?_
      refine .n ?_
      refine .z ?_
      refine u2z ?_ ?_
      ·intro e6 qe6
       refine .c7 [1, 2, 4, 5, 6, 7, 8, 9] ?_
       refine .og s9 (mkH 9 [0, 1, 0, 0, 12, 28, 63, 127, 255] [8] [] [0, 256] []) 0 ?_
       refine c161z ?_
       refine c89z ?_
       refine .cl rfl rfl (fun _ => FP _ _ (by omega)) ?_
       refine .p 1 ?_
       refine .en [true] [256, 0] [_] ?_
       refine s8.nil rfl ?_
       change c9 ..
       refine c240z ?_
       exact ⟨_, by omega, .v ⟨(pc + 1), (L1 ++ [y]), (g1 + 1), (iE R1 (fI (L1 ++ [y]) y)), (v.set pc (fI (L1 ++ [y]) y)), ⟨rfl, ⟨hL2, hR2.with ⟨hf1, hf2⟩, ⟨M ++ [y], by rw [hM, List.append_assoc]⟩, by omega, t135, hok2.set (by omega) ⟨fun _ => ⟨hf1, hf2, hf3.trans hy.symm⟩, fun hc => absurd hcl hc⟩⟩⟩, rfl⟩ (he := t36) (hk := t32)⟩
      intro e6 qe6
      refine c5z ?_
      refine c240z ?_
      exact ⟨_, by omega, .v ⟨(pc + 1), (L1 ++ [y]), (g1 + 1), R1, (v.set pc (fI (L1 ++ [y]) y)), ⟨rfl, ⟨hL2, hR2, ⟨M ++ [y], by rw [hM, List.append_assoc]⟩, by omega, t135, hok2.set (by omega) ⟨fun _ => ⟨hf1, hf2, hf3.trans hy.symm⟩, fun hc => absurd hcl hc⟩⟩⟩, rfl⟩ (he := t36) (hk := t32)⟩
     intro e5 qe5
     refine .sk ?_
     have hmy : y ∈ L1 := Classical.byContradiction fun hm => by have := fI_not hm; omega
     have hL2 := hL1
     have hR2 := hR1
     have hok2 := hok
     obtain ⟨hf1, hf2, hf3⟩ := S3 hmy
     have hsg := @yI v pc (fI L1 y) (by omega)
     refine c31z ?_
     refine .ca rfl rfl (J7 (L := L1) t30 t30 rfl hCS (by omega) (fun y hy => Nat.lt_of_le_of_lt (LI.j4 hu hL1 y hy) (by omega))) ?_
     refine .n ?_
     refine .c7 [1, 2, 4, 5, 6, 7, 8, 9] ?_
     refine .z ?_
     refine u2z ?_ ?_
     ·intro e7 qe7
      refine .og s9 (mkH 9 [0, 1, 0, 0, 12, 28, 63, 127, 255] [8] [] [0, 256] []) 0 ?_
      refine c161z ?_
      refine c89z ?_
      refine .cl rfl rfl (fun _ => FP _ _ (by omega)) ?_
      refine .p 1 ?_
      refine .en [true] [256, 0] [_] ?_
      refine s8.nil rfl ?_
      change c9 ..
      refine c240z ?_
      exact ⟨_, by omega, .v ⟨(pc + 1), L1, g1, (iE R1 (fI L1 y)), (v.set pc (fI L1 y)), ⟨rfl, ⟨hL2, hR2.with ⟨hf1, hf2⟩, ⟨M, by rw [hM]⟩, by omega, t135, hok2.set (by omega) ⟨fun _ => ⟨hf1, hf2, hf3.trans hy.symm⟩, fun hc => absurd hcl hc⟩⟩⟩, rfl⟩ (he := t36) (hk := t32)⟩
     intro e7 qe7
     refine c5z ?_
     refine .rz ?_
     exact ⟨_, by omega, .v ⟨(pc + 1), L1, g1, R1, (v.set pc (fI L1 y)), ⟨rfl, ⟨hL2, hR2, ⟨M, by rw [hM]⟩, by omega, t135, hok2.set (by omega) ⟨fun _ => ⟨hf1, hf2, hf3.trans hy.symm⟩, fun hc => absurd hcl hc⟩⟩⟩, rfl⟩ (he := t36) (hk := t32)⟩
    ·skip
     refine .sg s9 (mkH 14 [0, 0, 2, 0, 14, 30, 0, 127, 255, 511, 511, 0, 3071, 8191] [11, 12] [] [0, 2048, 6144] [0, 1, 2, 3, 4, 5, 6, 7, 8, 9, 10]) 0 ?_
     refine c107z ?_
     refine .p 2 ?_
     refine .rm [true] ?_
     refine .p 1 ?_
     refine .cl rfl rfl (fun _ => Z7 hu hw1 hit1 (by omega) hcl) ?_
     refine .p 3 ?_
     refine .en [true] [2048, 0] [_] ?_
     refine .en [true, false] [6144, 2048, 0] [_] ?_
     refine .p 1 ?_
     refine c35z ?_
     refine c169z ?_
     refine .seq ?_
     refine .c7 [1, 2, 4, 5, 6, 7, 8, 9, 10, 11] ?_
     refine c100z ?_
     refine .z ?_
     refine c9z ?_
     refine .rz ?_
     exact ⟨_, by omega, .v ⟨(pc + 1), L1, g1, R1, (v.set pc (-1)), ⟨rfl, ⟨hL1, hR1, ⟨M, hM⟩, by omega, t135, hok.set (by omega) ⟨fun hc => absurd hc hcl, fun _ => rfl⟩⟩⟩, rfl⟩ (he := t36) (hk := t32)⟩
   intro e4 qe4
   refine .exit ?_
   obtain rfl : pc = (c8 u (L.getD i l4)).length := by omega
   refine c9.A1 (t := 8) (γ := h.length + 6) (len := (c8 u (L.getD i l4)).length) (by rw [r7]; exact congrArg some (cU (by intro h0; have := congrArg List.length h0; rw [l9] at this; simp only [List.length_nil] at this; omega)).symm) (by rw [l9, hv, Nat.mul_one]) (by omega) (uY _) (mP (by decide) rfl) ?_
   rw [bI]; simp only [o7, List.set_cons_succ, List.set_cons_zero]
   generalize fQ _ _ _ _ _ = Vb
   change c9 ..
   refine c1z ?_
   refine .c7 [1, 2, 4, 5, 6] ?_
   refine .rz ?_
   have hP1 : PI u L1 (CS ++ [v]) (i + 1) := by rw [hM]; exact hP.step hCS (by omega) hv (by rw [← hM]; exact hok)
   have hs3 : iO u L1 (i + 1) = iO u L (i + 1) := by rw [hM, FX (by omega)]
   exact ⟨_, by omega, .v ⟨(i + 1), L1, g1, R1, (CS ++ [v]), ⟨rfl, ⟨hL1, hR1, by omega, by simp [hCS], hP1⟩⟩, rfl⟩ (he := by (simp only [List.append_assoc, List.cons_append, List.nil_append, List.length_append, List.length_cons, List.length_nil, hCS]; rfl)) (hk := by exact (z5.refl _).app rfl ⟨.inl rfl, .inl rfl, .inr ((NV _).refs _), .inl rfl, .inr (eX.get ⟨.own _ _ _ _ (by simp), .own _ _ _ _ (by simp), .vec _ _, trivial⟩), .inr (by rw [o6]; exact (NU _).refs _), trivial⟩) (hs := t92)⟩
  intro e1 qe1
  refine .exit ?_
  obtain rfl : i = L.length := by omega
  refine c9.A0 (γ := h.length + 2) (β := h.length + 4) (k := 0) (off := 0) (len := L.length) (cs := l5 L) t30 rfl (by simp only [u7]; omega) (by rw [List.drop_zero, List.take_of_length_le (by simp only [u7]; omega)]; exact (NV _).PR) t30 (by omega) rfl ?_
  simp only [List.append_assoc, List.cons_append, List.nil_append, r7, o7, List.set_cons_succ, List.set_cons_zero, List.length_append, List.length_cons, List.length_nil, Nat.reduceAdd, Nat.zero_add]
  refine c9.nP (γ := h.length + 5) (β := h.length + 4) (k := 1) (len := L.length) t30 (by rw [dO, hCS, Nat.mul_one]) (by omega) (NU _) t30 (by omega) rfl ?_
  refine c15z ?_
  refine .c7 [2, 4] ?_
  refine .z ?_
  exact .ret (.ex (hq := by exact ⟨⟨L, CS, R⟩, wc_of hu hL hR hCS hP, by simp only [SU, hCS]⟩))
end
end Go.Proofs.YtfbjlfhjkojmkaaGreat
end
section
namespace Go.Un
open Go.Ab
def shV (k : Nat) (n : Int) (d : Nat) : Int := if 0 ≤ (d : Int) + n ∧ (d : Int) + n ≤ k then 2 ^ ((d : Int) + n).toNat else 0
def shI (k : Nat) (n : Int) : List Int := (List.range (k + 1)).map (shV k n)
theorem FY {k : Nat} {n : Int} : (shI k n).length = k + 1 := by simp [shI]
def chI (it : u4) (x : Ins) (m : Int) : Int := if x.op = 4 ∧ vI it x.pl = m then 1 else if x.op = 5 ∧ vI it x.pl = m then -1 else 0
variable {it : u4} {x : Ins} {m : Int}
theorem chI_1 (h : x.op = 4) (h2 : vI it x.pl = m) : chI it x m = 1 := by rw [chI, if_pos ⟨h, h2⟩]
theorem chI_2 (h : x.op = 5) (h2 : vI it x.pl = m) : chI it x m = -1 := by rw [chI, if_neg (by omega), if_pos ⟨h, h2⟩]
theorem chI_0 (h : ¬ (x.op = 4 ∧ vI it x.pl = m)) (h2 : ¬ (x.op = 5 ∧ vI it x.pl = m)) : chI it x m = 0 := by rw [chI, if_neg h, if_neg h2]
theorem FZ : chI it x m = 1 ∨ chI it x m = -1 ∨ chI it x m = 0 := by
 unfold chI
 split
 ·exact .inl rfl
 ·split
  ·exact .inr (.inl rfl)
  ·exact .inr (.inr rfl)
def tS (m : Mx) : Nat := if m.size = 0 ∧ m.re = false then 1 else 8
theorem yJ {m : Mx} : tS m ≤ 8 := by unfold tS; split <;> omega
variable {pc : Nat}
theorem GA {u : Un} (hu : WU u) (w : WIt u it) (hpc : pc < (c8 u it).length) (ho : ((c8 u it).getD pc g6).op = 4 ∨ ((c8 u it).getD pc g6).op = 5) : ((c8 u it).getD pc g6).pl.param = true → 0 ≤ ((c8 u it).getD pc g6).pl.index ∧ ((c8 u it).getD pc g6).pl.index.toNat < it.j4.length := by
 obtain ⟨_, _, h3, _⟩ := (kT hu w).2.2 pc hpc
 intro hp
 obtain ⟨h0, ⟨_, h2⟩ | ⟨h1, _⟩⟩ := h3 ho
 ·refine ⟨h0, ?_⟩
  rw [w.len]
  simp only at h2
  omega
 ·rw [hp] at h1; cases h1
def u0 (x : Ins) (pc : Nat) : List Int := if x.op = 8 then [] else if x.op = 7 then [x.target] else if x.op = 6 then (if x.target = (pc : Int) + 1 then [x.target] else [min x.target ((pc : Int) + 1), max x.target ((pc : Int) + 1)]) else [(pc : Int) + 1]
def kI (x : Ins) (pc : Nat) : AV := .vec (u0 x pc).length (g7 (u0 x pc))
theorem GB (h : x.op = 8) : kI x pc = .vec 0 [] := by simp [kI, u0, h, g7]
theorem GC (h : x.op = 7) : kI x pc = .vec 1 [.int .i64 x.target] := by simp [kI, u0, h, g7]
theorem S5 (h : x.op = 6) (h2 : x.target = (pc : Int) + 1) : kI x pc = .vec 1 [.int .i64 x.target] := by simp [kI, u0, h, h2, g7]
theorem GD (h : x.op = 6) (h2 : ¬ x.target = (pc : Int) + 1) : kI x pc = .vec 2 [.int .i64 (min x.target ((pc : Int) + 1)), .int .i64 (max x.target ((pc : Int) + 1))] := by simp [kI, u0, h, h2, g7]
theorem GF (h8 : ¬ x.op = 8) (h7 : ¬ x.op = 7) (h6 : ¬ x.op = 6) : kI x pc = .vec 1 [.int .i64 ((pc : Int) + 1)] := by simp [kI, u0, h8, h7, h6, g7]
theorem tT : (u0 x pc).length ≤ 2 := by
 unfold u0
 split
 ·simp
 ·split
  ·simp
  ·split
   ·split <;> simp
   ·simp
theorem next_in {u : Un} (hu : WU u) (w : WIt u it) (hpc : pc < (c8 u it).length) : ∀ d, d < (u0 ((c8 u it).getD pc g6) pc).length → 0 ≤ (u0 ((c8 u it).getD pc g6) pc).getD d 0 ∧ (u0 ((c8 u it).getD pc g6) pc).getD d 0 < (c8 u it).length := by
 obtain ⟨h1, h2, h3⟩ := kT hu w
 obtain ⟨_, h4, _⟩ := h3 pc hpc
 have h5 : ¬ ((c8 u it).getD pc g6).op = 8 → pc + 1 < (c8 u it).length := fun h8 => by
  by_cases e : pc = (c8 u it).length - 1
  ·rw [← e] at h2; exact absurd h2 h8
  ·omega
 intro d hd
 have key : ∀ x ∈ u0 ((c8 u it).getD pc g6) pc, 0 ≤ x ∧ x < (c8 u it).length := by
  intro x hx
  unfold u0 at hx
  split at hx
  ·simp at hx
  ·rename_i h8
   have h6 := h5 h8
   split at hx
   ·rename_i h7
    have := h4 (.inr h7)
    replace hx := s7z hx
    omega
   ·split at hx
    ·rename_i h7
     have := h4 (.inl h7)
     split at hx
     ·replace hx := s7z hx
      omega
     ·replace hx := s6z hx
      omega
    ·replace hx := s7z hx
     omega
 exact key _ (l3 hd)
end Go.Un
end
section
namespace Go.Proofs.YtfbjlfhjkojmkaaGreat
open Go.Ab Go.Un
variable {i : Nat}
theorem jP {l : List Ins} (h : i < l.length) : List.take 12 (List.drop (i * 12) (o3 l)) = [.int .i64 (l.getD i g6).op, .int .i64 (l.getD i g6).target, .bool (l.getD i g6).global, .int .i64 (l.getD i g6).e.op, .int .i64 (l.getD i g6).e.num, .str (l.getD i g6).e.name, .vec (l.getD i g6).e.args.length (l8 (l.getD i g6).e.args), .bool (l.getD i g6).pl.param, .int .i64 (l.getD i g6).pl.index, .vec (l.getD i g6).pl.at'.length (l8 (l.getD i g6).pl.at'), .vec (l.getD i g6).ints.length (l8 (l.getD i g6).ints), .vec (l.getD i g6).w4.length (cO (l.getD i g6).w4)] := by rw [read_in h, jN]
theorem jQ {l : List Mx} (h : i < l.length) : List.take 3 (List.drop (i * 3) (g5 l)) = [.str (l.getD i v9).name, .bool (l.getD i v9).re, .int .i64 (l.getD i v9).size] := xF h
theorem flat_I (n : Nat) : (List.replicate n [AV.int .i64 0]).flatten = g7 (List.replicate n 0) := by
  induction n with
  | zero => rfl
  | succ n ih => simp only [List.replicate_succ, List.flatten_cons, ih]; rfl
theorem shl1N {e : Int} (h0 : 0 ≤ e) (h1 : e ≤ 9) : IntKind.wrap .i64 (1 * 2 ^ (min e.toNat 64)) = 2 ^ e.toNat := by
  obtain ⟨m, rfl⟩ := Int.eq_ofNat_of_zero_le h0
  have : m = 0 ∨ m = 1 ∨ m = 2 ∨ m = 3 ∨ m = 4 ∨ m = 5 ∨ m = 6 ∨ m = 7 ∨ m = 8 ∨ m = 9 := by omega
  rcases this with rfl | rfl | rfl | rfl | rfl | rfl | rfl | rfl | rfl | rfl <;> decide
variable {m : Nat}
theorem shl1M (h1 : m ≤ 9) : IntKind.wrap .i64 (1 * 2 ^ (min m 64)) = 2 ^ m := by
  have := shl1N (e := (m : Int)) (by omega) (by omega)
  simpa using this
def vT (v : Nat → Int) (i : Nat) (zs : List Int) : Prop := (∀ d, d < i → zs.getD d 0 = v d) ∧ (∀ d, i ≤ d → zs.getD d 0 = 0)
theorem vT.zero (v : Nat → Int) (n : Nat) : vT v 0 (List.replicate n 0) := by
  refine ⟨fun d hd => by omega, fun d _ => ?_⟩
  rw [List.getD_eq_getElem?_getD, List.getElem?_replicate]
  split <;> rfl
variable {v : Nat → Int} {zs : List Int}
theorem vT.set {x : Int} (hi : i < zs.length) (h : vT v i zs) (hx : x = v i) : vT v (i + 1) (zs.set i x) := by
  refine ⟨fun d hd => ?_, fun d hd => ?_⟩
  · by_cases e : d = i
    · subst e; simp [List.getD, hi, hx]
    · have := h.1 d (by omega)
      simp only [List.getD_eq_getElem?_getD, List.getElem?_set_ne (Ne.symm e)] at this ⊢
      exact this
  · have := h.2 d (by omega)
    simp only [List.getD_eq_getElem?_getD, List.getElem?_set_ne (show i ≠ d from by omega)] at this ⊢
    exact this
theorem vT.skip (h : vT v i zs) (hv : v i = 0) : vT v (i + 1) zs := by
  refine ⟨fun d hd => ?_, fun d hd => h.2 d (by omega)⟩
  by_cases e : d = i
  · subst e; rw [h.2 d (Nat.le_refl _), hv]
  · exact h.1 d (by omega)
theorem vT.all {n : Nat} (h : vT v i zs) (hl : zs.length = n) (hi : n ≤ i) : zs = (List.range n).map v := by
  refine List.ext_getElem (by simp [hl]) fun d k1 k2 => ?_
  have := h.1 d (by omega)
  simp
  simpa [List.getD, k1] using this
variable {h l : c6} {b0 : Blk} {g : Nat} {a : Int}
theorem NY : gJ h.length (h ++ (b0 :: ⟨g, false, 3, 1, [.int .i64 a], 0⟩ :: l)) 6 (.own (h.length + 1) g 0 1) = some (.vec 1 [.int .i64 a]) := D5 (a := [a]) t30 (by omega) rfl
theorem frz_2 {b : Int} : gJ h.length (h ++ (b0 :: ⟨g, false, 3, 1, [.int .i64 a, .int .i64 b], 0⟩ :: l)) 6 (.own (h.length + 1) g 0 2) = some (.vec 2 [.int .i64 a, .int .i64 b]) := D5 (a := [a, b]) t30 (by omega) rfl
theorem vec2 {b c d : Int} (h1 : a = c) (h2 : b = d) : AV.vec 2 [.int .i64 a, .int .i64 b] = AV.vec 2 [.int .i64 c, .int .i64 d] := by rw [h1, h2]
theorem frz_13 {b1 b2 : Blk} : gJ h.length (h ++ (b0 :: b1 :: b2 :: ⟨g, false, 3, 1, [.int .i64 a], 0⟩ :: l)) 6 (.own (h.length + 3) g 0 1) = some (.vec 1 [.int .i64 a]) := D5 (a := [a]) t30 (by omega) rfl
theorem iP {C : Cfg} {ρ : Operand → AV} {c : Call} {r : Operand} {name : String} {t : TypeId} {v : AV} {f : FuncId} (hc : c.callee = .invoke r name) (hr : ρ r = .iface t v) (hm : C.AM t name = some f) : s7 C ρ c = some (f, v :: c.args.toList.map ρ) := by simp only [s7, hc, hr, hm]
theorem Z8 : cfg.AM 180 "lockorder/flow.next" = some 145 := by kernel_rfl
theorem GG : cfg.AM 182 "lockorder/flow.next" = some 146 := by kernel_rfl
theorem tU : cfg.AM 183 "lockorder/flow.next" = some 147 := by kernel_rfl
theorem D6 : cfg.AM 184 "lockorder/flow.next" = some 148 := by kernel_rfl
attribute [local go_sem] rd u7 aK s5 n5 l9 Int.natCast_nonneg Int.natCast_inj lS dD lT jP jQ lC FW flat_I shl1N shl1M List.length_set List.length_replicate Int.toNat_natCast_add_one kV wrap64 xO max2
theorem WQ (m : Mx) : CB 56 [.agg [.str m.name, .bool m.re, .int .i64 m.size]] h (.int .i64 ((tS m : Nat) : Int)) := by
  refine .bz Tryz.f56 11 ?_
  refine c26z ?_
  refine c31z ?_
  refine .spl 6 rfl rfl (fun e1 => ?_) (fun e1 => ?_)
  ·try simp only [e1]
   have qe1 := fact e1
   refine .m [(3, 6)] ?_
   refine u2z ?_ ?_
   ·intro e2 qe2
    refine c21z ?_
    exact .ret (.ex (hq := t141))
   intro e2 qe2
   refine .sk ?_
   refine c21z ?_
   exact .ret (.ex (hq := t141))
  try simp only [e1]
  have qe1 := fact e1
  refine .m [(3, 6)] ?_
  refine c17z ?_
  refine c21z ?_
  exact .ret (.ex (hq := t141))
theorem QZ (m : Mx) : CB 36 [.agg [.str m.name, .bool m.re, .int .i64 m.size]] h (.int .i64 ((tS m : Nat) : Int)) := by
  refine .bz Tryz.f36 11 ?_
  refine c26z ?_
  refine c31z ?_
  refine .spl 6 rfl rfl (fun e1 => ?_) (fun e1 => ?_)
  ·try simp only [e1]
   have qe1 := fact e1
   refine .m [(3, 6)] ?_
   refine u2z ?_ ?_
   ·intro e2 qe2
    refine c21z ?_
    exact .ret (.ex (hq := t141))
   intro e2 qe2
   refine .sk ?_
   refine c21z ?_
   exact .ret (.ex (hq := t141))
  try simp only [e1]
  have qe1 := fact e1
  refine .m [(3, 6)] ?_
  refine c17z ?_
  refine c21z ?_
  exact .ret (.ex (hq := t141))
theorem tV (k : Nat) (n : Int) (hk : k ≤ 8) (h1 : -1 ≤ n) (h2 : n ≤ 1) : CB 95 [.int .i64 ((k : Nat) : Int), .int .i64 n] h (.vec (shI k n).length (g7 (shI k n))) := by
  refine .bz Tryz.f95 35 ?_
  refine c48z ?_
  refine .cI (fun m st => ∃ (i : Nat) (zs : List Int), (m = (k + 1) - i ∧ (vT (shV k n) i zs ∧ zs.length = (k + 1) ∧ i ≤ (k + 1))) ∧ st = ⟨mkS 35 [(0, AV.int .i64 ((k : Nat) : Int)), (1, AV.int .i64 n), (5, AV.own h.length 0 0 (k + 1)), (11, AV.int .i64 ((k + 1 : Nat) : Int)), (12, AV.int .i64 ((i : Nat) : Int))], h ++ [⟨0, false, 3, 1, g7 zs, 0⟩]⟩) _ (.v ⟨0, (List.replicate (k + 1) 0), ⟨rfl, ⟨vT.zero _ _, by simp, by omega⟩⟩, rfl⟩) ?_
  rintro m sl h' ⟨i, zs, ⟨hm, ⟨hI, hz, hi⟩⟩, hst⟩
  obtain ⟨rfl, rfl⟩ := St.mk.inj hst
  refine c26z ?_
  refine u2z ?_ ?_
  ·intro e1 qe1
   refine c87z ?_
   refine c23z ?_
   refine .spl 19 rfl rfl (fun e2 => ?_) (fun e2 => ?_)
   ·try simp only [e2]
    have qe2 := fact e2
    refine .m [(4, 19)] ?_
    refine u2z ?_ ?_
    ·intro e3 qe3
     refine .c7 [0, 1, 5, 6, 11, 12] ?_
     refine c1z ?_
     refine c203z ?_
     exact ⟨_, by omega, .v ⟨(i + 1), (zs.set i _), ⟨rfl, ⟨vT.set (by omega) hI (by rw [shV, if_pos (by omega)]), t108, by omega⟩⟩, rfl⟩⟩
    intro e3 qe3
    refine c5z ?_
    refine c203z ?_
    exact ⟨_, by omega, .v ⟨(i + 1), zs, ⟨rfl, ⟨vT.skip hI t168, hz, by omega⟩⟩, rfl⟩⟩
   try simp only [e2]
   have qe2 := fact e2
   refine .m [(4, 19)] ?_
   refine c45z ?_
   refine c203z ?_
   exact ⟨_, by omega, .v ⟨(i + 1), zs, ⟨rfl, ⟨vT.skip hI t168, hz, by omega⟩⟩, rfl⟩⟩
  intro e1 qe1
  refine c90z ?_
  exact ⟨_, _, rfl, D5 t129 (Nat.le_refl _) hz, by (rw [hI.all hz (by omega), FY]; rfl)⟩
theorem GI (k : Nat) (n : Int) (hk : k ≤ 8) (h1 : -1 ≤ n) (h2 : n ≤ 1) : CB 41 [.int .i64 ((k : Nat) : Int), .int .i64 n] h (.vec (shI k n).length (g7 (shI k n))) := by
  refine .bz Tryz.f41 32 ?_
  refine c48z ?_
  refine .cI (fun m st => ∃ (i : Nat) (zs : List Int), (m = (k + 1) - i ∧ (vT (shV k n) i zs ∧ zs.length = (k + 1) ∧ i ≤ (k + 1))) ∧ st = ⟨mkS 32 [(0, AV.int .i64 ((k : Nat) : Int)), (1, AV.int .i64 n), (5, AV.own h.length 0 0 (k + 1)), (6, AV.int .i64 ((i : Nat) : Int))], h ++ [⟨0, false, 3, 1, g7 zs, 0⟩]⟩) _ (.v ⟨0, (List.replicate (k + 1) 0), ⟨rfl, ⟨vT.zero _ _, by simp, by omega⟩⟩, rfl⟩) ?_
  rintro m sl h' ⟨i, zs, ⟨hm, ⟨hI, hz, hi⟩⟩, hst⟩
  obtain ⟨rfl, rfl⟩ := St.mk.inj hst
  refine c0z ?_
  refine u2z ?_ ?_
  ·intro e1 qe1
   refine c87z ?_
   refine c18z ?_
   refine .spl 21 rfl rfl (fun e2 => ?_) (fun e2 => ?_)
   ·try simp only [e2]
    have qe2 := fact e2
    refine .m [(2, 21)] ?_
    refine u2z ?_ ?_
    ·intro e3 qe3
     refine .c7 [0, 1, 5, 6, 7] ?_
     refine c46z ?_
     exact ⟨_, by omega, .v ⟨(i + 1), (zs.set i _), ⟨rfl, ⟨vT.set (by omega) hI (by rw [shV, if_pos (by omega)]), t108, by omega⟩⟩, rfl⟩⟩
    intro e3 qe3
    refine c5z ?_
    refine c139z ?_
    exact ⟨_, by omega, .v ⟨(i + 1), zs, ⟨rfl, ⟨vT.skip hI t168, hz, by omega⟩⟩, rfl⟩⟩
   try simp only [e2]
   have qe2 := fact e2
   refine .m [(2, 21)] ?_
   refine c45z ?_
   refine c139z ?_
   exact ⟨_, by omega, .v ⟨(i + 1), zs, ⟨rfl, ⟨vT.skip hI t168, hz, by omega⟩⟩, rfl⟩⟩
  intro e1 qe1
  refine c90z ?_
  exact ⟨_, _, rfl, D5 t129 (Nat.le_refl _) hz, by (rw [hI.all hz (by omega), FY]; rfl)⟩
theorem c_up (k : Nat) (hk : k ≤ 8) : CB 68 [.int .i64 ((k : Nat) : Int)] h (.vec (shI k 1).length (g7 (shI k 1))) := by
  refine .bz Tryz.f68 5 ?_
  refine c200z ?_
  refine .ca rfl rfl (tV k 1 hk (by omega) (by omega)) ?_
  refine c150z ?_
  exact ⟨[], _, (List.append_nil _).symm, t45, by rfl⟩
theorem c_down (k : Nat) (hk : k ≤ 8) : CB 69 [.int .i64 ((k : Nat) : Int)] h (.vec (shI k (-1)).length (g7 (shI k (-1)))) := by
  refine .bz Tryz.f69 5 ?_
  refine c200z ?_
  refine .ca rfl rfl (tV k (-1) hk (by omega) (by omega)) ?_
  refine c150z ?_
  exact ⟨[], _, (List.append_nil _).symm, t45, by rfl⟩
theorem c_id (k : Nat) (hk : k ≤ 8) : CB 70 [.int .i64 ((k : Nat) : Int)] h (.vec (shI k 0).length (g7 (shI k 0))) := by
  refine .bz Tryz.f70 5 ?_
  refine c200z ?_
  refine .ca rfl rfl (tV k 0 hk (by omega) (by omega)) ?_
  refine c150z ?_
  exact ⟨[], _, (List.append_nil _).symm, t45, by rfl⟩
variable {u : Un} {it : u4} {pc : Nat}
theorem c_fcode (hu : WU u) (w : WIt u it) (hpc : pc < (c8 u it).length) : CB 93 [.agg [.vec u.globals.length (g7 u.globals), .vec u.c4.length (g5 u.c4), .vec u.procs.length (j7 u.procs), .int .i64 u.main], .agg [.int .i64 it.proc, .vec it.j4.length (g7 it.j4)], .int .i64 ((pc : Nat) : Int)] h (.agg [.int .i64 ((c8 u it).getD pc g6).op, .int .i64 ((c8 u it).getD pc g6).target, .bool ((c8 u it).getD pc g6).global, .int .i64 ((c8 u it).getD pc g6).e.op, .int .i64 ((c8 u it).getD pc g6).e.num, .str ((c8 u it).getD pc g6).e.name, .vec ((c8 u it).getD pc g6).e.args.length (l8 ((c8 u it).getD pc g6).e.args), .bool ((c8 u it).getD pc g6).pl.param, .int .i64 ((c8 u it).getD pc g6).pl.index, .vec ((c8 u it).getD pc g6).pl.at'.length (l8 ((c8 u it).getD pc g6).pl.at'), .vec ((c8 u it).getD pc g6).ints.length (l8 ((c8 u it).getD pc g6).ints), .vec ((c8 u it).getD pc g6).w4.length (cO ((c8 u it).getD pc g6).w4)]) := by
  refine .bz Tryz.f93 17 ?_
  have w1 := w.lo
  have w2 := w.hi
  have hsz : (c8 u it).length ≤ 1664 := r8 hu w
  refine .z ?_
  refine c177z ?_
  exact .ret (.ex (hq := by rfl))
theorem RA (it : u4) (p : Pl) (hp : p.param = true → 0 ≤ p.index ∧ p.index.toNat < it.j4.length) : CB 94 [.agg [.int .i64 it.proc, .vec it.j4.length (g7 it.j4)], .agg [.bool p.param, .int .i64 p.index, .vec p.at'.length (l8 p.at')]] h (.int .i64 (vI it p)) := by
  refine .bz Tryz.f94 28 ?_
  refine c26z ?_
  refine c18z ?_
  refine .spl 7 rfl rfl (fun e1 => ?_) (fun e1 => ?_)
  ·try simp only [e1]
   have qe1 := fact e1
   refine .k 5 [(2, 7)] ?_
   refine .spl 12 rfl rfl (fun e2 => ?_) (fun e2 => ?_)
   ·try simp only [e2]
    have qe2 := fact e2
    refine .m [(7, 12)] ?_
    refine u2z ?_ ?_
    ·intro e3 qe3
     refine .c7 [2, 3] ?_
     refine .z ?_
     exact .ret (.ex (hq := t91))
    intro e3 qe3
    refine .sk ?_
    refine c173z ?_
    exact .ret (.ex (hq := t91))
   try simp only [e2]
   have qe2 := fact e2
   refine .m [(7, 12)] ?_
   refine c17z ?_
   refine c173z ?_
   exact .ret (.ex (hq := t91))
  try simp only [e1]
  have qe1 := fact e1
  refine .k 8 [(2, 7), (7, 12)] ?_
  refine .m [(7, 12)] ?_
  refine c17z ?_
  refine c173z ?_
  exact .ret (.ex (hq := t91))
theorem NZ (hu : WU u) (w : WIt u it) (hpc : pc < (c8 u it).length) (m : Int) : CB 67 [.agg [.vec u.globals.length (g7 u.globals), .vec u.c4.length (g5 u.c4), .vec u.procs.length (j7 u.procs), .int .i64 u.main], .agg [.int .i64 it.proc, .vec it.j4.length (g7 it.j4)], .int .i64 ((pc : Nat) : Int), .int .i64 m] h (.int .i64 (chI it ((c8 u it).getD pc g6) m)) := by
  refine .bz Tryz.f67 33 ?_
  have w1 := w.lo
  have w2 := w.hi
  have hsz : (c8 u it).length ≤ 1664 := r8 hu w
  refine c243z ?_
  refine c38z ?_
  refine c238z ?_
  refine .spl 17 rfl rfl (fun e1 => ?_) (fun e1 => ?_)
  ·try simp only [e1]
   have qe1 := fact e1
   refine .k 5 [(3, 17)] ?_
   refine .spl 22 rfl rfl (fun e2 => ?_) (fun e2 => ?_)
   ·try simp only [e2]
    have qe2 := fact e2
    refine .m [(8, 22)] ?_
    refine .T ?_
    refine c21z ?_
    exact .ret (.ex (hq := t13))
   try simp only [e2]
   have qe2 := fact e2
   refine .k 3 [(8, 22)] ?_
   refine .ca rfl rfl (RA it ((c8 u it).getD pc g6).pl (GA hu w hpc (by omega))) ?_
   refine .m [(8, 22)] ?_
   refine u2z ?_ ?_
   ·intro e3 qe3
    refine c21z ?_
    exact .ret (.ex (hq := t13))
   intro e3 qe3
   refine c190z ?_
   refine .c7 [9] ?_
   refine .z ?_
   refine u2z ?_ ?_
   ·intro e4 qe4
    refine .z ?_
    exact .ret (.ex (hq := t13))
   intro e4 qe4
   refine .sk ?_
   refine .z ?_
   exact .ret (.ex (hq := t13))
  try simp only [e1]
  have qe1 := fact e1
  refine .k 8 [(3, 17), (8, 22)] ?_
  refine .ca rfl rfl (RA it ((c8 u it).getD pc g6).pl (GA hu w hpc (by omega))) ?_
  refine .m [(8, 22)] ?_
  refine u2z ?_ ?_
  ·intro e5 qe5
   refine c21z ?_
   exact .ret (.ex (hq := t13))
  intro e5 qe5
  refine c190z ?_
  refine .c7 [9] ?_
  refine .z ?_
  refine u2z ?_ ?_
  ·intro e6 qe6
   refine .z ?_
   exact .ret (.ex (hq := t13))
  intro e6 qe6
  refine .sk ?_
  refine .z ?_
  exact .ret (.ex (hq := t13))
theorem GJ (hu : WU u) (w : WIt u it) (hpc : pc < (c8 u it).length) (m : Int) : CB 73 [.agg [.vec u.globals.length (g7 u.globals), .vec u.c4.length (g5 u.c4), .vec u.procs.length (j7 u.procs), .int .i64 u.main], .agg [.int .i64 it.proc, .vec it.j4.length (g7 it.j4)], .int .i64 ((pc : Nat) : Int), .int .i64 m] h (.int .i64 (chI it ((c8 u it).getD pc g6) m)) := by
  refine .bz Tryz.f73 44 ?_
  have w1 := w.lo
  have w2 := w.hi
  have hsz : (c8 u it).length ≤ 1664 := r8 hu w
  refine .z ?_
  refine c177z ?_
  refine .sb ?_
  refine c238z ?_
  refine .spl 24 rfl rfl (fun e1 => ?_) (fun e1 => ?_)
  ·try simp only [e1]
   have qe1 := fact e1
   refine .k 3 [(3, 24)] ?_
   refine .ca rfl rfl (FQ it ((c8 u it).getD pc g6).pl (GA hu w hpc (by omega))) ?_
   refine .m [(3, 24)] ?_
   refine u2z ?_ ?_
   ·intro e2 qe2
    refine c21z ?_
    exact .ret (.ex (hq := t13))
   intro e2 qe2
   refine c238z ?_
   refine .spl 36 rfl rfl (fun e3 => ?_) (fun e3 => ?_)
   ·try simp only [e3]
    have qe3 := fact e3
    refine .k 3 [(3, 36)] ?_
    refine .ca rfl rfl (FQ it ((c8 u it).getD pc g6).pl (GA hu w hpc (by omega))) ?_
    refine .m [(3, 36)] ?_
    refine u2z ?_ ?_
    ·intro e4 qe4
     refine c21z ?_
     exact .ret (.ex (hq := t13))
    intro e4 qe4
    refine c5z ?_
    refine c21z ?_
    exact .ret (.ex (hq := t13))
   try simp only [e3]
   have qe3 := fact e3
   refine .m [(3, 36)] ?_
   refine c45z ?_
   refine c21z ?_
   exact .ret (.ex (hq := t13))
  try simp only [e1]
  have qe1 := fact e1
  refine .m [(3, 24)] ?_
  refine .F ?_
  refine c238z ?_
  refine .spl 36 rfl rfl (fun e5 => ?_) (fun e5 => ?_)
  ·try simp only [e5]
   have qe5 := fact e5
   refine .k 3 [(3, 36)] ?_
   refine .ca rfl rfl (FQ it ((c8 u it).getD pc g6).pl (GA hu w hpc (by omega))) ?_
   refine .m [(3, 36)] ?_
   refine u2z ?_ ?_
   ·intro e6 qe6
    refine c21z ?_
    exact .ret (.ex (hq := t13))
   intro e6 qe6
   refine c5z ?_
   refine c21z ?_
   exact .ret (.ex (hq := t13))
  try simp only [e5]
  have qe5 := fact e5
  refine .m [(3, 36)] ?_
  refine c45z ?_
  refine c21z ?_
  exact .ret (.ex (hq := t13))
theorem c_rel (hu : WU u) (w : WIt u it) (hpc : pc < (c8 u it).length) (hm : m < u.c4.length) : CB 39 [.agg [.vec u.globals.length (g7 u.globals), .vec u.c4.length (g5 u.c4), .vec u.procs.length (j7 u.procs), .int .i64 u.main], .agg [.int .i64 it.proc, .vec it.j4.length (g7 it.j4)], .int .i64 ((pc : Nat) : Int), .int .i64 ((m : Nat) : Int)] h (.vec (shI (tS (u.c4.getD m v9)) (chI it ((c8 u it).getD pc g6) ((m : Nat) : Int))).length (g7 (shI (tS (u.c4.getD m v9)) (chI it ((c8 u it).getD pc g6) ((m : Nat) : Int))))) := by
  refine .bz Tryz.f39 31 ?_
  have w1 := w.lo
  have w2 := w.hi
  have hsz : (c8 u it).length ≤ 1664 := r8 hu w
  have hcp := yJ (m := (u.c4.getD m v9))
  have hml := hu.ml
  have hch := FZ (it := it) (x := ((c8 u it).getD pc g6)) (m := (m : Int))
  refine .z ?_
  refine c23z ?_
  refine .ca rfl rfl (WQ (u.c4.getD m v9)) ?_
  refine c38z ?_
  refine .c7 [2, 3, 4, 5, 9] ?_
  refine c31z ?_
  refine .ca rfl rfl (NZ hu w hpc _) ?_
  refine c218z ?_
  refine .c7 [9, 20] ?_
  refine .z ?_
  refine u2z ?_ ?_
  ·intro e1 qe1
   refine c66z ?_
   refine .ca rfl rfl (c_up _ hcp) ?_
   refine .n ?_
   exact .ret (.ex (hq := t61))
  intro e1 qe1
  refine .z ?_
  refine u2z ?_ ?_
  ·intro e2 qe2
   refine c66z ?_
   refine .ca rfl rfl (c_down _ hcp) ?_
   refine .n ?_
   exact .ret (.ex (hq := t61))
  intro e2 qe2
  refine c5z ?_
  refine c66z ?_
  refine .ca rfl rfl (c_id _ hcp) ?_
  refine .n ?_
  exact .ret (.ex (hq := t61))
theorem c_relR (hu : WU u) (w : WIt u it) (hpc : pc < (c8 u it).length) (hm : m < u.c4.length) : CB 42 [.agg [.vec u.globals.length (g7 u.globals), .vec u.c4.length (g5 u.c4), .vec u.procs.length (j7 u.procs), .int .i64 u.main], .agg [.int .i64 it.proc, .vec it.j4.length (g7 it.j4)], .int .i64 ((pc : Nat) : Int), .int .i64 ((m : Nat) : Int)] h (.vec (shI (tS (u.c4.getD m v9)) (chI it ((c8 u it).getD pc g6) ((m : Nat) : Int))).length (g7 (shI (tS (u.c4.getD m v9)) (chI it ((c8 u it).getD pc g6) ((m : Nat) : Int))))) := by
  refine .bz Tryz.f42 21 ?_
  have w1 := w.lo
  have w2 := w.hi
  have hsz : (c8 u it).length ≤ 1664 := r8 hu w
  have hcp := yJ (m := (u.c4.getD m v9))
  have hml := hu.ml
  have hch := FZ (it := it) (x := ((c8 u it).getD pc g6)) (m := (m : Int))
  refine .z ?_
  refine .ss s9 (mkP 13 [0, 1, 0, 7, 15, 31, 0, 0, 0, 0, 1023, 2047, 4095] []) ?_
  refine .k 5 [] ?_
  refine .ca rfl rfl (QZ (u.c4.getD m v9)) ?_
  refine .k 4 [] ?_
  refine .ca rfl rfl (GJ hu w hpc _) ?_
  refine .ca rfl rfl (GI _ _ hcp (by omega) (by omega)) ?_
  refine .n [] ?_
  exact .ret (.ex (hq := by rfl))
theorem c_ended (pc : Nat) : CB 145 [.agg [], .int .i64 ((pc : Nat) : Int)] h (.vec 0 []) := by
  refine .bz Tryz.f145 5 ?_
  refine c19z ?_
  exact .ret (.ex (hq := by rfl))
theorem c_jump (pc : Nat) (t : Int) : CB 146 [.agg [.int .i64 t], .int .i64 ((pc : Nat) : Int)] h (.vec 1 [.int .i64 t]) := by
  refine .bz Tryz.f146 8 ?_
  refine c19z ?_
  exact .ret (.ex (hf := by first | rfl | exact NY) (hq := by rfl))
theorem GK (pc : Nat) (hp : pc < 100000) : CB 148 [.agg [], .int .i64 ((pc : Nat) : Int)] h (.vec 1 [.int .i64 ((pc : Int) + 1)]) := by
  refine .bz Tryz.f148 8 ?_
  refine c19z ?_
  exact .ret (.ex (hf := by first | rfl | exact NY) (hq := by rfl))
theorem S6 (pc : Nat) (t : Int) (hp : pc < 100000) : CB 147 [.agg [.int .i64 t], .int .i64 ((pc : Nat) : Int)] h (if t = (pc : Int) + 1 then AV.vec 1 [AV.int .i64 t] else AV.vec 2 [AV.int .i64 (min t ((pc : Int) + 1)), AV.int .i64 (max t ((pc : Int) + 1))]) := by
  refine .bz Tryz.f147 24 ?_
  refine c86z ?_
  refine u2z ?_ ?_
  ·intro e1 qe1
   refine .c7 [2] ?_
   refine .z ?_
   exact .ret (.ex (hf := by first | rfl | first | exact NY | exact frz_2) (hq := t85))
  intro e1 qe1
  refine .sk ?_
  refine c177z ?_
  exact .ret (.ex (hf := by first | rfl | first | exact NY | exact frz_2) (hq := t85))
def RC (x : Ins) : AV := if x.op = 8 then .iface 180 (.agg []) else if x.op = 7 then .iface 182 (.agg [.int .i64 x.target]) else if x.op = 6 then .iface 183 (.agg [.int .i64 x.target]) else .iface 184 (.agg [])
variable {x : Ins}
theorem RD (h : x.op = 8) : RC x = .iface 180 (.agg []) := if_pos h
theorem RE (h : x.op = 7) : RC x = .iface 182 (.agg [.int .i64 x.target]) := by rw [RC, if_neg (by omega), if_pos h]
theorem GL (h : x.op = 6) : RC x = .iface 183 (.agg [.int .i64 x.target]) := by rw [RC, if_neg (by omega), if_neg (by omega), if_pos h]
theorem RF (h8 : ¬ x.op = 8) (h7 : ¬ x.op = 7) (h6 : ¬ x.op = 6) : RC x = .iface 184 (.agg []) := by rw [RC, if_neg h8, if_neg h7, if_neg h6]
theorem GM (x : Ins) : CB 97 [.agg [.int .i64 x.op, .int .i64 x.target, .bool x.global, .int .i64 x.e.op, .int .i64 x.e.num, .str x.e.name, .vec x.e.args.length (l8 x.e.args), .bool x.pl.param, .int .i64 x.pl.index, .vec x.pl.at'.length (l8 x.pl.at'), .vec x.ints.length (l8 x.ints), .vec x.w4.length (cO x.w4)]] h (RC x) := by
  refine .bz Tryz.f97 23 ?_
  refine c53z ?_
  refine .z ?_
  refine u2z ?_ ?_
  ·intro e1 qe1
   refine .z ?_
   exact .ret (.ex (hq := t62))
  intro e1 qe1
  refine .z ?_
  refine u2z ?_ ?_
  ·intro e2 qe2
   refine c239z ?_
   exact .ret (.ex (hq := t62))
  intro e2 qe2
  refine .z ?_
  refine u2z ?_ ?_
  ·intro e3 qe3
   refine c239z ?_
   exact .ret (.ex (hq := t62))
  intro e3 qe3
  refine c5z ?_
  refine c21z ?_
  exact .ret (.ex (hq := t62))
theorem c_next8 (hu : WU u) (w : WIt u it) (hpc : pc < (c8 u it).length) (ho : ((c8 u it).getD pc g6).op = 8) : CB 72 [.agg [.vec u.globals.length (g7 u.globals), .vec u.c4.length (g5 u.c4), .vec u.procs.length (j7 u.procs), .int .i64 u.main], .agg [.int .i64 it.proc, .vec it.j4.length (g7 it.j4)], .int .i64 ((pc : Nat) : Int)] h (kI ((c8 u it).getD pc g6) pc) := by
  refine .bz Tryz.f72 16 ?_
  have w1 := w.lo
  have w2 := w.hi
  have hsz : (c8 u it).length ≤ 1664 := r8 hu w
  refine c243z ?_
  refine .ca rfl rfl ((GM ((c8 u it).getD pc g6)).mono fun y k hq => ⟨hq.1.trans (RD ho), hq.2⟩) ?_
  refine .n ?_
  refine c206z ?_
  refine m7.cq rfl (iP rfl rfl Z8) hb145 (c_ended pc) ?_
  refine .n ?_
  exact .ret (.ex (hq := by (exact (GB ho).symm)))
theorem c_next7 (hu : WU u) (w : WIt u it) (hpc : pc < (c8 u it).length) (ho : ((c8 u it).getD pc g6).op = 7) : CB 72 [.agg [.vec u.globals.length (g7 u.globals), .vec u.c4.length (g5 u.c4), .vec u.procs.length (j7 u.procs), .int .i64 u.main], .agg [.int .i64 it.proc, .vec it.j4.length (g7 it.j4)], .int .i64 ((pc : Nat) : Int)] h (kI ((c8 u it).getD pc g6) pc) := by
  refine .bz Tryz.f72 16 ?_
  have w1 := w.lo
  have w2 := w.hi
  have hsz : (c8 u it).length ≤ 1664 := r8 hu w
  refine c243z ?_
  refine .ca rfl rfl ((GM ((c8 u it).getD pc g6)).mono fun y k hq => ⟨hq.1.trans (RE ho), hq.2⟩) ?_
  refine .n ?_
  refine c206z ?_
  refine m7.cq rfl (iP rfl rfl GG) hb146 (c_jump pc _) ?_
  refine .n ?_
  exact .ret (.ex (hq := by (exact (GC ho).symm)))
theorem OA (hu : WU u) (w : WIt u it) (hpc : pc < (c8 u it).length) (ho : ((c8 u it).getD pc g6).op = 6) (ht : ((c8 u it).getD pc g6).target = (pc : Int) + 1) : CB 72 [.agg [.vec u.globals.length (g7 u.globals), .vec u.c4.length (g5 u.c4), .vec u.procs.length (j7 u.procs), .int .i64 u.main], .agg [.int .i64 it.proc, .vec it.j4.length (g7 it.j4)], .int .i64 ((pc : Nat) : Int)] h (kI ((c8 u it).getD pc g6) pc) := by
  refine .bz Tryz.f72 16 ?_
  have w1 := w.lo
  have w2 := w.hi
  have hsz : (c8 u it).length ≤ 1664 := r8 hu w
  refine c243z ?_
  refine .ca rfl rfl ((GM ((c8 u it).getD pc g6)).mono fun y k hq => ⟨hq.1.trans (GL ho), hq.2⟩) ?_
  refine .n ?_
  refine c206z ?_
  refine m7.cq rfl (iP rfl rfl tU) hb147 ((S6 pc _ (by omega)).mono fun y k hq => ⟨hq.1.trans (if_pos ht), hq.2⟩) ?_
  refine .n ?_
  exact .ret (.ex (hq := by (exact (S5 ho ht).symm)))
theorem c_next6 (hu : WU u) (w : WIt u it) (hpc : pc < (c8 u it).length) (ho : ((c8 u it).getD pc g6).op = 6) (ht : ¬ ((c8 u it).getD pc g6).target = (pc : Int) + 1) : CB 72 [.agg [.vec u.globals.length (g7 u.globals), .vec u.c4.length (g5 u.c4), .vec u.procs.length (j7 u.procs), .int .i64 u.main], .agg [.int .i64 it.proc, .vec it.j4.length (g7 it.j4)], .int .i64 ((pc : Nat) : Int)] h (kI ((c8 u it).getD pc g6) pc) := by
  refine .bz Tryz.f72 16 ?_
  have w1 := w.lo
  have w2 := w.hi
  have hsz : (c8 u it).length ≤ 1664 := r8 hu w
  refine c243z ?_
  refine .ca rfl rfl ((GM ((c8 u it).getD pc g6)).mono fun y k hq => ⟨hq.1.trans (GL ho), hq.2⟩) ?_
  refine .n ?_
  refine c206z ?_
  refine m7.cq rfl (iP rfl rfl tU) hb147 ((S6 pc _ (by omega)).mono fun y k hq => ⟨hq.1.trans (if_neg ht), hq.2⟩) ?_
  refine .n ?_
  exact .ret (.ex (hq := by (exact (GD ho ht).symm)))
theorem c_nextn (hu : WU u) (w : WIt u it) (hpc : pc < (c8 u it).length) (h8 : ¬ ((c8 u it).getD pc g6).op = 8) (h7 : ¬ ((c8 u it).getD pc g6).op = 7) (h6 : ¬ ((c8 u it).getD pc g6).op = 6) : CB 72 [.agg [.vec u.globals.length (g7 u.globals), .vec u.c4.length (g5 u.c4), .vec u.procs.length (j7 u.procs), .int .i64 u.main], .agg [.int .i64 it.proc, .vec it.j4.length (g7 it.j4)], .int .i64 ((pc : Nat) : Int)] h (kI ((c8 u it).getD pc g6) pc) := by
  refine .bz Tryz.f72 16 ?_
  have w1 := w.lo
  have w2 := w.hi
  have hsz : (c8 u it).length ≤ 1664 := r8 hu w
  refine c243z ?_
  refine .ca rfl rfl ((GM ((c8 u it).getD pc g6)).mono fun y k hq => ⟨hq.1.trans (RF h8 h7 h6), hq.2⟩) ?_
  refine .n ?_
  refine c206z ?_
  refine m7.cq rfl (iP rfl rfl D6) hb148 (GK pc (by omega)) ?_
  refine .n ?_
  exact .ret (.ex (hq := by (exact (GF h8 h7 h6).symm)))
theorem c_nextF (hu : WU u) (w : WIt u it) (hpc : pc < (c8 u it).length) : CB 72 [.agg [.vec u.globals.length (g7 u.globals), .vec u.c4.length (g5 u.c4), .vec u.procs.length (j7 u.procs), .int .i64 u.main], .agg [.int .i64 it.proc, .vec it.j4.length (g7 it.j4)], .int .i64 ((pc : Nat) : Int)] h (kI ((c8 u it).getD pc g6) pc) := by
  by_cases h8 : ((c8 u it).getD pc g6).op = 8
  · exact c_next8 hu w hpc h8
  by_cases h7 : ((c8 u it).getD pc g6).op = 7
  · exact c_next7 hu w hpc h7
  by_cases h6 : ((c8 u it).getD pc g6).op = 6
  · by_cases ht : ((c8 u it).getD pc g6).target = (pc : Int) + 1
    · exact OA hu w hpc h6 ht
    · exact c_next6 hu w hpc h6 ht
  exact c_nextn hu w hpc h8 h7 h6
variable {t : Int}
theorem kW_1 (h : a < t) : kW [a] t = 1 := by simp [kW, List.takeWhile, h]
theorem kW_0 (h : ¬ a < t) : kW [a] t = 0 := by simp [kW, List.takeWhile, h]
theorem GN (h : x.op = 6) : AV.vec (iE [(pc : Int) + 1] x.target).length (g7 (iE [(pc : Int) + 1] x.target)) = kI x pc := by
  by_cases h2 : x.target = (pc : Int) + 1
  · rw [S5 h h2, iE, if_pos (by simp [h2])]; rw [h2]; rfl
  · rw [GD h h2, iE, if_neg t97]
    by_cases h3 : (pc : Int) + 1 < x.target
    · rw [kW_1 h3, show min x.target ((pc : Int) + 1) = (pc : Int) + 1 from by omega, show max x.target ((pc : Int) + 1) = x.target from by omega]; rfl
    · rw [kW_0 h3, show min x.target ((pc : Int) + 1) = x.target from by omega, show max x.target ((pc : Int) + 1) = (pc : Int) + 1 from by omega]; rfl
theorem c_with1 {b1 b2 : Blk} : CH 55 [.own (h.length + 3) g 0 1, .int .i64 t] (h ++ [b0, b1, b2, ⟨g, false, 3, 1, [.int .i64 a], 0⟩]) (.vec (iE [a] t).length (g7 (iE [a] t))) (h ++ [b0, b1, b2, ⟨g, false, 3, 1, [.int .i64 a], 1⟩]) := by
  refine CallA.CD (β := h.length + 3) (off := 0) (len := 1) (b := ⟨g, false, 3, 1, [.int .i64 a], 0⟩) (cs := g7 [a]) (args' := [.vec 1 (g7 [a]), .int .i64 t]) t30 rfl (by simp) rfl ⟨.inr ⟨rfl, rfl⟩, .inl rfl, trivial⟩ ?_
  rw [o7]
  exact FP (h := h ++ [b0, b1, b2, ⟨g, false, 3, 1, [.int .i64 a], 1⟩]) [a] t (by simp)
theorem c_nextR (hu : WU u) (w : WIt u it) (hpc : pc < (c8 u it).length) : CB 44 [.agg [.vec u.globals.length (g7 u.globals), .vec u.c4.length (g5 u.c4), .vec u.procs.length (j7 u.procs), .int .i64 u.main], .agg [.int .i64 it.proc, .vec it.j4.length (g7 it.j4)], .int .i64 ((pc : Nat) : Int)] h (kI ((c8 u it).getD pc g6) pc) := by
  refine .bz Tryz.f44 38 ?_
  have w1 := w.lo
  have w2 := w.hi
  have hsz : (c8 u it).length ≤ 1664 := r8 hu w
  refine .z ?_
  refine c72z ?_
  refine c38z ?_
  refine .c7 [2, 7] ?_
  refine c24z ?_
  refine .z ?_
  refine u2z ?_ ?_
  ·intro e1 qe1
   refine .z ?_
   exact .ret (.ex (hf := t170) (hq := t63))
  intro e1 qe1
  refine .z ?_
  refine u2z ?_ ?_
  ·intro e2 qe2
   refine .z ?_
   exact .ret (.ex (hf := t170) (hq := t63))
  intro e2 qe2
  refine .z ?_
  refine u2z ?_ ?_
  ·intro e3 qe3
   refine .c7 [2, 7] ?_
   refine c23z ?_
   refine .ch rfl rfl (c_with1) ?_
   refine .n ?_
   exact .ret (.ex (hf := t170) (hq := t63))
  intro e3 qe3
  refine c5z ?_
  refine .c7 [2] ?_
  refine .z ?_
  exact .ret (.ex (hf := t170) (hq := t63))
end Go.Proofs.YtfbjlfhjkojmkaaGreat
end
section
namespace Go.Un
open Go.Ab
def q9 (n : Nat) : AV := .int .i64 (n : Int)
def bR (l : List Nat) : AV := .vec l.length (l.map q9)
variable {i : Nat}
theorem tW {l : List Nat} (h : i < l.length) : List.take 1 (List.drop i (l.map q9)) = [AV.int .i64 ((l.getD i 0 : Nat) : Int)] := by
 rw [← List.map_drop, ← List.map_take, List.drop_eq_getElem_cons h, List.take_succ_cons, List.take_zero]
 simp [List.getD, h, q9]
theorem RG {l : List Nat} {v : Nat} (h : i < l.length) : List.take i (l.map q9) ++ AV.int .i64 (v : Int) :: List.drop (i + 1) (l.map q9) = (l.set i v).map q9 := by
 rw [← List.map_drop, ← List.map_take, List.set_eq_take_append_cons_drop, if_pos h]
 simp [q9]
theorem tX (n : Nat) : (List.replicate n [AV.int .i64 0]).flatten = (List.replicate n (0 : Nat)).map q9 := by
 induction n with
 | zero => rfl
 | succ n ih => simp [List.replicate_succ, ih, q9]
theorem i64_63 (n : Int) (h0 : 0 ≤ n) (h1 : n < 2 ^ 63) : IntKind.wrap .i64 n = n := wrap64 (by omega) (by omega)
variable {a b : Nat}
theorem orN (ha : a < 512) (hb : b < 512) : bits .or .i64 (a : Int) (b : Int) = ((a ||| b : Nat) : Int) := (bits_nat .i64 63 (by decide) i64_63 a b (by omega) (by omega)).2
def dhV (k : Nat) (n : Int) (d : Nat) : Nat := if 0 ≤ (d : Int) + n ∧ (d : Int) + n ≤ k then 2 ^ ((d : Int) + n).toNat else 0
def dhN (k : Nat) (n : Int) : List Nat := (List.range (k + 1)).map (dhV k n)
def hasD (s : Nat) (d : Int) : Bool := decide (0 ≤ d ∧ d ≤ 8) && s.testBit d.toNat
theorem testAll : ((List.range 9).all fun m => (List.range 512).all fun s => (bits .and .i64 ((s : Int).fdiv (2 ^ (min m 64))) 1 == 1) == s.testBit m) = true := by kernel_rfl
variable {s : Nat}
theorem testN {m : Nat} (hm : m ≤ 8) (hs : s < 512) : (bits .and .i64 ((s : Int).fdiv (2 ^ (min m 64))) 1 == 1) = s.testBit m := by
 have h1 := List.all_eq_true.1 testAll m (List.mem_range.2 (by omega))
 have h2 := List.all_eq_true.1 h1 s (List.mem_range.2 hs)
 simpa using h2
theorem hasN (hi : i ≤ 8) : hasD s (i : Int) = s.testBit i := by
 have : 0 ≤ (i : Int) ∧ (i : Int) ≤ 8 := by omega
 simp [hasD, this]
def bO (r : List Nat) (s : Nat) : Nat → Nat
 | 0 => 0
 | i + 1 => if s.testBit i then bO r s i ||| r.getD i 0 else bO r s i
def applyN (r : List Nat) (s : Nat) : Nat := bO r s r.length
def o4 (a b : List Nat) : List Nat := (List.range a.length).map fun d => applyN b (a.getD d 0)
def cD (a b : List Nat) : List Nat := (List.range a.length).map fun d => a.getD d 0 ||| b.getD d 0
def tY (a b : List Nat) : Prop := ∀ d, d < a.length → bits .andNot .i64 ((a.getD d 0 : Nat) : Int) ((b.getD d 0 : Nat) : Int) = 0
instance (a b : List Nat) : Decidable (tY a b) := by unfold tY; exact inferInstance
variable {r : List Nat}
theorem eM (hr : ∀ x ∈ r, x < 512) (i : Nat) : r.getD i 0 < 512 := by
 rw [List.getD_eq_getElem?_getD]
 cases h : r[i]? with
 | none => simp
 | some x => exact hr x (List.mem_of_getElem? h)
theorem or_lt (ha : a < 512) (hb : b < 512) : a ||| b < 512 := Nat.or_lt_two_pow (n := 9) ha hb
theorem lV {r : List Nat} (hr : ∀ x ∈ r, x < 512) (s : Nat) : ∀ i, bO r s i < 512
 | 0 => by simp [bO]
 | i + 1 => by
  unfold bO
  split
  ·exact or_lt (lV hr s i) (eM hr i)
  ·exact lV hr s i
theorem RH (h : s.testBit i = true) : bO r s (i + 1) = bO r s i ||| r.getD i 0 := by rw [bO, if_pos h]
theorem RJ (h : s.testBit i = false) : bO r s (i + 1) = bO r s i := by rw [bO, if_neg (by simp [h])]
def withinN (x m : Int) : Nat := (within x m).toNat
theorem pow_le {k : Nat} (hk : k ≤ 8) : 0 < 2 ^ (k + 1) ∧ 2 ^ (k + 1) ≤ 512 := by
 have : k = 0 ∨ k = 1 ∨ k = 2 ∨ k = 3 ∨ k = 4 ∨ k = 5 ∨ k = 6 ∨ k = 7 ∨ k = 8 := by omega
 rcases this with rfl | rfl | rfl | rfl | rfl | rfl | rfl | rfl | rfl <;> decide
def relV (l : List Int) (k d : Nat) : Nat := if d < l.length then withinN (l.getD d 0) ((2 ^ (k + 1) : Nat) : Int) else 0
def YN (l : List Int) (k : Nat) : List Nat := (List.range (k + 1)).map (relV l k)
theorem tZ {r : List Nat} {s j : Nat} : ∀ {i : Nat}, (bO r s i).testBit j = true ↔ ∃ d, d < i ∧ s.testBit d = true ∧ (r.getD d 0).testBit j = true
 | 0 => by simp [bO]
 | i + 1 => by
  have ih := tZ (r := r) (s := s) (j := j) (i := i)
  by_cases h : s.testBit i = true
  ·rw [RH h, Nat.testBit_or, Bool.or_eq_true, ih]
   constructor
   ·rintro (⟨d, h1, h2⟩ | h1)
    ·exact ⟨d, by omega, h2⟩
    ·exact ⟨i, by omega, h, h1⟩
   ·rintro ⟨d, h1, h2, h3⟩
    by_cases e : d = i
    ·subst e; exact .inr h3
    ·exact .inl ⟨d, by omega, h2, h3⟩
  ·rw [RJ t172, ih]
   constructor
   ·rintro ⟨d, h1, h2⟩; exact ⟨d, by omega, h2⟩
   ·rintro ⟨d, h1, h2, h3⟩
    by_cases e : d = i
    ·subst e; exact absurd h2 h
    ·exact ⟨d, by omega, h2, h3⟩
theorem Z9 {j : Nat} : (applyN r s).testBit j = true ↔ ∃ d, d < r.length ∧ s.testBit d = true ∧ (r.getD d 0).testBit j = true := tZ
theorem GO (h : ∀ j, a.testBit j = true ↔ b.testBit j = true) : a = b := Nat.eq_of_testBit_eq fun j => Bool.eq_iff_iff.2 (h j)
variable {n d : Nat}
theorem oF {f : Nat → Nat} (hd : d < n) : ((List.range n).map f).getD d 0 = f d := by simp [List.getD, hd]
theorem uA (a b : List Nat) : (o4 a b).length = a.length := by simp [o4]
theorem oG (a b : List Nat) : (cD a b).length = a.length := by simp [cD]
theorem rel_len (l : List Int) (k : Nat) : (YN l k).length = k + 1 := by simp [YN]
theorem J8 {a b : List Nat} (hd : d < a.length) : (o4 a b).getD d 0 = applyN b (a.getD d 0) := oF hd
theorem GQ {a b : List Nat} (hd : d < a.length) : (cD a b).getD d 0 = a.getD d 0 ||| b.getD d 0 := oF hd
theorem map_ext {f g : Nat → Nat} (h : ∀ d, d < n → f d = g d) : (List.range n).map f = (List.range n).map g := dL fun d hd => h d (List.mem_range.1 hd)
theorem AA {x j : Nat} (h : x < 2 ^ n) (hj : x.testBit j = true) : j < n := by
 rcases Nat.lt_or_ge j n with h' | h'
 ·exact h'
 ·rw [Nat.testBit_lt_two_pow (Nat.lt_of_lt_of_le h (Nat.pow_le_pow_right (by decide) h'))] at hj
  cases hj
theorem qQ (l : List Int) (k : Nat) : YN l k = (List.range (YN l k).length).map fun d => (YN l k).getD d 0 := by
 rw [rel_len]
 exact map_ext fun d hd => by rw [YN, oF hd]
theorem GU (ha : a < 512) (hb : b < 512) : bits .andNot .i64 (a : Int) (b : Int) = 0 ↔ ∀ j, a.testBit j = true → b.testBit j = true := by
 have e1 : ∀ n : Nat, BitVec.ofInt 64 (n : Int) = BitVec.ofNat 64 n := fun n => BitVec.ofInt_natCast _ _
 have e2 : bits .andNot .i64 (a : Int) (b : Int) = IntKind.wrap .i64 (((BitVec.ofNat 64 a &&& ~~~ BitVec.ofNat 64 b).toNat : Nat) : Int) := by
  show IntKind.wrap .i64 (((BitVec.ofInt 64 (a : Int) &&& ~~~ BitVec.ofInt 64 (b : Int)).toNat : Nat) : Int) = _
  rw [e1, e1]
 have hn : (BitVec.ofNat 64 a &&& ~~~ BitVec.ofNat 64 b).toNat ≤ a := by
  rw [BitVec.toNat_and]
  refine Nat.le_trans Nat.and_le_left ?_
  rw [BitVec.toNat_ofNat]
  exact Nat.mod_le _ _
 have ht : ∀ j, (BitVec.ofNat 64 a &&& ~~~ BitVec.ofNat 64 b).toNat.testBit j = (a.testBit j && !b.testBit j) := fun j => by
  rw [BitVec.testBit_toNat, BitVec.getLsbD_and, BitVec.getLsbD_not, BitVec.getLsbD_ofNat, BitVec.getLsbD_ofNat]
  by_cases hj : j < 64
  ·simp [hj]
  ·rw [Nat.testBit_lt_two_pow (x := a) (Nat.lt_of_lt_of_le ha (Nat.le_trans (show 512 ≤ 2 ^ 9 from by decide) (Nat.pow_le_pow_right (by decide) (by omega))))]
   simp
 rw [e2, wrap64 (by omega) (by omega)]
 constructor
 ·intro h j hj
  have h0 : (BitVec.ofNat 64 a &&& ~~~ BitVec.ofNat 64 b).toNat = 0 := by omega
  have := ht j
  rw [h0, Nat.zero_testBit, hj] at this
  simpa using this.symm
 ·intro h
  have : (BitVec.ofNat 64 a &&& ~~~ BitVec.ofNat 64 b).toNat = 0 := by
   refine Nat.eq_of_testBit_eq fun j => ?_
   rw [ht, Nat.zero_testBit]
   cases hj : a.testBit j with
   | false => rfl
   | true => rw [h j hj]; rfl
  omega
theorem within_iff {x y : List Nat} (hx : ∀ v ∈ x, v < 512) (hy : ∀ v ∈ y, v < 512) : tY x y ↔ ∀ d, d < x.length → ∀ j, (x.getD d 0).testBit j = true → (y.getD d 0).testBit j = true :=
 ⟨fun h d hd => (GU (eM hx d) (eM hy d)).1 (h d hd), fun h d hd => (GU (eM hx d) (eM hy d)).2 (h d hd)⟩
def Rl (k : Nat) (r : List Nat) : Prop := r.length = k + 1 ∧ ∀ x ∈ r, x < 2 ^ (k + 1)
variable {k : Nat} {r : List Nat}
theorem Rl.lt (hk : k ≤ 8) (h : Rl k r) : ∀ x ∈ r, x < 512 := fun x hx => Nat.lt_of_lt_of_le (h.2 x hx) (pow_le hk).2
variable {n : Nat}
theorem rR (hr : ∀ x ∈ r, x < 2 ^ n) (i : Nat) : r.getD i 0 < 2 ^ n := by
 rw [List.getD_eq_getElem?_getD]
 cases h : r[i]? with
 | none => simp; exact Nat.two_pow_pos n
 | some x => exact hr x (List.mem_of_getElem? h)
def bt (r : List Nat) (d e : Nat) : Bool := (r.getD d 0).testBit e
variable {d e : Nat}
theorem GV (h : Rl k r) (hb : bt r d e = true) : d ≤ k ∧ e ≤ k := by
 unfold bt at hb
 refine ⟨?_, ?_⟩
 ·by_cases hd : d < r.length
  ·have := h.1; omega
  ·rw [List.getD_eq_getElem?_getD, List.getElem?_eq_none (by omega)] at hb
   simp at hb
 ·have := AA (rR h.2 d) hb
  omega
def Sub (a b : List Nat) : Prop := ∀ d e, bt a d e = true → bt b d e = true
theorem Sub.refl (a : List Nat) : Sub a a := fun _ _ h => h
variable {a b : List Nat}
theorem Sub.trans {c : List Nat} (h1 : Sub a b) (h2 : Sub b c) : Sub a c := fun d e h => h2 d e (h1 d e h)
theorem GW (ha : Rl k a) (hb : Rl k b) (h : ∀ d e, bt a d e = true ↔ bt b d e = true) : a = b := by
 refine List.ext_getElem (by rw [ha.1, hb.1]) fun d k1 k2 => ?_
 have := GO (a := a.getD d 0) (b := b.getD d 0) fun j => h d j
 simpa [List.getD, k1, k2] using this
theorem Sub.XF (ha : Rl k a) (hb : Rl k b) (h1 : Sub a b) (h2 : Sub b a) : a = b := GW ha hb fun d e => ⟨h1 d e, h2 d e⟩
theorem GX (hk : k ≤ 8) (ha : Rl k a) (hb : Rl k b) : tY a b ↔ Sub a b := by
 rw [within_iff (ha.lt hk) (hb.lt hk)]
 exact ⟨fun h d e hd => h d (by have := (GV ha hd).1; have := ha.1; omega) e hd, fun h d _ e he => h d e he⟩
theorem rS (ha : Rl k a) (hb : Rl k b) : bt (cD a b) d e = true ↔ bt a d e = true ∨ bt b d e = true := by
 by_cases hd : d < a.length
 ·unfold bt
  rw [GQ hd, Nat.testBit_or, Bool.or_eq_true]
 ·have h1 := ha.1
  have h2 := hb.1
  unfold bt
  simp only [List.getD_eq_getElem?_getD]
  rw [List.getElem?_eq_none (l := cD a b) (by rw [oG]; omega), List.getElem?_eq_none (l := a) (by omega), List.getElem?_eq_none (l := b) (by omega)]
  simp
theorem iQ (ha : Rl k a) (hb : Rl k b) : bt (o4 a b) d e = true ↔ ∃ f, bt a d f = true ∧ bt b f e = true := by
 by_cases hd : d < a.length
 ·unfold bt
  rw [J8 hd, Z9]
  constructor
  ·rintro ⟨f, _, h1, h2⟩; exact ⟨f, h1, h2⟩
  ·rintro ⟨f, h1, h2⟩; exact ⟨f, by have := (GV hb h2).1; have := hb.1; omega, h1, h2⟩
 ·have h0 : bt (o4 a b) d e = false := by
   unfold bt
   rw [List.getD_eq_getElem?_getD, List.getElem?_eq_none (by rw [uA]; omega)]
   simp
  rw [h0]
  constructor
  ·intro h; cases h
  ·rintro ⟨f, h1, _⟩; have := (GV ha h1).1; have := ha.1; omega
theorem oH (ha : Rl k a) (hb : Rl k b) : Rl k (cD a b) := by
 refine ⟨by rw [oG]; exact ha.1, fun x hx => ?_⟩
 obtain ⟨d, _, rfl⟩ := List.mem_map.1 hx
 exact Nat.or_lt_two_pow (rR ha.2 d) (rR hb.2 d)
theorem uB {r : List Nat} {n : Nat} (hr : ∀ x ∈ r, x < 2 ^ n) (s : Nat) : ∀ i, bO r s i < 2 ^ n
 | 0 => by simp [bO]; exact Nat.two_pow_pos n
 | i + 1 => by
  unfold bO
  split
  ·exact Nat.or_lt_two_pow (uB hr s i) (rR hr i)
  ·exact uB hr s i
theorem AB (ha : Rl k a) (hb : Rl k b) : Rl k (o4 a b) := by
 refine ⟨by rw [uA]; exact ha.1, fun x hx => ?_⟩
 obtain ⟨d, _, rfl⟩ := List.mem_map.1 hx
 exact uB hb.2 _ _
theorem yK : bt (List.replicate n 0) d e = false := by
 unfold bt
 rw [List.getD_eq_getElem?_getD, List.getElem?_replicate]
 split <;> simp
theorem J9 (k : Nat) : Rl k (List.replicate (k + 1) 0) := ⟨by simp, fun x hx => by rw [List.eq_of_mem_replicate hx]; exact Nat.two_pow_pos _⟩
theorem rl_dh (k : Nat) (n : Int) : Rl k (dhN k n) := by
 refine ⟨by simp [dhN], fun x hx => ?_⟩
 obtain ⟨d, _, rfl⟩ := List.mem_map.1 hx
 unfold dhV
 split
 ·exact Nat.pow_lt_pow_right (by decide) (by omega)
 ·exact Nat.two_pow_pos _
theorem XG {n : Int} : bt (dhN k n) d e = true ↔ d ≤ k ∧ e ≤ k ∧ (d : Int) + n = e := by
 unfold bt
 by_cases hd : d < k + 1
 ·rw [dhN, oF hd, dhV]
  split
  ·rw [Nat.testBit_two_pow]
   simp only [decide_eq_true_eq]
   omega
  ·simp only [Nat.zero_testBit, Bool.false_eq_true, false_iff]
   omega
 ·rw [List.getD_eq_getElem?_getD, List.getElem?_eq_none (by simp [dhN]; omega)]
  simp
  omega
noncomputable def oI (p : Nat → Prop) : Nat → Nat
 | 0 => 0
 | j + 1 => @ite _ (p j) (Classical.propDecidable _) (oI p j ||| 2 ^ j) (oI p j)
theorem vU {p : Nat → Prop} {j : Nat} : ∀ {n : Nat}, (oI p n).testBit j = true ↔ j < n ∧ p j
 | 0 => by simp [oI]
 | n + 1 => by
  have ih := vU (p := p) (j := j) (n := n)
  rw [oI]
  split
  ·rename_i h
   rw [Nat.testBit_or, Bool.or_eq_true, ih, Nat.testBit_two_pow]
   simp only [decide_eq_true_eq]
   constructor
   ·rintro (⟨h1, h2⟩ | rfl)
    ·exact ⟨by omega, h2⟩
    ·exact ⟨by omega, h⟩
   ·rintro ⟨h1, h2⟩
    by_cases e : n = j
    ·exact .inr e
    ·exact .inl ⟨by omega, h2⟩
  ·rename_i h
   rw [ih]
   constructor
   ·rintro ⟨h1, h2⟩; exact ⟨by omega, h2⟩
   ·rintro ⟨h1, h2⟩
    refine ⟨?_, h2⟩
    by_cases e : j = n
    ·subst e; exact absurd h2 h
    ·omega
theorem D7 {p : Nat → Prop} : ∀ n : Nat, oI p n < 2 ^ n
 | 0 => by simp [oI]
 | n + 1 => by
  have ih := D7 (p := p) n
  have h2 : 2 ^ n < 2 ^ (n + 1) := Nat.pow_lt_pow_right (by decide) (by omega)
  rw [oI]
  split
  ·exact Nat.or_lt_two_pow (by omega) h2
  ·omega
noncomputable def uC (k : Nat) (p : Nat → Nat → Prop) : List Nat := (List.range (k + 1)).map fun d => oI (p d) (k + 1)
theorem oJ (k : Nat) (p : Nat → Nat → Prop) : Rl k (uC k p) := by
 refine ⟨by simp [uC], fun x hx => ?_⟩
 obtain ⟨d, _, rfl⟩ := List.mem_map.1 hx
 exact D7 _
theorem rT {p : Nat → Nat → Prop} : bt (uC k p) d e = true ↔ d ≤ k ∧ e ≤ k ∧ p d e := by
 unfold bt
 by_cases hd : d < k + 1
 ·rw [uC, oF hd, vU]
  constructor
  ·rintro ⟨h1, h2⟩; exact ⟨by omega, by omega, h2⟩
  ·rintro ⟨_, h1, h2⟩; exact ⟨by omega, h2⟩
 ·rw [List.getD_eq_getElem?_getD, List.getElem?_eq_none (by simp [uC]; omega)]
  simp
  omega
def Tb (k n : Nat) (T : List (List Nat)) : Prop := T.length = n ∧ ∀ r ∈ T, Rl k r
variable {T : List (List Nat)} {i : Nat}
theorem Tb.get (h : Tb k n T) (hi : i < n) : Rl k (T.getD i []) := by
 rw [List.getD_eq_getElem?_getD, List.getElem?_eq_getElem (by rw [h.1]; exact hi)]
 exact h.2 _ (List.getElem_mem _)
theorem Tb.set (h : Tb k n T) (hr : Rl k r) : Tb k n (T.set i r) := by
 refine ⟨by rw [List.length_set]; exact h.1, fun x hx => ?_⟩
 rcases List.mem_or_eq_of_mem_set hx with hx | rfl
 ·exact h.2 x hx
 ·exact hr
theorem dI {j : Nat} (hi : i < T.length) : (T.set i r).getD j [] = if j = i then r else T.getD j [] := by
 simp only [List.getD_eq_getElem?_getD]
 by_cases h : j = i
 ·subst h; simp [hi]
 ·rw [List.getElem?_set_ne (Ne.symm h), if_neg h]
def pO (A B : List (List Nat)) : Prop := ∀ i, Sub (A.getD i []) (B.getD i [])
theorem pO.XF {A B : List (List Nat)} (ha : Tb k n A) (hb : Tb k n B) (h1 : pO A B) (h2 : pO B A) : A = B := by
 refine List.ext_getElem (by rw [ha.1, hb.1]) fun d k1 k2 => ?_
 have e1 := h1 d
 have e2 := h2 d
 have := Sub.XF (ha.get (i := d) (by rw [← ha.1]; exact k1)) (hb.get (i := d) (by rw [← hb.1]; exact k2)) e1 e2
 simpa [List.getD, k1, k2] using this
theorem sub_nil (b : List Nat) : Sub [] b := fun d e h => by simp [bt] at h
theorem uD {A B : List (List Nat)} (ha : Tb k n A) (h : ∀ i, i < n → Sub (A.getD i []) (B.getD i [])) : pO A B := fun i => by
 by_cases hi : i < n
 ·exact h i hi
 ·rw [List.getD_eq_getElem?_getD, List.getElem?_eq_none (by rw [ha.1]; omega)]
  exact sub_nil _
def tot (T : List (List Nat)) : Nat := (T.map List.sum).sum
theorem pP {c : Nat} : ∀ {l : List Nat}, (∀ x ∈ l, x ≤ c) → l.sum ≤ c * l.length
 | [], _ => by simp
 | x :: l, h => by
  have h1 := h x (by simp)
  have h2 := pP (l := l) fun y hy => h y (by simp [hy])
  simp only [List.sum_cons, List.length_cons, Nat.mul_succ]
  omega
theorem rl_sum (hk : k ≤ 8) (h : Rl k r) : r.sum ≤ 512 * 9 := by
 refine Nat.le_trans (pP (c := 512) fun x hx => Nat.le_of_lt (h.lt hk x hx)) ?_
 rw [h.1]
 exact Nat.mul_le_mul_left _ (by omega)
theorem D8 (hk : k ≤ 8) (h : Tb k n T) : tot T ≤ 4608 * n := by
 unfold tot
 refine Nat.le_trans (pP (c := 4608) fun x hx => ?_) ?_
 ·obtain ⟨r, hr, rfl⟩ := List.mem_map.1 hx
  exact rl_sum hk (h.2 r hr)
 ·rw [List.length_map, h.1]; exact Nat.le_refl _
theorem uE : ∀ {l : List Nat} {i x : Nat}, i < l.length → (l.set i x).sum + l.getD i 0 = l.sum + x
 | y :: l, 0, x, _ => by simp [List.getD]; omega
 | y :: l, i + 1, x, h => by
  have := uE (l := l) (i := i) (x := x) t172
  simp only [List.set_cons_succ, List.sum_cons, List.getD_cons_succ]
  omega
theorem uF : (T.map List.sum).getD i 0 = (T.getD i []).sum := by
 simp only [List.getD_eq_getElem?_getD, List.getElem?_map]
 cases T[i]? <;> simp
theorem tot_set (hi : i < T.length) : tot (T.set i r) + (T.getD i []).sum = tot T + r.sum := by
 unfold tot
 rw [List.map_set, ← uF]
 exact uE (by simpa using hi)
theorem yL : ∀ {a b : List Nat}, a.length = b.length → (∀ d, a.getD d 0 ≤ b.getD d 0) → a.sum ≤ b.sum ∧ (a ≠ b → a.sum < b.sum)
 | [], [], _, _ => by simp
 | x :: a, y :: b, hl, h => by
  have h0 : x ≤ y := h 0
  obtain ⟨i1, i2⟩ := yL (a := a) (b := b) t155 fun d => h (d + 1)
  simp only [List.sum_cons]
  refine ⟨by omega, fun hne => ?_⟩
  by_cases e : x = y
  ·have := i2 fun e2 => hne (by rw [e, e2])
   omega
  ·omega
 | [], _ :: _, hl, _ => by simp at hl
 | _ :: _, [], hl, _ => by simp at hl
theorem AD {a b : Nat} (h : ∀ j, a.testBit j = true → b.testBit j = true) : a ≤ b := by
 have : a ||| b = b := GO fun j => by
  rw [Nat.testBit_or, Bool.or_eq_true]
  exact ⟨fun h1 => h1.elim (h j) id, .inr⟩
 rw [← this]
 exact Nat.left_le_or
theorem K0 (ha : Rl k a) (hb : Rl k b) (h : Sub a b) : a.sum ≤ b.sum ∧ (a ≠ b → a.sum < b.sum) :=
 yL (by rw [ha.1, hb.1]) fun d => AD fun j => h d j
theorem yM (hT : Tb k n T) (hi : i < n) (hr : Rl k r) (hs : Sub (T.getD i []) r) (hne : T.getD i [] ≠ r) : tot T < tot (T.set i r) := by
 have h1 := tot_set (T := T) (i := i) (r := r) (by rw [hT.1]; exact hi)
 have h2 := (K0 (hT.get hi) hr hs).2 hne
 omega
inductive Way (k : Nat) (nx : Nat → List Int) (st : Nat → List Nat) : Nat → Nat → Nat → Prop
 | start {d : Nat} : d ≤ k → Way k nx st 0 d d
 | step {pc d e f : Nat} {q : Int} : Way k nx st pc d e → bt (st pc) e f = true → q ∈ nx pc → Way k nx st q.toNat d f
def OB (nx : Nat → List Int) (st : Nat → List Nat) (T : List (List Nat)) (pc : Nat) : Prop := ∀ q ∈ nx pc, Sub (o4 (T.getD pc []) (st pc)) (T.getD q.toNat [])
structure ClT (k n : Nat) (nx : Nat → List Int) (st : Nat → List Nat) (T : List (List Nat)) : Prop where
 tb : Tb k n T
 id : Sub (dhN k 0) (T.getD 0 [])
 at' : ∀ pc, pc < n → OB nx st T pc
noncomputable def dE (k n : Nat) (nx : Nat → List Int) (st : Nat → List Nat) : List (List Nat) := (List.range n).map fun pc => uC k (Way k nx st pc)
structure Pro (k n : Nat) (nx : Nat → List Int) (st : Nat → List Nat) : Prop where
 pos : 0 < n
 nx : ∀ pc, pc < n → ∀ q ∈ nx pc, 0 ≤ q ∧ q < n
 st : ∀ pc, pc < n → Rl k (st pc)
variable {nx : Nat → List Int} {st : Nat → List Nat} {pc : Nat}
theorem Way.lt (p : Pro k n nx st) (w : Way k nx st pc d e) : pc < n ∧ d ≤ k ∧ e ≤ k := by
 induction w with
 | start h => exact ⟨p.pos, h, h⟩
 | step w hb hq ih =>
  have h1 := p.nx _ ih.1 _ hq
  exact ⟨by omega, ih.2.1, (GV (p.st _ ih.1) hb).2⟩
theorem GY (hp : pc < n) : (dE k n nx st).getD pc [] = uC k (Way k nx st pc) := by
 simp [dE, List.getD, hp]
theorem oK (k n : Nat) (nx : Nat → List Int) (st : Nat → List Nat) : Tb k n (dE k n nx st) := by
 refine ⟨by simp [dE], fun r hr => ?_⟩
 obtain ⟨pc, _, rfl⟩ := List.mem_map.1 hr
 exact oJ _ _
theorem lW (p : Pro k n nx st) (hp : pc < n) : bt ((dE k n nx st).getD pc []) d e = true ↔ Way k nx st pc d e := by
 rw [GY hp, rT]
 exact ⟨fun h => h.2.2, fun h => ⟨(h.lt p).2.1, (h.lt p).2.2, h⟩⟩
theorem S7 (p : Pro k n nx st) : ClT k n nx st (dE k n nx st) := by
 have tb := oK k n nx st
 refine ⟨tb, fun d e h => ?_, fun pc hp q hq d e h => ?_⟩
 ·obtain ⟨h1, h2, h3⟩ := XG.1 h
  have : d = e := by omega
  subst this
  exact (lW p p.pos).2 (.start h1)
 ·obtain ⟨f, h1, h2⟩ := (iQ (tb.get hp) (p.st pc hp)).1 h
  have h3 := p.nx pc hp q hq
  exact (lW p (by omega)).2 (.step ((lW p hp).1 h1) h2 hq)
theorem ClT.way (p : Pro k n nx st) (c : ClT k n nx st T) (w : Way k nx st pc d e) : bt (T.getD pc []) d e = true := by
 induction w with
 | start h => exact c.id _ _ (XG.2 ⟨h, h, by omega⟩)
 | step w hb hq ih =>
  have h1 := (w.lt p).1
  exact c.at' _ h1 _ hq _ _ ((iQ (c.tb.get h1) (p.st _ h1)).2 ⟨_, ih, hb⟩)
theorem ClT.least (p : Pro k n nx st) (c : ClT k n nx st T) : pO (dE k n nx st) T :=
 uD (oK k n nx st) fun i hi d e h => c.way p ((lW p hi).1 h)
theorem ClT.eq (p : Pro k n nx st) (c : ClT k n nx st T) (h : pO T (dE k n nx st)) : T = dE k n nx st :=
 pO.XF c.tb (oK k n nx st) h (c.least p)
theorem Way.mono {st' : Nat → List Nat} (h : ∀ pc, Sub (st pc) (st' pc)) (w : Way k nx st pc d e) : Way k nx st' pc d e := by
 induction w with
 | start h => exact .start h
 | step w hb hq ih => exact .step ih (h _ _ _ hb) hq
theorem OC {k n : Nat} {A B : List (List Nat)} (ha : Tb k n A) (hb : Tb k n B) (h : pO A B) : tot A ≤ tot B ∧ (A ≠ B → tot A < tot B) := by
 have e : ∀ T : List (List Nat), ∀ d, (T.map List.sum).getD d 0 = (T.getD d []).sum := fun T d => uF
 have h1 : ∀ d, (A.map List.sum).getD d 0 ≤ (B.map List.sum).getD d 0 := fun d => by
  rw [e, e]
  by_cases hd : d < n
  ·exact (K0 (ha.get hd) (hb.get hd) (h d)).1
  ·rw [List.getD_eq_getElem?_getD, List.getElem?_eq_none (by rw [ha.1]; omega)]
   simp
 obtain ⟨h2, h3⟩ := yL (a := A.map List.sum) (b := B.map List.sum) (by simp [ha.1, hb.1]) h1
 refine ⟨h2, fun hne => h3 fun he => hne ?_⟩
 refine pO.XF ha hb h (uD hb fun i hi => ?_)
 have h4 := congrArg (fun l => l.getD i 0) he
 simp only [e] at h4
 by_cases h5 : A.getD i [] = B.getD i []
 ·rw [h5]; exact Sub.refl _
 ·have := (K0 (ha.get hi) (hb.get hi) (h i)).2 h5
  omega
section
variable (u : Un) (c : Clo) (m : Nat)
def kM : Nat := tS (u.c4.getD m v9)
def itI (i : Nat) : u4 := c.insts.getD i l4
def mG (i pc : Nat) : Ins := (c8 u (itI c i)).getD pc g6
def gI (i : Nat) : Nat := (c8 u (itI c i)).length
def GZ (i pc : Nat) : Nat := ((c.calls.getD i []).getD pc 0).toNat
def nxI (i pc : Nat) : List Int := u0 (mG u c i pc) pc
def stS (S : List (List Nat)) (i pc : Nat) : List Nat := if (mG u c i pc).op = 2 then S.getD (GZ c i pc) [] else dhN (kM u m) (chI (itI c i) (mG u c i pc) m)
noncomputable def D9 (S : List (List Nat)) (i : Nat) : List (List Nat) := dE (kM u m) (gI u c i) (nxI u c i) (stS u c m S i)
noncomputable def S8 (i : Nat) (T : List (List Nat)) (j : Nat) : List Nat := uC (kM u m) fun d e => ∃ pc, pc < j ∧ (mG u c i pc).op = 8 ∧ bt (T.getD pc []) d e = true
noncomputable def exT (S : List (List Nat)) (i : Nat) : List Nat := S8 u c m i (D9 u c m S i) (gI u c i)
noncomputable def uG (S : List (List Nat)) : List (List Nat) := (List.range c.insts.length).map fun i => exT u c m S i
def pQ : List (List Nat) := List.replicate c.insts.length (List.replicate (kM u m + 1) 0)
noncomputable def yN : Nat → List (List Nat)
 | 0 => pQ u c m
 | n + 1 => uG u c m (yN n)
inductive Inn : Nat → Nat → Nat → Nat → Prop
 | start {i d : Nat} : d ≤ kM u m → Inn i 0 d d
 | step {i pc d e f : Nat} {q : Int} : Inn i pc d e → (mG u c i pc).op ≠ 2 → bt (dhN (kM u m) (chI (itI c i) (mG u c i pc) m)) e f = true → q ∈ nxI u c i pc → Inn i q.toNat d f
 | call {i pc d e f p : Nat} {q : Int} : Inn i pc d e → (mG u c i pc).op = 2 → Inn (GZ c i pc) p e f → (mG u c (GZ c i pc) p).op = 8 → q ∈ nxI u c i pc → Inn i q.toNat d f
noncomputable def qO : List (List Nat) := (List.range c.insts.length).map fun i => uC (kM u m) fun d e => ∃ pc, pc < gI u c i ∧ (mG u c i pc).op = 8 ∧ Inn u c m i pc d e
end
section
variable {u : Un} {c : Clo} {m : Nat}
theorem mD : kM u m ≤ 8 := yJ
variable {i : Nat}
theorem gZ (wc : WC u c) (hi : i < c.insts.length) : WIt u (itI c i) := wc.wi _ (l3 hi)
variable {pc : Nat}
theorem rU (hu : WU u) (wc : WC u c) (hi : i < c.insts.length) (hp : pc < gI u c i) (ho : (mG u c i pc).op = 2) : GZ c i pc < c.insts.length := by
 have h1 := ((wc.call i hi pc hp).1 (.inl ho))
 unfold GZ
 omega
variable {S : List (List Nat)}
theorem XJ (hu : WU u) (wc : WC u c) (hS : Tb (kM u m) c.insts.length S) (hi : i < c.insts.length) : Pro (kM u m) (gI u c i) (nxI u c i) (stS u c m S i) := by
 have w := gZ wc hi
 refine ⟨(kT hu w).1, fun pc hp q hq => ?_, fun pc hp => ?_⟩
 ·obtain ⟨d, hd, rfl⟩ := List.getElem_of_mem hq
  have h := next_in hu w hp d hd
  have e : (u0 ((c8 u (itI c i)).getD pc g6) pc).getD d 0 = (nxI u c i pc)[d] := by
   show (nxI u c i pc).getD d 0 = _
   simp [List.getD, hd]
  rw [← e]
  exact h
 ·unfold stS
  split
  ·rename_i ho
   exact hS.get (rU hu wc hi hp ho)
  ·exact rl_dh _ _
theorem yO (S : List (List Nat)) (i : Nat) : Tb (kM u m) (gI u c i) (D9 u c m S i) := oK _ _ _ _
variable {T : List (List Nat)} {j d e : Nat}
theorem K1 (hT : Tb (kM u m) (gI u c i) T) (hj : j ≤ gI u c i) : bt (S8 u c m i T j) d e = true ↔ ∃ pc, pc < j ∧ (mG u c i pc).op = 8 ∧ bt (T.getD pc []) d e = true := by
 rw [S8, rT]
 refine ⟨fun h => h.2.2, fun h => ?_⟩
 obtain ⟨pc, h1, h2, h3⟩ := h
 have := GV (hT.get (i := pc) (by omega)) h3
 exact ⟨this.1, this.2, pc, h1, h2, h3⟩
theorem pR (i : Nat) (T : List (List Nat)) (j : Nat) : Rl (kM u m) (S8 u c m i T j) := oJ _ _
theorem HA (i : Nat) (T : List (List Nat)) : S8 u c m i T 0 = List.replicate (kM u m + 1) 0 :=
 GW (oJ _ _) (J9 _) fun d e => by
  rw [yK, S8, rT]
  constructor
  ·rintro ⟨_, _, pc, h, _⟩; omega
  ·intro h; cases h
theorem OD (hT : Tb (kM u m) (gI u c i) T) (hj : j < gI u c i) (ho : (mG u c i j).op = 8) : S8 u c m i T (j + 1) = cD (S8 u c m i T j) (T.getD j []) :=
 GW (pR i T (j + 1)) (oH (pR i T j) (hT.get hj)) fun d e => by
  rw [rS (pR i T j) (hT.get hj), K1 hT hj, K1 hT (Nat.le_of_lt hj)]
  constructor
  ·rintro ⟨pc, h1, h2, h3⟩
   by_cases e : pc = j
   ·subst e; exact .inr h3
   ·exact .inl ⟨pc, by omega, h2, h3⟩
  ·rintro (⟨pc, h1, h2, h3⟩ | h)
   ·exact ⟨pc, by omega, h2, h3⟩
   ·exact ⟨j, by omega, ho, h⟩
theorem exOf_no (ho : ¬ (mG u c i j).op = 8) : S8 u c m i T (j + 1) = S8 u c m i T j := by
 unfold S8
 refine congrArg (uC _) (funext fun d => funext fun e => propext ?_)
 constructor
 ·rintro ⟨pc, h1, h2, h3⟩
  refine ⟨pc, ?_, h2, h3⟩
  by_cases e : pc = j
  ·subst e; exact absurd h2 ho
  ·omega
 ·rintro ⟨pc, h1, h2, h3⟩; exact ⟨pc, by omega, h2, h3⟩
theorem E0 (S : List (List Nat)) (i : Nat) : Rl (kM u m) (exT u c m S i) := oJ _ _
theorem uH (hu : WU u) (wc : WC u c) (hS : Tb (kM u m) c.insts.length S) (hi : i < c.insts.length) : bt (exT u c m S i) d e = true ↔ ∃ pc, pc < gI u c i ∧ (mG u c i pc).op = 8 ∧ Way (kM u m) (nxI u c i) (stS u c m S i) pc d e := by
 rw [exT, K1 (yO S i) (Nat.le_refl _)]
 constructor
 ·rintro ⟨pc, h1, h2, h3⟩; exact ⟨pc, h1, h2, (lW (XJ hu wc hS hi) h1).1 h3⟩
 ·rintro ⟨pc, h1, h2, h3⟩; exact ⟨pc, h1, h2, (lW (XJ hu wc hS hi) h1).2 h3⟩
theorem OE {S' : List (List Nat)} (h : pO S S') (i pc : Nat) : Sub (stS u c m S i pc) (stS u c m S' i pc) := by
 unfold stS
 split
 ·exact h _
 ·exact Sub.refl _
theorem yP (hu : WU u) (wc : WC u c) {S' : List (List Nat)} (hS : Tb (kM u m) c.insts.length S) (hS' : Tb (kM u m) c.insts.length S') (h : pO S S') (hi : i < c.insts.length) : Sub (exT u c m S i) (exT u c m S' i) := fun d e hb => by
 obtain ⟨pc, h1, h2, h3⟩ := (uH hu wc hS hi).1 hb
 exact (uH hu wc hS' hi).2 ⟨pc, h1, h2, h3.mono fun pc => OE h i pc⟩
theorem fC (S : List (List Nat)) : Tb (kM u m) c.insts.length (uG u c m S) := by
 refine ⟨by simp [uG], fun r hr => ?_⟩
 obtain ⟨i, _, rfl⟩ := List.mem_map.1 hr
 exact E0 S i
theorem oL (hi : i < c.insts.length) : (uG u c m S).getD i [] = exT u c m S i := by simp [uG, List.getD, hi]
theorem S9 : Tb (kM u m) c.insts.length (pQ u c m) := ⟨by simp [pQ], fun r hr => by rw [List.eq_of_mem_replicate hr]; exact J9 _⟩
theorem zero_sub {b : List Nat} : Sub ((pQ u c m).getD i []) b := fun d e h => by
 have : bt ((pQ u c m).getD i []) d e = false := by
  unfold pQ
  rw [List.getD_eq_getElem?_getD, List.getElem?_replicate]
  split
  ·exact yK
  ·simp [bt]
 rw [this] at h; cases h
theorem HB : pO (pQ u c m) S := fun i => zero_sub
theorem oM : ∀ n, Tb (kM u m) c.insts.length (yN u c m n)
 | 0 => S9
 | n + 1 => fC _
theorem fE : Tb (kM u m) c.insts.length (qO u c m) := by
 refine ⟨by simp [qO], fun r hr => ?_⟩
 obtain ⟨i, _, rfl⟩ := List.mem_map.1 hr
 exact oJ _ _
theorem OF (hi : i < c.insts.length) : (qO u c m).getD i [] = uC (kM u m) fun d e => ∃ pc, pc < gI u c i ∧ (mG u c i pc).op = 8 ∧ Inn u c m i pc d e := by simp [qO, List.getD, hi]
theorem Inn.lt (hu : WU u) (wc : WC u c) (h : Inn u c m i pc d e) : i < c.insts.length → pc < gI u c i ∧ d ≤ kM u m ∧ e ≤ kM u m := by
 induction h with
 | start h => exact fun hi => ⟨(kT hu (gZ wc hi)).1, h, h⟩
 | step h ho hb hq ih =>
  intro hi
  have h1 := ih hi
  have p := XJ hu wc (S := qO u c m) fE hi
  have h2 := p.nx _ h1.1 _ hq
  exact ⟨by omega, h1.2.1, (XG.1 hb).2.1⟩
 | call h ho h2 ho2 hq ih ih2 =>
  intro hi
  have h1 := ih hi
  have p := XJ hu wc (S := qO u c m) fE hi
  have h3 := p.nx _ h1.1 _ hq
  exact ⟨by omega, h1.2.1, (ih2 (rU hu wc hi h1.1 ho)).2.2⟩
theorem uI (hu : WU u) (wc : WC u c) (hi : i < c.insts.length) : bt ((qO u c m).getD i []) d e = true ↔ ∃ pc, pc < gI u c i ∧ (mG u c i pc).op = 8 ∧ Inn u c m i pc d e := by
 rw [OF hi, rT]
 refine ⟨fun h => h.2.2, fun ⟨pc, h1, h2, h3⟩ => ?_⟩
 have := h3.lt hu wc hi
 exact ⟨this.2.1, this.2.2, pc, h1, h2, h3⟩
theorem HC (hu : WU u) (wc : WC u c) (hi : i < c.insts.length) (w : Way (kM u m) (nxI u c i) (stS u c m (qO u c m) i) pc d e) : Inn u c m i pc d e := by
 induction w with
 | start h => exact .start h
 | step w hb hq ih =>
  have h1 := (ih.lt hu wc hi).1
  unfold stS at hb
  split at hb
  ·rename_i ho
   obtain ⟨p, h2, h3, h4⟩ := (uI hu wc (rU hu wc hi h1 ho)).1 hb
   exact .call ih ho h4 h3 hq
  ·rename_i ho
   exact .step ih ho hb hq
theorem HD (hu : WU u) (wc : WC u c) (hS : Tb (kM u m) c.insts.length S) (hc : ∀ i, i < c.insts.length → Sub (exT u c m S i) (S.getD i [])) (h : Inn u c m i pc d e) : i < c.insts.length → Way (kM u m) (nxI u c i) (stS u c m S i) pc d e := by
 induction h with
 | start h => exact fun _ => .start h
 | step h ho hb hq ih =>
  intro hi
  exact .step (ih hi) (by unfold stS; rw [if_neg ho]; exact hb) hq
 | call h ho h2 ho2 hq ih ih2 =>
  intro hi
  have h1 := (h.lt hu wc hi).1
  have hj := rU hu wc hi h1 ho
  exact .step (ih hi) (by unfold stS; rw [if_pos ho]; exact hc _ hj _ _ ((uH hu wc hS hj).2 ⟨_, (h2.lt hu wc hj).1, ho2, ih2 hj⟩)) hq
theorem sum_fix (hu : WU u) (wc : WC u c) (hi : i < c.insts.length) : exT u c m (qO u c m) i = (qO u c m).getD i [] := by
 have h1 : Sub (exT u c m (qO u c m) i) ((qO u c m).getD i []) := fun d e hb => by
  obtain ⟨pc, h1, h2, h3⟩ := (uH hu wc fE hi).1 hb
  exact (uI hu wc hi).2 ⟨pc, h1, h2, HC hu wc hi h3⟩
 refine Sub.XF (E0 _ _) (fE.get hi) h1 fun d e hb => ?_
 obtain ⟨pc, h2, h3, h4⟩ := (uI hu wc hi).1 hb
 refine (uH hu wc fE hi).2 ⟨pc, h2, h3, HD hu wc fE (fun j hj d e hb => ?_) h4 hi⟩
 obtain ⟨pc, h1, h2, h3⟩ := (uH hu wc fE hj).1 hb
 exact (uI hu wc hj).2 ⟨pc, h1, h2, HC hu wc hj h3⟩
theorem HE (hu : WU u) (wc : WC u c) (hS : Tb (kM u m) c.insts.length S) (hc : ∀ i, i < c.insts.length → Sub (exT u c m S i) (S.getD i [])) : pO (qO u c m) S :=
 uD fE fun i hi d e hb => by
  obtain ⟨pc, h2, h3, h4⟩ := (uI hu wc hi).1 hb
  exact hc i hi _ _ ((uH hu wc hS hi).2 ⟨pc, h2, h3, HD hu wc hS hc h4 hi⟩)
theorem RK (hu : WU u) (wc : WC u c) (hS : Tb (kM u m) c.insts.length S) (hs : pO S (qO u c m)) (hc : ∀ i, i < c.insts.length → exT u c m S i = S.getD i []) : S = qO u c m :=
 pO.XF hS fE hs (HE hu wc hS fun i hi => by rw [hc i hi]; exact Sub.refl _)
theorem uJ (hu : WU u) (wc : WC u c) (hS : Tb (kM u m) c.insts.length S) (hs : pO S (qO u c m)) (hi : i < c.insts.length) : Sub (exT u c m S i) ((qO u c m).getD i []) := by
 rw [← sum_fix hu wc hi]
 exact yP hu wc hS fE hs hi
theorem E1 (hu : WU u) (wc : WC u c) (hS : Tb (kM u m) c.insts.length S) (hs : pO S (qO u c m)) : pO (uG u c m S) (qO u c m) :=
 uD (fC S) fun i hi => by rw [oL hi]; exact uJ hu wc hS hs hi
structure Low (u : Un) (c : Clo) (m : Nat) (S : List (List Nat)) : Prop where
 tb : Tb (kM u m) c.insts.length S
 up : ∀ i, i < c.insts.length → Sub (S.getD i []) (exT u c m S i)
 le : pO S (qO u c m)
theorem Low.zero : Low u c m (pQ u c m) := ⟨S9, fun i _ => zero_sub, HB⟩
theorem Low.set (hu : WU u) (wc : WC u c) (h : Low u c m S) (hi : i < c.insts.length) : Low u c m (S.set i (exT u c m S i)) ∧ pO S (S.set i (exT u c m S i)) := by
 have tb' : Tb (kM u m) c.insts.length (S.set i (exT u c m S i)) := h.tb.set (E0 _ _)
 have hl : i < S.length := by rw [h.tb.1]; exact hi
 have hs : pO S (S.set i (exT u c m S i)) := fun j => by
  rw [dI hl]
  split
  ·rename_i e; subst e; exact h.up j hi
  ·exact Sub.refl _
 refine ⟨⟨tb', fun j hj => ?_, fun j => ?_⟩, hs⟩
 ·have := yP hu wc h.tb tb' hs hj
  rw [dI hl]
  split
  ·rename_i e; subst e; exact this
  ·exact (h.up j hj).trans this
 ·rw [dI hl]
  split
  ·rename_i e; subst e; exact uJ hu wc h.tb h.le hi
  ·exact h.le j
theorem Low.round (hu : WU u) (wc : WC u c) (h : Low u c m S) : Low u c m (uG u c m S) ∧ pO S (uG u c m S) := by
 have hs : pO S (uG u c m S) := uD h.tb fun i hi => by rw [oL hi]; exact h.up i hi
 exact ⟨⟨fC S, fun i hi => by rw [oL hi]; exact yP hu wc h.tb (fC S) hs hi, E1 hu wc h.tb h.le⟩, hs⟩
theorem Low.done (hu : WU u) (wc : WC u c) (h : Low u c m S) (he : uG u c m S = S) : S = qO u c m :=
 RK hu wc h.tb h.le fun i hi => by rw [← oL hi, he]
end
section
variable (u : Un) (c : Clo) (m : Nat)
end
section
variable {u : Un} {c : Clo} {m : Nat}
end
end Go.Un
end
section
namespace Go.Proofs.YtfbjlfhjkojmkaaGreat
open Go.Ab Go.Un
theorem HF (l : List Nat) : l.map q9 = g7 (l.map fun n : Nat => (n : Int)) := by simp [g7, q9, Function.comp_def]
theorem HG (l : List Nat) : bR l = .vec (l.map fun n : Nat => (n : Int)).length (g7 (l.map fun n : Nat => (n : Int))) := by simp [bR, HF]
variable {n len : Nat} {a : List Nat}
theorem T3 {β g : Nat} {H : c6} (hb : H[β]? = some ⟨g, false, 3, 1, a.map q9, 0⟩) (hn : n ≤ β) (hl : a.length = len) : gJ n H 6 (.own β g 0 len) = some (.vec len (a.map q9)) := by
  rw [HF] at hb ⊢
  exact D5 hb hn t155
def UpN (v : Nat → Nat) (i : Nat) (zs : List Nat) : Prop := (∀ d, d < i → zs.getD d 0 = v d) ∧ (∀ d, i ≤ d → zs.getD d 0 = 0)
theorem UpN.zero (v : Nat → Nat) (n : Nat) : UpN v 0 (List.replicate n 0) := by
  refine ⟨fun d hd => by omega, fun d _ => ?_⟩
  rw [List.getD_eq_getElem?_getD, List.getElem?_replicate]
  split <;> rfl
variable {v : Nat → Nat} {zs : List Nat} {i : Nat}
theorem UpN.set {x : Nat} (hi : i < zs.length) (h : UpN v i zs) (hx : x = v i) : UpN v (i + 1) (zs.set i x) := by
  refine ⟨fun d hd => ?_, fun d hd => ?_⟩
  · by_cases e : d = i
    · subst e; simp [List.getD, hi, hx]
    · have := h.1 d (by omega)
      simp only [List.getD_eq_getElem?_getD, List.getElem?_set_ne (Ne.symm e)] at this ⊢
      exact this
  · have := h.2 d (by omega)
    simp only [List.getD_eq_getElem?_getD, List.getElem?_set_ne (show i ≠ d from by omega)] at this ⊢
    exact this
theorem UpN.all2 (h : UpN v i zs) (hl : zs.length = n) (hi : ∀ d, i ≤ d → d < n → v d = 0) : zs = (List.range n).map v := by
  refine List.ext_getElem (by simp [hl]) fun d k1 k2 => ?_
  by_cases hd : d < i
  · have := h.1 d hd
    simp
    simpa [List.getD, k1] using this
  · have := h.2 d (by omega)
    have e := hi d (by omega) (by omega)
    simp [e]
    simpa [List.getD, k1] using this
theorem UpN.all (h : UpN v i zs) (hl : zs.length = n) (hi : n ≤ i) : zs = (List.range n).map v := h.all2 hl fun d h1 h2 => by omega
theorem T4 (k : Nat) (n : Int) : AV.vec (shI k n).length (g7 (shI k n)) = bR (dhN k n) := by
  have : shI k n = (dhN k n).map fun n : Nat => (n : Int) := by
    unfold shI dhN
    rw [List.map_map]
    refine List.map_congr_left fun d _ => ?_
    unfold shV dhV
    simp only [Function.comp_apply]
    split <;> simp
  rw [HG, this]
def s3 (T : List (List Nat)) : List AV := T.map bR
variable {T : List (List Nat)}
theorem z8 : (s3 T).length = T.length := List.length_map _
theorem K2 (h : i < T.length) : List.take 1 (List.drop i (s3 T)) = [bR (T.getD i [])] := by
  unfold s3
  rw [← List.map_drop, ← List.map_take, List.drop_eq_getElem_cons h, List.take_succ_cons, List.take_zero]
  simp [List.getD, h]
theorem overT {r : List Nat} (h : i < T.length) : List.take i (s3 T) ++ bR r :: List.drop (i + 1) (s3 T) = s3 (T.set i r) := by
  unfold s3
  rw [← List.map_drop, ← List.map_take, List.set_eq_take_append_cons_drop, if_pos h]
  simp
theorem ext_T {a b : List (List Nat)} (hl : a.length = b.length) (h : ∀ d, d < a.length → a.getD d [] = b.getD d []) : a = b := by
  refine List.ext_getElem hl fun d k1 k2 => ?_
  have := h d k1
  simpa [List.getD, k1, k2] using this
theorem ext_N {b : List Nat} (hl : a.length = b.length) (h : ∀ d, d < a.length → a.getD d 0 = b.getD d 0) : a = b := by
  refine List.ext_getElem hl fun d k1 k2 => ?_
  have := h d k1
  simpa [List.getD, k1, k2] using this
theorem plnN (l : List Nat) : w6 (l.map q9) := w6.map fun _ => .int
theorem OG (T : List (List Nat)) : w6 (s3 T) := w6.map fun _ => .vec
theorem HH {β g : Nat} {H : c6} {a : List (List Nat)} (hb : H[β]? = some ⟨g, false, 22, 1, s3 a, 0⟩) (hn : n ≤ β) (hl : a.length = len) : gJ n H 6 (.own β g 0 len) = some (.vec len (s3 a)) := by
  subst hl
  rw [dT, if_neg (by omega), fP, hb]
  simp only [hn, and_self, if_true, Bool.false_eq_true, if_false, Nat.zero_add, Nat.mul_one, z8, Nat.le_refl, List.drop_zero]
  rw [List.take_of_length_le (by rw [z8]; exact Nat.le_refl _), (OG a).frz]
theorem OH {b : List Nat} : (a.map (fun n : Nat => (n : Int)) = b.map (fun n : Nat => (n : Int))) ↔ a = b := List.map_inj_right (fun x y h => by exact_mod_cast h)
variable {h : c6}
theorem K3 (a b : List Nat) (hl : a.length < 1000000) : CB 20 [bR a, bR b] h (.bool (decide (a = b))) := by
  rw [HG, HG]
  refine (QX _ _ t155).mono fun r h' ⟨h1, h2⟩ => ⟨h1.trans ?_, h2⟩
  exact congrArg AV.bool (decide_eq_decide.2 OH)
attribute [local go_sem] rd bR l9 Int.natCast_nonneg Int.natCast_inj tW RG tX testN hasN orN List.length_set List.length_replicate Int.toNat_natCast_add_one kV List.length_map wrap64 xO max2 lC K2 z8
theorem c_in8 (s : Nat) (d : Int) (hs : s < 512) : CB 98 [.int .i64 ((s : Nat) : Int), .int .i64 d] h (.bool (hasD s d)) := by
  refine .bz Tryz.f98 18 ?_
  refine c222z ?_
  refine .spl 7 rfl rfl (fun e1 => ?_) (fun e1 => ?_)
  ·try simp only [e1]
   have qe1 := fact e1
   refine .k 4 [(2, 7)] ?_
   refine .spl 11 rfl rfl (fun e2 => ?_) (fun e2 => ?_)
   ·try simp only [e2]
    have qe2 := fact e2
    refine .m [(6, 11)] ?_
    refine c3z ?_
    exact ⟨[], _, (List.append_nil _).symm, t45, t69⟩
   try simp only [e2]
   have qe2 := fact e2
   refine .m [(6, 11)] ?_
   refine c3z ?_
   exact ⟨[], _, (List.append_nil _).symm, t45, t69⟩
  try simp only [e1]
  have qe1 := fact e1
  refine .k 8 [(2, 7), (6, 11)] ?_
  refine .m [(6, 11)] ?_
  refine c3z ?_
  exact ⟨[], _, (List.append_nil _).symm, t45, t69⟩
theorem c_inN (s i : Nat) (hs : s < 512) (hi : i ≤ 8) : CB 98 [.int .i64 ((s : Nat) : Int), .int .i64 ((i : Nat) : Int)] h (.bool (s.testBit i)) := by
  rw [← hasN hi]
  exact c_in8 s _ hs
theorem c_appM (r : List Nat) (s : Nat) (hr : ∀ x ∈ r, x < 512) (hs : s < 512) (hl : r.length ≤ 9) : CB 116 [bR r, .int .i64 ((s : Nat) : Int)] h (.int .i64 ((applyN r s : Nat) : Int)) := by
  refine .bz Tryz.f116 25 ?_
  refine c48z ?_
  refine .cI (fun m st => ∃ (i : Nat), (m = r.length - i ∧ i ≤ r.length) ∧ st = ⟨mkS 25 [(1, AV.int .i64 ((s : Nat) : Int)), (5, AV.int .i64 ((bO r s i : Nat) : Int)), (8, bR r), (9, AV.int .i64 ((r.length : Nat) : Int)), (10, AV.int .i64 ((i : Nat) : Int))], h⟩) _ (.v ⟨0, ⟨rfl, by omega⟩, rfl⟩ (hs := t39)) ?_
  rintro m sl h' ⟨i, ⟨hm, hi⟩, hst⟩
  obtain ⟨rfl, rfl⟩ := St.mk.inj hst
  have hacc := lV hr s i; have hgi := eM hr i
  refine c26z ?_
  refine u2z ?_ ?_
  ·intro e1 qe1
   refine c2z ?_
   refine c19z ?_
   refine u2z ?_ ?_
   ·intro e2 qe2
    refine .c7 [1, 5, 7, 8, 9, 10] ?_
    refine c46z ?_
    exact ⟨_, by omega, .v ⟨(i + 1), ⟨rfl, by omega⟩, rfl⟩ (hs := t39)⟩
   intro e2 qe2
   refine c5z ?_
   refine .c7 [1, 5, 8, 9, 10] ?_
   refine .rz ?_
   exact ⟨_, by omega, .v ⟨(i + 1), ⟨rfl, by omega⟩, rfl⟩ (hs := t39)⟩
  intro e1 qe1
  refine c90z ?_
  exact ⟨[], _, (List.append_nil _).symm, t45, t177⟩
theorem c_appR (r : List Nat) (s : Nat) (hr : ∀ x ∈ r, x < 512) (hs : s < 512) (hl : r.length ≤ 9) : CB 74 [bR r, .int .i64 ((s : Nat) : Int)] h (.int .i64 ((applyN r s : Nat) : Int)) := by
  refine .bz Tryz.f74 23 ?_
  refine c48z ?_
  refine .cI (fun m st => ∃ (i : Nat), (m = r.length - i ∧ i ≤ r.length) ∧ st = ⟨mkS 23 [(0, bR r), (1, AV.int .i64 ((s : Nat) : Int)), (5, AV.int .i64 ((bO r s i : Nat) : Int)), (6, AV.int .i64 ((i : Nat) : Int))], h⟩) _ (.v ⟨0, ⟨rfl, by omega⟩, rfl⟩ (hs := t39)) ?_
  rintro m sl h' ⟨i, ⟨hm, hi⟩, hst⟩
  obtain ⟨rfl, rfl⟩ := St.mk.inj hst
  have hacc := lV hr s i; have hgi := eM hr i
  refine c0z ?_
  refine u2z ?_ ?_
  ·intro e1 qe1
   refine c2z ?_
   refine c30z ?_
   refine .ca rfl rfl (c_inN _ _ hs (by omega)) ?_
   refine .nil ?_
   refine u2z ?_ ?_
   ·intro e2 qe2
    refine c1z ?_
    refine c139z ?_
    exact ⟨_, by omega, .v ⟨(i + 1), ⟨rfl, by omega⟩, rfl⟩ (hs := t39)⟩
   intro e2 qe2
   refine c5z ?_
   refine .rz ?_
   exact ⟨_, by omega, .v ⟨(i + 1), ⟨rfl, by omega⟩, rfl⟩ (hs := t39)⟩
  intro e1 qe1
  refine c90z ?_
  exact ⟨[], _, (List.append_nil _).symm, t45, t177⟩
theorem OI (r : List Nat) (s : Nat) (hr : ∀ x ∈ r, x < 512) (hs : s < 512) (hl : r.length ≤ 9) : CB 96 [bR r, .int .i64 ((s : Nat) : Int)] h (.int .i64 ((applyN r s : Nat) : Int)) := by
  refine .bz Tryz.f96 8 ?_
  refine .z ?_
  refine c30z ?_
  refine .ca rfl rfl (c_appM _ _ hr hs hl) ?_
  refine c150z ?_
  exact ⟨[], _, (List.append_nil _).symm, t45, by rfl⟩
theorem c_comp (a b : List Nat) (hb : ∀ x ∈ b, x < 512) (hl : b.length ≤ 9) (ha : ∀ x ∈ a, x < 512) (hla : a.length ≤ 9) : CB 71 [bR a, bR b] h (bR (o4 a b)) := by
  refine .bz Tryz.f71 26 ?_
  refine c48z ?_
  refine .cI (fun m st => ∃ (i : Nat) (zs : List Nat), (m = (a.length) - i ∧ (UpN (fun d => applyN b (a.getD d 0)) i zs ∧ zs.length = (a.length) ∧ i ≤ (a.length))) ∧ st = ⟨mkS 26 [(1, bR b), (5, AV.own h.length 0 0 (a.length)), (11, bR a), (12, AV.int .i64 ((a.length : Nat) : Int)), (13, AV.int .i64 ((i : Nat) : Int))], h ++ [⟨0, false, 3, 1, zs.map q9, 0⟩]⟩) _ (.v ⟨0, (List.replicate (a.length) 0), ⟨rfl, ⟨UpN.zero _ _, by simp, by omega⟩⟩, rfl⟩) ?_
  rintro m sl h' ⟨i, zs, ⟨hm, ⟨hI, hz, hi⟩⟩, hst⟩
  obtain ⟨rfl, rfl⟩ := St.mk.inj hst
  have hga := eM ha i
  refine c26z ?_
  refine u2z ?_ ?_
  ·intro e1 qe1
   refine c87z ?_
   refine c138z ?_
   refine .ca rfl rfl (OI _ _ hb hga hl) ?_
   refine c25z ?_
   refine .c7 [1, 5, 11, 12, 13] ?_
   refine .rz ?_
   exact ⟨_, by omega, .v ⟨(i + 1), (zs.set i _), ⟨rfl, ⟨UpN.set (by omega) hI rfl, t108, by omega⟩⟩, rfl⟩⟩
  intro e1 qe1
  refine c90z ?_
  exact ⟨_, _, rfl, T3 t129 (Nat.le_refl _) hz, t167⟩
theorem HI (a b : List Nat) (hb : ∀ x ∈ b, x < 512) (hl : b.length ≤ 9) (ha : ∀ x ∈ a, x < 512) (hla : a.length ≤ 9) : CB 43 [bR a, bR b] h (bR (o4 a b)) := by
  refine .bz Tryz.f43 26 ?_
  refine c48z ?_
  refine .cI (fun m st => ∃ (i : Nat) (zs : List Nat), (m = (a.length) - i ∧ (UpN (fun d => applyN b (a.getD d 0)) i zs ∧ zs.length = (a.length) ∧ i ≤ (a.length))) ∧ st = ⟨mkS 26 [(0, bR a), (1, bR b), (5, AV.own h.length 0 0 (a.length)), (6, AV.int .i64 ((i : Nat) : Int))], h ++ [⟨0, false, 3, 1, zs.map q9, 0⟩]⟩) _ (.v ⟨0, (List.replicate (a.length) 0), ⟨rfl, ⟨UpN.zero _ _, by simp, by omega⟩⟩, rfl⟩) ?_
  rintro m sl h' ⟨i, zs, ⟨hm, ⟨hI, hz, hi⟩⟩, hst⟩
  obtain ⟨rfl, rfl⟩ := St.mk.inj hst
  have hga := eM ha i
  refine c0z ?_
  refine u2z ?_ ?_
  ·intro e1 qe1
   refine c2z ?_
   refine .r ?_
   refine .e 7 ?_
   refine .ca rfl rfl (c_appR _ _ hb hga hl) ?_
   refine c25z ?_
   refine c139z ?_
   exact ⟨_, by omega, .v ⟨(i + 1), (zs.set i _), ⟨rfl, ⟨UpN.set (by omega) hI rfl, t108, by omega⟩⟩, rfl⟩⟩
  intro e1 qe1
  refine c90z ?_
  exact ⟨_, _, rfl, T3 t129 (Nat.le_refl _) hz, t167⟩
theorem K4 (a b : List Nat) (hb : ∀ x ∈ b, x < 512) (ha : ∀ x ∈ a, x < 512) (hla : a.length ≤ 9) (hab : b.length = a.length) : CB 45 [bR a, bR b] h (bR (cD a b)) := by
  refine .bz Tryz.f45 29 ?_
  refine c48z ?_
  refine .cI (fun m st => ∃ (i : Nat) (zs : List Nat), (m = (a.length) - i ∧ (UpN (fun d => a.getD d 0 ||| b.getD d 0) i zs ∧ zs.length = (a.length) ∧ i ≤ (a.length))) ∧ st = ⟨mkS 29 [(0, bR a), (1, bR b), (5, AV.own h.length 0 0 (a.length)), (11, AV.int .i64 ((a.length : Nat) : Int)), (12, AV.int .i64 ((i : Nat) : Int))], h ++ [⟨0, false, 3, 1, zs.map q9, 0⟩]⟩) _ (.v ⟨0, (List.replicate (a.length) 0), ⟨rfl, ⟨UpN.zero _ _, by simp, by omega⟩⟩, rfl⟩) ?_
  rintro m sl h' ⟨i, zs, ⟨hm, ⟨hI, hz, hi⟩⟩, hst⟩
  obtain ⟨rfl, rfl⟩ := St.mk.inj hst
  have hga := eM ha i; have hgb := eM hb i
  refine c26z ?_
  refine u2z ?_ ?_
  ·intro e1 qe1
   refine c87z ?_
   refine .so s9 (mkP 13 [0, 0, 0, 0, 12, 28, 0, 0, 192, 448, 1020, 2047, 4095] [12]) ?_
   refine c59z ?_
   change c9 ..
   refine c203z ?_
   exact ⟨_, by omega, .v ⟨(i + 1), (zs.set i _), ⟨rfl, ⟨UpN.set (by omega) hI rfl, t108, by omega⟩⟩, rfl⟩⟩
  intro e1 qe1
  refine c90z ?_
  exact ⟨_, _, rfl, T3 t129 (Nat.le_refl _) hz, t171⟩
theorem yQ (a b : List Nat) (hb : ∀ x ∈ b, x < 512) (ha : ∀ x ∈ a, x < 512) (hla : a.length ≤ 9) (hab : b.length = a.length) : CB 22 [bR a, bR b] h (bR (cD a b)) := by
  refine .bz Tryz.f22 29 ?_
  refine c48z ?_
  refine .cI (fun m st => ∃ (i : Nat) (zs : List Nat), (m = (a.length) - i ∧ (UpN (fun d => a.getD d 0 ||| b.getD d 0) i zs ∧ zs.length = (a.length) ∧ i ≤ (a.length))) ∧ st = ⟨mkS 29 [(0, bR a), (1, bR b), (5, AV.own h.length 0 0 (a.length)), (6, AV.int .i64 ((i : Nat) : Int))], h ++ [⟨0, false, 3, 1, zs.map q9, 0⟩]⟩) _ (.v ⟨0, (List.replicate (a.length) 0), ⟨rfl, ⟨UpN.zero _ _, by simp, by omega⟩⟩, rfl⟩) ?_
  rintro m sl h' ⟨i, zs, ⟨hm, ⟨hI, hz, hi⟩⟩, hst⟩
  obtain ⟨rfl, rfl⟩ := St.mk.inj hst
  have hga := eM ha i; have hgb := eM hb i
  refine c0z ?_
  refine u2z ?_ ?_
  ·intro e1 qe1
   refine c2z ?_
   refine .so s9 (mkP 13 [0, 0, 0, 0, 12, 28, 0, 0, 192, 448, 1020, 2047, 4095] [12]) ?_
   refine c59z ?_
   change c9 ..
   refine c139z ?_
   exact ⟨_, by omega, .v ⟨(i + 1), (zs.set i _), ⟨rfl, ⟨UpN.set (by omega) hI rfl, t108, by omega⟩⟩, rfl⟩⟩
  intro e1 qe1
  refine c90z ?_
  exact ⟨_, _, rfl, T3 t129 (Nat.le_refl _) hz, t171⟩
theorem HJ (a b : List Nat) (hla : a.length ≤ 9) (hab : b.length = a.length) : CB 24 [bR a, bR b] h (.bool (decide (tY a b))) := by
  refine .bz Tryz.f24 22 ?_
  refine c53z ?_
  refine .cI (fun m st => ∃ (i : Nat), (m = a.length - i ∧ ((∀ d, d < i → bits .andNot .i64 ((a.getD d 0 : Nat) : Int) ((b.getD d 0 : Nat) : Int) = 0) ∧ i ≤ a.length)) ∧ st = ⟨mkS 22 [(0, bR a), (1, bR b), (7, AV.int .i64 ((a.length : Nat) : Int)), (8, AV.int .i64 ((i : Nat) : Int))], h⟩) _ (.v ⟨0, ⟨rfl, ⟨t104, by omega⟩⟩, rfl⟩) ?_
  rintro m sl h' ⟨i, ⟨hm, ⟨hI, hi⟩⟩, hst⟩
  obtain ⟨rfl, rfl⟩ := St.mk.inj hst
  refine c26z ?_
  refine u2z ?_ ?_
  ·intro e1 qe1
   refine c87z ?_
   refine .ss s9 (mkP 10 [0, 0, 3, 7, 0, 0, 48, 112, 255, 511] []) ?_
   refine c59z ?_
   refine u2z ?_ ?_
   ·intro e2 qe2
    refine c130z ?_
    exact ⟨[], _, (List.append_nil _).symm, t45, t109⟩
   intro e2 qe2
   refine c5z ?_
   refine .c7 [0, 1, 7, 8] ?_
   refine .rz ?_
   exact ⟨_, by omega, .v ⟨(i + 1), ⟨rfl, ⟨(fun d hd => if e : d = i then by rw [e]; assumption else hI d (by omega)), by omega⟩⟩, rfl⟩⟩
  intro e1 qe1
  refine c90z ?_
  exact ⟨[], _, (List.append_nil _).symm, t45, t109⟩
theorem c_sameT {n : Nat} (a b : List (List Nat)) (hl : a.length < 1000000) (ha : ∀ r ∈ a, r.length < 1000) : CB 12 [.vec a.length (s3 a), .vec b.length (s3 b)] h (.bool (decide (a = b))) := by
  refine .bz Tryz.f12 27 ?_
  refine c86z ?_
  refine u2z ?_ ?_
  ·intro e1 qe1
   refine c130z ?_
   exact ⟨[], _, (List.append_nil _).symm, t45, t75⟩
  intro e1 qe1
  refine .sk ?_
  refine c4z ?_
  refine .cI (fun m st => ∃ (i : Nat), (m = a.length - i ∧ ((∀ d, d < i → a.getD d [] = b.getD d []) ∧ i ≤ a.length)) ∧ st = ⟨mkS 27 [(0, AV.vec a.length (s3 a)), (1, AV.vec b.length (s3 b)), (5, AV.int .i64 ((i : Nat) : Int))], h⟩) _ (.v ⟨0, ⟨rfl, ⟨t104, by omega⟩⟩, rfl⟩) ?_
  rintro m sl h' ⟨i, ⟨hm, ⟨hI, hi⟩⟩, hst⟩
  obtain ⟨rfl, rfl⟩ := St.mk.inj hst
  refine c0z ?_
  refine u2z ?_ ?_
  ·intro e2 qe2
   refine c2z ?_
   refine .ss s9 (mkP 10 [0, 0, 3, 7, 0, 0, 48, 112, 255, 511] []) ?_
   refine .k 8 [] ?_
   refine .ca rfl rfl (K3 _ _ (by have := ha _ (l3 (i := i) (d := []) (by omega)); omega)) ?_
   refine .n [] ?_
   refine u2z ?_ ?_
   ·intro e3 qe3
    refine c130z ?_
    exact ⟨[], _, (List.append_nil _).symm, t45, t75⟩
   intro e3 qe3
   refine c5z ?_
   refine c192z ?_
   exact ⟨_, by omega, .v ⟨(i + 1), ⟨rfl, ⟨(fun d hd => if e : d = i then by rw [e]; assumption else hI d (by omega)), by omega⟩⟩, rfl⟩⟩
  intro e2 qe2
  refine c90z ?_
  exact ⟨[], _, (List.append_nil _).symm, t45, t75⟩
end Go.Proofs.YtfbjlfhjkojmkaaGreat
end
section
namespace Go.Un
open Go.Ab
section
variable {k n : Nat} {nx : Nat → List Int} {st : Nat → List Nat}
structure Gro (k n : Nat) (nx : Nat → List Int) (st : Nat → List Nat) (T : List (List Nat)) : Prop where
 tb : Tb k n T
 id : Sub (dhN k 0) (T.getD 0 [])
 le : pO T (dE k n nx st)
variable {a b : List Nat}
theorem jR (ha : Rl k a) (hb : Rl k b) : Sub a (cD a b) := fun d e h => (rS ha hb).2 (.inl h)
theorem uK (ha : Rl k a) (hb : Rl k b) : Sub b (cD a b) := fun d e h => (rS ha hb).2 (.inr h)
theorem qG {c : List Nat} (ha : Rl k a) (hb : Rl k b) (h1 : Sub a c) (h2 : Sub b c) : Sub (cD a b) c := fun d e h => ((rS ha hb).1 h).elim (h1 d e) (h2 d e)
theorem dP (ha : Rl k a) (hb : Rl k b) : cD a b = a ↔ Sub b a :=
 ⟨fun h => by have := uK ha hb; rw [h] at this; exact this, fun h => Sub.XF (oH ha hb) ha (qG ha hb (Sub.refl _) h) (jR ha hb)⟩
theorem Gro.start (p : Pro k n nx st) : Gro k n nx st ((List.replicate n (List.replicate (k + 1) 0)).set 0 (dhN k 0)) := by
 have hl : 0 < (List.replicate n (List.replicate (k + 1) 0)).length := by rw [List.length_replicate]; exact p.pos
 have tb : Tb k n (List.replicate n (List.replicate (k + 1) 0)) := ⟨by simp, fun r hr => by rw [List.eq_of_mem_replicate hr]; exact J9 _⟩
 refine ⟨tb.set (rl_dh _ _), by rw [dI hl, if_pos rfl]; exact Sub.refl _, fun i => ?_⟩
 rw [dI hl]
 split
 ·rename_i e; subst e; exact (S7 p).id
 ·intro d e h
  rw [List.getD_eq_getElem?_getD, List.getElem?_replicate] at h
  split at h
  ·rw [show ((some (List.replicate (k + 1) 0) : Option (List Nat)).getD []) = List.replicate (k + 1) 0 from rfl, yK] at h; cases h
  ·simp [bt] at h
variable {T : List (List Nat)} {pc : Nat}
theorem Gro.aft (p : Pro k n nx st) (g : Gro k n nx st T) (hp : pc < n) : Rl k (o4 (T.getD pc []) (st pc)) ∧ ∀ q ∈ nx pc, Sub (o4 (T.getD pc []) (st pc)) ((dE k n nx st).getD q.toNat []) := by
 refine ⟨AB (g.tb.get hp) (p.st pc hp), fun q hq d e h => ?_⟩
 obtain ⟨f, h1, h2⟩ := (iQ (g.tb.get hp) (p.st pc hp)).1 h
 exact (S7 p).at' pc hp q hq d e ((iQ ((oK k n nx st).get hp) (p.st pc hp)).2 ⟨f, g.le pc d f h1, h2⟩)
variable {q : Nat}
theorem Gro.set (g : Gro k n nx st T) (hq : q < n) (ha : Rl k a) (hs : Sub a ((dE k n nx st).getD q [])) : Gro k n nx st (T.set q (cD (T.getD q []) a)) ∧ pO T (T.set q (cD (T.getD q []) a)) := by
 have hl : q < T.length := by rw [g.tb.1]; exact hq
 have hs' : pO T (T.set q (cD (T.getD q []) a)) := fun i => by
  rw [dI hl]
  split
  ·rename_i e; subst e; exact jR (g.tb.get hq) ha
  ·exact Sub.refl _
 refine ⟨⟨g.tb.set (oH (g.tb.get hq) ha), g.id.trans (hs' 0), fun i => ?_⟩, hs'⟩
 rw [dI hl]
 split
 ·rename_i e; subst e; exact qG (g.tb.get hq) ha (g.le i) hs
 ·exact g.le i
theorem OB.mono {T' : List (List Nat)} (c : OB nx st T pc) (he : T'.getD pc [] = T.getD pc []) (hs : pO T T') : OB nx st T' pc := fun q hq => by
 rw [he]
 exact (c q hq).trans (hs _)
theorem Gro.done (p : Pro k n nx st) (g : Gro k n nx st T) (h : ∀ pc, pc < n → OB nx st T pc) : T = dE k n nx st := ClT.eq p ⟨g.tb, g.id, h⟩ g.le
structure IT (k n : Nat) (nx : Nat → List Int) (st : Nat → List Nat) (T : List (List Nat)) (todo : List Nat) : Prop where
 g : Gro k n nx st T
 td : ∀ x ∈ todo, x < n
 cl : ∀ pc, pc < n → pc ∉ todo → OB nx st T pc
theorem IT.start (p : Pro k n nx st) : IT k n nx st ((List.replicate n (List.replicate (k + 1) 0)).set 0 (dhN k 0)) [0] := by
 refine ⟨Gro.start p, by simp; exact p.pos, fun pc hp hm q hq d e h => ?_⟩
 have hl : 0 < (List.replicate n (List.replicate (k + 1) 0)).length := by rw [List.length_replicate]; exact p.pos
 obtain ⟨f, h1, _⟩ := (iQ ((Gro.start p).tb.get hp) (p.st pc hp)).1 h
 rw [dI hl, if_neg (by simpa using hm), List.getD_eq_getElem?_getD, List.getElem?_replicate, if_pos hp] at h1
 rw [show ((some (List.replicate (k + 1) 0) : Option (List Nat)).getD []) = List.replicate (k + 1) 0 from rfl, yK] at h1
 cases h1
structure HK (k n : Nat) (nx : Nat → List Int) (st : Nat → List Nat) (pc : Nat) (R0 : List Nat) (t0 l0 : Nat) (T : List (List Nat)) (todo : List Nat) (j : Nat) : Prop where
 g : Gro k n nx st T
 td : ∀ x ∈ todo, x < n
 cl : ∀ p, p < n → p ∉ todo → p ≠ pc → OB nx st T p
 own : pc ∈ todo ∨ T.getD pc [] = R0
 dn : ∀ d, d < j → Sub (o4 R0 (st pc)) (T.getD ((nx pc).getD d 0).toNat [])
 me : todo.length + t0 ≤ l0 + tot T
 mo : t0 ≤ tot T
variable {todo : List Nat}
theorem IT.pop (h : IT k n nx st T (todo ++ [pc])) : pc < n ∧ HK k n nx st pc (T.getD pc []) (tot T) todo.length T todo 0 := by
 refine ⟨h.td pc (by simp), h.g, fun x hx => h.td x (by simp [hx]), fun p hp hm hne => h.cl p hp (by simp [hm, hne]), .inr rfl, fun d hd => by omega, Nat.le_refl _, Nat.le_refl _⟩
variable {t0 l0 j : Nat} {R0 : List Nat}
theorem HK.skip (h : HK k n nx st pc R0 t0 l0 T todo j) (hs : Sub (o4 R0 (st pc)) (T.getD ((nx pc).getD j 0).toNat [])) : HK k n nx st pc R0 t0 l0 T todo (j + 1) :=
 ⟨h.g, h.td, h.cl, h.own, fun d hd => if e : d = j then by rw [e]; exact hs else h.dn d (by omega), h.me, h.mo⟩
theorem HK.grow (p : Pro k n nx st) (hp : pc < n) (h : HK k n nx st pc R0 t0 l0 T todo j) (hR : Rl k (o4 R0 (st pc))) (hle : ∀ q ∈ nx pc, Sub (o4 R0 (st pc)) ((dE k n nx st).getD q.toNat [])) (hj : j < (nx pc).length) (hqe : ((nx pc).getD j 0).toNat = q) (hs : ¬ Sub (o4 R0 (st pc)) (T.getD q [])) : HK k n nx st pc R0 t0 l0 (T.set q (cD (T.getD q []) (o4 R0 (st pc)))) (todo ++ [q]) (j + 1) := by
 have hqm : (nx pc).getD j 0 ∈ nx pc := l3 hj
 have hq : q < n := by have := p.nx pc hp _ hqm; omega
 obtain ⟨g', hs'⟩ := h.g.set hq hR (by have := hle _ hqm; rwa [hqe] at this)
 have hl : q < T.length := by rw [h.g.tb.1]; exact hq
 have h2 := yM h.g.tb hq (oH (h.g.tb.get hq) hR) (jR (h.g.tb.get hq) hR) (fun he => hs ((dP (h.g.tb.get hq) hR).1 he.symm))
 refine ⟨g', fun x hx => ?_, fun p' hp' hm hne => ?_, ?_, fun d hd => ?_, ?_, by have := h.mo; omega⟩
 ·rcases List.mem_append.1 hx with hx | hx
  ·exact h.td x hx
  ·rw [List.mem_singleton] at hx; omega
 ·simp only [List.mem_append, List.mem_singleton, not_or] at hm
  exact (h.cl p' hp' hm.1 hne).mono (by rw [dI hl, if_neg hm.2]) hs'
 ·rcases h.own with ho | ho
  ·exact .inl (by simp [ho])
  ·by_cases e : pc = q
   ·exact .inl (by simp [e])
   ·exact .inr (by rw [dI hl, if_neg e]; exact ho)
 ·by_cases e : d = j
  ·rw [e, hqe, dI hl, if_pos rfl]; exact uK (h.g.tb.get hq) hR
  ·exact (h.dn d (by omega)).trans (hs' _)
 ·have h1 := h.me
  rw [List.length_append, List.length_singleton]
  omega
theorem HK.fin (hp : pc < n) (h : HK k n nx st pc R0 t0 l0 T todo (nx pc).length) : IT k n nx st T todo := by
 refine ⟨h.g, h.td, fun p hp' hm => ?_⟩
 by_cases e : p = pc
 ·subst e
  intro q hq
  rcases h.own with ho | ho
  ·exact absurd ho hm
  ·obtain ⟨d, hd, rfl⟩ := List.getElem_of_mem hq
   have := h.dn d hd
   rw [← ho] at this
   simpa [List.getD, hd] using this
 ·exact h.cl p hp' hm e
theorem IT.done (p : Pro k n nx st) (h : IT k n nx st T []) : T = dE k n nx st := h.g.done p fun pc hp => h.cl pc hp (by simp)
def RL (n : Nat) (T : List (List Nat)) (l : Nat) : Nat := 2 * (4608 * n - tot T) + l
variable {T0 : List (List Nat)}
theorem mRun_lt (hk : k ≤ 8) (h : HK k n nx st pc R0 (tot T0) l0 T todo j) (h0 : Gro k n nx st T0) : RL n T todo.length < RL n T0 (l0 + 1) := by
 have h1 := h.me
 have h2 := D8 hk h.g.tb
 have h3 := D8 hk h0.tb
 have h4 := h.mo
 unfold RL
 omega
structure IU (k n : Nat) (nx : Nat → List Int) (st : Nat → List Nat) (T0 T : List (List Nat)) (again : Bool) (pc : Nat) : Prop where
 g : Gro k n nx st T
 le : tot T0 ≤ tot T
 yes : again = true → tot T0 < tot T
 no : again = false → T = T0 ∧ ∀ p, p < pc → OB nx st T p
theorem IU.start (g : Gro k n nx st T) : IU k n nx st T T false 0 := ⟨g, Nat.le_refl _, fun h => by (cases h), fun _ => ⟨rfl, fun p hp => by omega⟩⟩
structure HL (k n : Nat) (nx : Nat → List Int) (st : Nat → List Nat) (T0 T : List (List Nat)) (again : Bool) (pc : Nat) (R0 : List Nat) (j : Nat) : Prop where
 g : Gro k n nx st T
 le : tot T0 ≤ tot T
 yes : again = true → tot T0 < tot T
 no : again = false → T = T0 ∧ (∀ p, p < pc → OB nx st T p) ∧ R0 = T.getD pc [] ∧ ∀ d, d < j → Sub (o4 R0 (st pc)) (T.getD ((nx pc).getD d 0).toNat [])
variable {again : Bool}
theorem IU.go (h : IU k n nx st T0 T again pc) : HL k n nx st T0 T again pc (T.getD pc []) 0 :=
 ⟨h.g, h.le, h.yes, fun e => ⟨(h.no e).1, (h.no e).2, rfl, fun d hd => by omega⟩⟩
theorem HL.skip (h : HL k n nx st T0 T again pc R0 j) (hs : Sub (o4 R0 (st pc)) (T.getD ((nx pc).getD j 0).toNat [])) : HL k n nx st T0 T again pc R0 (j + 1) :=
 ⟨h.g, h.le, h.yes, fun e => ⟨(h.no e).1, (h.no e).2.1, (h.no e).2.2.1, fun d hd => if e2 : d = j then by rw [e2]; exact hs else (h.no e).2.2.2 d (by omega)⟩⟩
theorem HL.grow (p : Pro k n nx st) (hp : pc < n) (h : HL k n nx st T0 T again pc R0 j) (hR : Rl k (o4 R0 (st pc))) (hle : ∀ q ∈ nx pc, Sub (o4 R0 (st pc)) ((dE k n nx st).getD q.toNat [])) (hj : j < (nx pc).length) (hqe : ((nx pc).getD j 0).toNat = q) (hs : ¬ Sub (o4 R0 (st pc)) (T.getD q [])) : HL k n nx st T0 (T.set q (cD (T.getD q []) (o4 R0 (st pc)))) true pc R0 (j + 1) := by
 have hqm : (nx pc).getD j 0 ∈ nx pc := l3 hj
 have hq : q < n := by have := p.nx pc hp _ hqm; omega
 obtain ⟨g', hs'⟩ := h.g.set hq hR (by have := hle _ hqm; rwa [hqe] at this)
 have h2 := yM h.g.tb hq (oH (h.g.tb.get hq) hR) (jR (h.g.tb.get hq) hR) (fun he => hs ((dP (h.g.tb.get hq) hR).1 he.symm))
 have h3 := h.le
 exact ⟨g', by omega, fun _ => by omega, fun e => by cases e⟩
theorem HL.fin (h : HL k n nx st T0 T again pc R0 (nx pc).length) : IU k n nx st T0 T again (pc + 1) := by
 refine ⟨h.g, h.le, h.yes, fun e => ⟨(h.no e).1, fun p hp => ?_⟩⟩
 obtain ⟨h1, h2, h3, h4⟩ := h.no e
 by_cases e2 : p = pc
 ·subst e2
  intro q hq
  obtain ⟨d, hd, rfl⟩ := List.getElem_of_mem hq
  have := h4 d hd
  rw [h3] at this
  simpa [List.getD, hd] using this
 ·exact h2 p (by omega)
theorem IU.done (p : Pro k n nx st) (h : IU k n nx st T0 T false n) : T = dE k n nx st := h.g.done p (h.no rfl).2
def RM (n : Nat) (T : List (List Nat)) (again : Bool) : Nat := if again then 4608 * n - tot T + 1 else 0
theorem mPas_lt (hk : k ≤ 8) (h : IU k n nx st T0 T again pc) : RM n T again < RM n T0 true := by
 have h1 := D8 hk h.g.tb
 unfold RM
 cases again
 ·simp
 ·have := h.yes rfl
  simp only [if_true]
  omega
end
section
variable {u : Un} {c : Clo} {m : Nat}
structure OfI (u : Un) (c : Clo) (m : Nat) (S0 S : List (List Nat)) (again : Bool) (i : Nat) : Prop where
 low : Low u c m S
 le : tot S0 ≤ tot S
 yes : again = true → tot S0 < tot S
 no : again = false → S = S0 ∧ ∀ j, i ≤ j → j < c.insts.length → exT u c m S j = S.getD j []
variable {S : List (List Nat)}
theorem OfI.start (h : Low u c m S) : OfI u c m S S false c.insts.length := ⟨h, Nat.le_refl _, fun h => by (cases h), fun _ => ⟨rfl, fun j h1 h2 => by omega⟩⟩
variable {S0 : List (List Nat)} {again : Bool} {i : Nat}
theorem OfI.same (h : OfI u c m S0 S again (i + 1)) (he : exT u c m S i = S.getD i []) : OfI u c m S0 S again i :=
 ⟨h.low, h.le, h.yes, fun e => ⟨(h.no e).1, fun j h1 h2 => if e2 : j = i then by rw [e2]; exact he else (h.no e).2 j (by omega) h2⟩⟩
theorem OfI.set (hu : WU u) (wc : WC u c) (hi : i < c.insts.length) (h : OfI u c m S0 S again (i + 1)) (he : exT u c m S i ≠ S.getD i []) : OfI u c m S0 (S.set i (exT u c m S i)) true i := by
 have h1 := h.low.set hu wc hi
 have h2 := yM h.low.tb hi (E0 (u := u) (c := c) (m := m) S i) (h.low.up i hi) (Ne.symm he)
 have h3 := h.le
 exact ⟨h1.1, by omega, fun _ => by omega, fun e => by cases e⟩
theorem OfI.done (hu : WU u) (wc : WC u c) (h : OfI u c m S0 S false 0) : S = qO u c m :=
 RK hu wc h.low.tb h.low.le fun i hi => (h.no rfl).2 i (Nat.zero_le _) hi
theorem mOf_lt (h : OfI u c m S0 S again i) : RM c.insts.length S again < RM c.insts.length S0 true := by
 have h1 := D8 mD h.low.tb
 unfold RM
 cases again
 ·simp
 ·have := h.yes rfl
  simp only [if_true]
  omega
theorem Low.grow (hu : WU u) (wc : WC u c) (h : Low u c m S) (hne : S ≠ uG u c m S) : tot S < tot (uG u c m S) ∧ tot (uG u c m S) ≤ 4608 * c.insts.length :=
 ⟨(OC h.tb (fC S) (h.round hu wc).2).2 hne, D8 mD (fC S)⟩
end
section
variable (u : Un) (c : Clo) (m : Nat)
end
section
variable {u : Un} {c : Clo} {m : Nat}
end
end Go.Un
end
