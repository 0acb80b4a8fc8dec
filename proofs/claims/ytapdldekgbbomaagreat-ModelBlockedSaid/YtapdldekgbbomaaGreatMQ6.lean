/- My own texts, put together by a program of mine. -/
import Derived.Laws.BitsLemmas
import Derived.Test.YtapdldekgbbomaaGreatMQ5
set_option linter.unusedSimpArgs false
set_option linter.unusedVariables false
set_option maxRecDepth 100000
set_option maxHeartbeats 4000000
section
namespace Go.Proofs.YtapdldekgbbomaaGreat
open Go.Ab Go.Un
variable {p : Go.Un.Pg} {f : Fu}
theorem CA (h : GH p) (hf : f ∈ p.funcs) : ∀ x ∈ f.params, qS x.name = false := by
  obtain ⟨i, hi, rfl⟩ := bH (d := j4) hf
  intro x hx
  have hm : x.name ∈ (p.funcs.getD i j4).params.map (·.name) := List.mem_map.2 ⟨x, hx, rfl⟩
  rcases (h.fn i hi).2.2 with e | e | e <;> rw [e] at hm <;> simp at hm
  · rw [hm]; exact C3 1 (by omega)
  · rcases hm with e | e <;> rw [e]
    · exact C3 2 (by omega)
    · exact C3 1 (by omega)
variable {i : Nat}
theorem lQ {α : Type} (f : α → List AV) (K j : Nat) (hK : ∀ a, (f a).length = K) (hj : j < K) (d : α) {l : List α} (h : i < l.length) : List.take 1 (List.drop (i * K + j) (l.flatMap f)) = List.take 1 (List.drop j (f (l.getD i d))) := by
  rw [← aR f K hK d h, List.drop_take, List.take_take, List.drop_drop, Nat.min_eq_left (by omega)]
theorem JG {l : List Gl} (h : i < l.length) : List.take 1 (List.drop (i * 2) (o9 l)) = [.str (l.getD i jY).name] := lQ Q1 2 0 (fun _ => rfl) (by omega) jY h
theorem JH {l : List Gl} (h : i < l.length) : List.take 1 (List.drop (i * 2 + 1) (o9 l)) = [.int .i64 (l.getD i jY).init] := lQ Q1 2 1 (fun _ => rfl) (by omega) jY h
variable {l : List Pm}
theorem JI (h : i < l.length) : List.take 1 (List.drop (i * 2) (u3 l)) = [.str (l.getD i gG).name] := lQ Q0 2 0 (fun _ => rfl) (by omega) gG h
theorem JJ (h : i < l.length) : List.take 1 (List.drop (i * 2 + 1) (u3 l)) = [.bool (l.getD i gG).mu] := lQ Q0 2 1 (fun _ => rfl) (by omega) gG h
theorem txtGl_0 {l : List Gl} (h : (l.getD i jY).init = 0) : jH l (i + 1) = jH l i ++ yN ++ (l.getD i jY).name ++ oR := by rw [jH, if_pos h]
theorem txtGl_1 {l : List Gl} (h : ¬ (l.getD i jY).init = 0) : jH l (i + 1) = jH l i ++ yN ++ (l.getD i jY).name ++ GW ++ Q5 (l.getD i jY).init ++ oR := by rw [jH, if_neg h]
variable {out : BA}
theorem JK {l : List Mx} (h1 : (l.getD i s8).re = false) (h : ¬ 0 < (l.getD i s8).size) : dG l out (i + 1) = dG l out i ++ aZ ++ (l.getD i s8).name ++ oR := by rw [dG, if_neg h, if_neg (by rw [h1]; decide)]
theorem JL {l : List Mx} (h1 : (l.getD i s8).re = true) (h : ¬ 0 < (l.getD i s8).size) : dG l out (i + 1) = dG l out i ++ t_r ++ aZ ++ (l.getD i s8).name ++ oR := by rw [dG, if_neg h, if_pos h1]
theorem JM {l : List Mx} (h1 : (l.getD i s8).re = false) (h : 0 < (l.getD i s8).size) : dG l out (i + 1) = dG l out i ++ aZ ++ (l.getD i s8).name ++ EW ++ Q5 (l.getD i s8).size ++ EX ++ oR := by rw [dG, if_pos h, if_neg (by rw [h1]; decide)]
theorem JN {l : List Mx} (h1 : (l.getD i s8).re = true) (h : 0 < (l.getD i s8).size) : dG l out (i + 1) = dG l out i ++ t_r ++ aZ ++ (l.getD i s8).name ++ EW ++ Q5 (l.getD i s8).size ++ EX ++ oR := by rw [dG, if_pos h, if_pos h1]
theorem JO (h1 : (l.getD i gG).mu = false) (h : ¬ 0 < i) : eJ l out (i + 1) = eJ l out i ++ (l.getD i gG).name := by rw [eJ, if_neg h, if_neg (by rw [h1]; decide)]
theorem JP (h1 : (l.getD i gG).mu = true) (h : ¬ 0 < i) : eJ l out (i + 1) = eJ l out i ++ aZ ++ (l.getD i gG).name := by rw [eJ, if_neg h, if_pos h1]
theorem JQ (h1 : (l.getD i gG).mu = false) (h : 0 < i) : eJ l out (i + 1) = eJ l out i ++ kH ++ (l.getD i gG).name := by rw [eJ, if_pos h, if_neg (by rw [h1]; decide)]
theorem JR (h1 : (l.getD i gG).mu = true) (h : 0 < i) : eJ l out (i + 1) = eJ l out i ++ kH ++ aZ ++ (l.getD i gG).name := by rw [eJ, if_pos h, if_pos h1]
theorem GHgres (h : GH p) (hf : f ∈ p.funcs) : pA (HB p f) := by
  refine ⟨⟨fun m hm => ?_, fun x hx => ?_⟩, fun x hx => ?_⟩
  · obtain ⟨i, hi, rfl⟩ := bH (d := s8) hm
    show qS (p.c4.getD i s8).name = false
    rw [(h.mn i hi).1]
    exact BI i (by have := h.ml; have hi2 : i < p.c4.length := hi; omega)
  · exact CA h hf x hx
  · obtain ⟨g, hg, rfl⟩ := List.mem_map.1 hx
    obtain ⟨i, hi, rfl⟩ := bH (d := j4) hg
    show qS (p.funcs.getD i j4).name = false
    rw [(h.fn i hi).1]
    exact BJ i (by have := h.fl; omega)
theorem CC (h : GH p) (hf : f ∈ p.funcs) : w5 (HC p f) := by
  intro x hx
  refine ⟨h.PH hf x hx, ?_⟩
  rcases List.mem_append.1 hx with hx | hx
  · obtain ⟨g, hg, rfl⟩ := List.mem_map.1 hx
    obtain ⟨i, hi, rfl⟩ := bH (d := jY) hg
    rw [(h.gn i hi).1]
    exact BH i (by have := h.gl; omega)
  · obtain ⟨g, hg, rfl⟩ := List.mem_map.1 hx
    exact CA h hf g (List.mem_filter.1 hg).1
theorem D3 {l : List Fu} (h : i < l.length) : (l.getD i j4).body.wt ≤ pT l l.length := by
  have key : ∀ n, i < n → (l.getD i j4).body.wt ≤ pT l n := by
    intro n hn
    induction n with
    | zero => omega
    | succ n ih =>
      rw [pT]
      by_cases e : i = n
      · rw [e]; omega
      · have := ih (by omega); omega
  exact key _ h
variable {h : c7}
theorem c_lexF {L : Bs} (hx : LX L 4000) (hl : L.length ≤ 262144) : CB 50 [.vec L.length (qR L)] h (.tup [.any, .int .i64 L.length, .int .i64 0]) :=
  yY rfl ((c_lex0 L 4000 hx (Nat.le_refl _) hl).mono fun _ _ h => h.1) h
theorem encB_8 {b : BA} : b.toList.map (fun c => AV.int .u8 ((c.toNat : Nat) : Int)) = qR (L8 b) := by rw [ByteArray.toList_eq]; rfl
theorem c_lexB {b : BA} (hx : LX (L8 b) 4000) (hl : b.size ≤ 262144) : CB 50 [.vec b.size (b.toList.map fun c => AV.int .u8 ((c.toNat : Nat) : Int))] h (.tup [.any, .int .i64 b.size, .int .i64 0]) := by
  rw [encB_8, jG]
  exact c_lexF hx (by rw [← jG]; exact hl)
attribute [local go_sem] lO z7 n6 aS bY aU n5 cQ r9 aN aD Int.natCast_nonneg Int.natCast_inj List.length_map wrap64 R4 kK wF z6 kY eq_mk kZ Nat.reduceMul JG JH JI JJ vO rW dF
theorem L7 {l : List Pm} (hn : ∀ x ∈ l, isName (L8 x.name)) (out : BA) : ∀ i, i ≤ l.length → (eJ l out i).size ≤ out.size + 30 * i
  | 0, _ => Nat.le_refl _
  | i + 1, hi => by
    have ih := L7 hn out i (by omega)
    have hs := v7 (hn _ (j8 (d := gG) (show i < l.length from by omega)))
    have e1 : aZ.size = 6 := rfl
    have e2 : kH.size = 2 := rfl
    unfold eJ
    repeat' split
    all_goals simp only [z6]
    all_goals omega
theorem CD {l : List Fu} : ∀ {a b : Nat}, a ≤ b → pT l a ≤ pT l b := by
  intro a b h
  induction h with
  | refl => exact Nat.le_refl _
  | step _ ih => rw [pT]; omega
theorem c_progT (hp : GP p) : CB 65 [.agg [.vec p.globals.length (o9 p.globals), .vec p.c4.length (g9 p.c4), .vec p.funcs.length (n9 p.funcs)]] h (.str (txtP p)) := by
  refine .bz Tryz.f65 131 ?_
  have hgl := qN hp.toGH p.globals.length (Nat.le_refl _)
  have hmx := qO hp.toGH hgl.1 p.c4.length (Nat.le_refl _)
  have hgl0 := hp.gl
  have hml0 := hp.ml
  have hfl0 := hp.fl
  have htot := hp.wt
  have hwm : ∀ i, i ≤ p.funcs.length → pT p.funcs i ≤ 48 := fun i hi => Nat.le_trans (CD hi) htot
  refine c72z ?_
  refine .gC (fun m st => ∃ (i : Nat), (m = p.globals.length - i ∧ i ≤ p.globals.length) ∧ st = ⟨mkS 131 [(1, AV.ptr h.length 0 0), (3, AV.str (jH p.globals i)), (4, AV.int .i64 ((i : Nat) : Int))], h ++ [⟨0, false, 27, 3, [.vec p.globals.length (o9 p.globals), .vec p.c4.length (g9 p.c4), .vec p.funcs.length (n9 p.funcs)], 0⟩]⟩) _ (.v ⟨0, ⟨rfl, by omega⟩, rfl⟩ (hs := t54)) ?_
  rintro m sl h' ⟨i, ⟨hm, hi⟩, hst⟩
  obtain ⟨rfl, rfl⟩ := St.mk.inj hst
  have hsz := (qN hp.toGH i hi).2
  refine c0z ?_
  refine u2z ?_ ?_
  ·intro e1 qe1
   refine c5z ?_
   have hgn := dT (hp.toGH.Z7 (j8 (d := jY) (l := p.globals) (i := i) (by omega)))
   have hgi := (hp.gn i (by omega)).2
   refine c114z ?_
   refine c195z ?_
   refine .z ?_
   refine u2z ?_ ?_
   ·intro e2 qe2
    have hns := (rZ hgi.1 hgi.2).2
    refine .r ?_
    refine .e 8 ?_
    refine c211z ?_
    refine .c8 [1, 3, 4] ?_
    refine c64z ?_
    exact ⟨_, by omega, .v ⟨(i + 1), ⟨rfl, by omega⟩, rfl⟩ (hs := t54)⟩
   intro e2 qe2
   refine .sk ?_
   refine c97z ?_
   exact ⟨_, by omega, .v ⟨(i + 1), ⟨rfl, by omega⟩, rfl⟩ (hs := t54)⟩
  intro e1 qe1
  refine .exit ?_
  obtain rfl : i = p.globals.length := by omega
  change g6 ..
  refine c10z ?_
  refine .bX (fun m st => ∃ (i : Nat), (m = p.c4.length - i ∧ i ≤ p.c4.length) ∧ st = ⟨mkS 131 [(1, AV.ptr h.length 0 0), (3, AV.str (dG p.c4 (jH p.globals p.globals.length) i)), (5, AV.int .i64 ((i : Nat) : Int))], h ++ [⟨0, false, 27, 3, [.vec p.globals.length (o9 p.globals), .vec p.c4.length (g9 p.c4), .vec p.funcs.length (n9 p.funcs)], 0⟩]⟩) (.v ⟨0, ⟨rfl, by omega⟩, rfl⟩ (hs := t19)) ?_
  rintro m sl h' ⟨i, ⟨hm, hi⟩, hst⟩
  obtain ⟨rfl, rfl⟩ := St.mk.inj hst; clear hst
  have hsz := (qO hp.toGH hgl.1 i hi).2
  refine c0z ?_
  refine u2z ?_ ?_
  ·intro e3 qe3
   refine c5z ?_
   have hmn := dT (hp.toGH.HG (j8 (d := s8) (l := p.c4) (i := i) (by omega)))
   have hmi := (hp.mn i (by omega)).2
   refine c13z ?_
   refine .c8 [1, 3, 5, 6] ?_
   refine .z ?_
   refine u2z ?_ ?_
   ·intro e4 qe4
    refine c2z ?_
    refine c13z ?_
    refine .c8 [1, 3, 5, 6] ?_
    refine .z ?_
    refine u2z ?_ ?_
    ·intro e5 qe5
     have hns := (rZ (n := (p.c4.getD i s8).size) (by omega) (by omega)).2
     refine c164z ?_
     refine c211z ?_
     refine .c8 [1, 3, 5] ?_
     refine c64z ?_
     exact ⟨_, by omega, .v ⟨(i + 1), ⟨rfl, by omega⟩, rfl⟩ (he := t40) (hs := t19)⟩
    intro e5 qe5
    refine .sk ?_
    refine c64z ?_
    exact ⟨_, by omega, .v ⟨(i + 1), ⟨rfl, by omega⟩, rfl⟩ (he := t40) (hs := t19)⟩
   intro e4 qe4
   refine .sk ?_
   refine c58z ?_
   refine u2z ?_ ?_
   ·intro e6 qe6
    refine .c8 [1, 3, 5, 6] ?_
    have hns := (rZ (n := (p.c4.getD i s8).size) (by omega) (by omega)).2
    refine c164z ?_
    refine c211z ?_
    refine .c8 [1, 3, 5] ?_
    refine c64z ?_
    exact ⟨_, by omega, .v ⟨(i + 1), ⟨rfl, by omega⟩, rfl⟩ (he := t40) (hs := t19)⟩
   intro e6 qe6
   refine .sk ?_
   refine .c8 [1, 3, 5] ?_
   refine c64z ?_
   exact ⟨_, by omega, .v ⟨(i + 1), ⟨rfl, by omega⟩, rfl⟩ (he := t40) (hs := t19)⟩
  intro e3 qe3
  refine .exit ?_
  obtain rfl : i = p.c4.length := by omega
  change g6 ..
  refine c10z ?_
  refine .bX (fun m st => ∃ (i : Nat), (m = p.funcs.length - i ∧ i ≤ p.funcs.length) ∧ st = ⟨mkS 131 [(1, AV.ptr h.length 0 0), (3, AV.str (pS p.funcs (dG p.c4 (jH p.globals p.globals.length) p.c4.length) i)), (7, AV.int .i64 ((i : Nat) : Int))], h ++ [⟨0, false, 27, 3, [.vec p.globals.length (o9 p.globals), .vec p.c4.length (g9 p.c4), .vec p.funcs.length (n9 p.funcs)], 0⟩]⟩) (.v ⟨0, ⟨rfl, by omega⟩, rfl⟩) ?_
  rintro m sl h' ⟨i, ⟨hm, hi⟩, hst⟩
  obtain ⟨rfl, rfl⟩ := St.mk.inj hst; clear hst
  have hsz := (vV hp hmx.1 i hi).2
  have hwi := hwm i hi
  refine c0z ?_
  refine u2z ?_ ?_
  ·intro e7 qe7
   refine c5z ?_
   have hfm := j8 (d := j4) (l := p.funcs) (i := i) (by omega)
   have hfn := dT (hp.toGH.Z8 hfm)
   have hpn := hp.toGH.nQ hfm
   have hbd := hp.body i (by omega)
   have hwt := D3 (l := p.funcs) (i := i) (by omega)
   have hww := hp.wt
   have hlw := cL (p.funcs.getD i j4).body
   refine .z ?_
   refine .c8 [1, 3, 7, 8] ?_
   refine c23z ?_
   refine .gC (fun m st => ∃ (j : Nat), (m = (p.funcs.getD i j4).params.length - j ∧ j ≤ (p.funcs.getD i j4).params.length) ∧ st = ⟨mkS 131 [(1, AV.ptr h.length 0 0), (3, AV.str (eJ (p.funcs.getD i j4).params (pS p.funcs (dG p.c4 (jH p.globals p.globals.length) p.c4.length) i ++ pJ ++ (p.funcs.getD i j4).name ++ tH) j)), (7, AV.int .i64 ((i : Nat) : Int)), (8, AV.ptr (h.length + 1) 0 0), (9, AV.int .i64 ((j : Nat) : Int))], h ++ [⟨0, false, 27, 3, [.vec p.globals.length (o9 p.globals), .vec p.c4.length (g9 p.c4), .vec p.funcs.length (n9 p.funcs)], 0⟩, ⟨0, false, 106, 3, [.str (p.funcs.getD i j4).name, .vec (p.funcs.getD i j4).params.length (u3 (p.funcs.getD i j4).params), .vec (p.funcs.getD i j4).body.len (o3 (p.funcs.getD i j4).body)], 0⟩]⟩) _ (.v ⟨0, ⟨rfl, by omega⟩, rfl⟩ (hs := t26)) ?_
   rintro m sl h' ⟨j, ⟨hm, hj⟩, hst⟩
   obtain ⟨rfl, rfl⟩ := St.mk.inj hst
   have hsp := L7 (l := (p.funcs.getD i j4).params) hpn.2 (pS p.funcs (dG p.c4 (jH p.globals p.globals.length) p.c4.length) i ++ pJ ++ (p.funcs.getD i j4).name ++ tH) j hj
   have hs0 : (pS p.funcs (dG p.c4 (jH p.globals p.globals.length) p.c4.length) i ++ pJ ++ (p.funcs.getD i j4).name ++ tH).size ≤ (pS p.funcs (dG p.c4 (jH p.globals p.globals.length) p.c4.length) i).size + 30 := by simp only [z6]; have e1 : pJ.size = 5 := rfl; have e2 : tH.size = 1 := rfl; omega
   refine c0z ?_
   refine u2z ?_ ?_
   ·intro e8 qe8
    refine c5z ?_
    refine c0z ?_
    refine u2z ?_ ?_
    ·intro e9 qe9
     refine c225z ?_
     refine .c8 [1, 3, 7, 8, 9] ?_
     have hpj := dT (hpn.2 _ (j8 (d := gG) (l := (p.funcs.getD i j4).params) (i := j) (by omega)))
     refine .z ?_
     refine u2z ?_ ?_
     ·intro e10 qe10
      refine c2z ?_
      refine .c8 [1, 3, 7, 8, 9] ?_
      refine c216z ?_
      refine .rz ?_
      exact ⟨_, by omega, .v ⟨(j + 1), ⟨rfl, by omega⟩, rfl⟩ (hs := t26)⟩
     intro e10 qe10
     refine .sk ?_
     refine c216z ?_
     refine .rz ?_
     exact ⟨_, by omega, .v ⟨(j + 1), ⟨rfl, by omega⟩, rfl⟩ (hs := t26)⟩
    intro e9 qe9
    refine c119z ?_
    have hpj := dT (hpn.2 _ (j8 (d := gG) (l := (p.funcs.getD i j4).params) (i := j) (by omega)))
    refine .z ?_
    refine u2z ?_ ?_
    ·intro e11 qe11
     refine .c8 [1, 3, 7, 8, 9] ?_
     refine c2z ?_
     refine c216z ?_
     refine .rz ?_
     exact ⟨_, by omega, .v ⟨(j + 1), ⟨rfl, by omega⟩, rfl⟩ (hs := t26)⟩
    intro e11 qe11
    refine .sk ?_
    refine .c8 [1, 3, 7, 8, 9] ?_
    refine c216z ?_
    refine .rz ?_
    exact ⟨_, by omega, .v ⟨(j + 1), ⟨rfl, by omega⟩, rfl⟩ (hs := t26)⟩
   intro e8 qe8
   refine .exit ?_
   obtain rfl : j = (p.funcs.getD i j4).params.length := by omega
   change g6 ..
   have htab : fT.size = 1 := rfl
   have hbs := (iL (hp.toGH.genv hfm) (p.funcs.getD i j4).body _ fT ByteArray.empty 0 (hp.toGH.PH hfm) hbd.1 (by omega) yO Cl.nil).2
   have he0 : ByteArray.empty.size = 0 := rfl
   refine c164z ?_
   refine .ca rfl rfl (BK (hp.toGH.genv hfm) 1000 _ (by omega) (Nat.le_refl _) _ fT (CC hp.toGH hfm) hbd.1 (by omega) yO _) ?_
   refine c92z ?_
   refine .c8 [1, 3, 7] ?_
   refine .rz ?_
   exact ⟨_, by omega, .v ⟨(i + 1), ⟨rfl, by omega⟩, rfl⟩ (he := t40)⟩
  intro e7 qe7
  refine .exit ?_
  obtain rfl : i = p.funcs.length := by omega
  change g6 ..
  refine .z ?_
  exact .ret (.ex (hq := by rfl))
theorem c_valid (hp : GP p) : CB 35 [.agg [.vec p.globals.length (o9 p.globals), .vec p.c4.length (g9 p.c4), .vec p.funcs.length (n9 p.funcs)]] h (.bool true) := by
  refine .bz Tryz.f35 140 ?_
  have hgl0 := hp.gl
  have hml0 := hp.ml
  have hfl0 := hp.fl
  refine c13z ?_
  refine c27z ?_
  refine .spl 16 rfl rfl (fun e1 => by exfalso; have q := fact e1; omega) (fun e1 => ?_)
  try simp only [e1]
  have qe1 := fact e1
  refine .k 6 [(4, 16)] ?_
  refine .spl 22 rfl rfl (fun e2 => by exfalso; have q := fact e2; omega) (fun e2 => ?_)
  try simp only [e2]
  have qe2 := fact e2
  refine .m [(10, 22)] ?_
  refine uFbz ?_
  intro e3 qe3
  refine c119z ?_
  refine .c8 [1] ?_
  refine c25z ?_
  refine .gC (fun m st => ∃ (i : Nat), (m = p.globals.length - i ∧ i ≤ p.globals.length) ∧ st = ⟨mkS 140 [(1, AV.ptr h.length 0 0), (3, AV.int .i64 ((i : Nat) : Int))], h ++ [⟨0, false, 27, 3, [.vec p.globals.length (o9 p.globals), .vec p.c4.length (g9 p.c4), .vec p.funcs.length (n9 p.funcs)], 0⟩]⟩) _ (.v ⟨0, ⟨rfl, by omega⟩, rfl⟩) ?_
  rintro m sl h' ⟨i, ⟨hm, hi⟩, hst⟩
  obtain ⟨rfl, rfl⟩ := St.mk.inj hst
  refine c0z ?_
  refine u2z ?_ ?_
  ·intro e4 qe4
   refine c5z ?_
   have hgi := (hp.gn i (by omega)).2
   have hgr : qS (p.globals.getD i jY).name = false := by rw [(hp.gn i (by omega)).1]; exact BH i (by omega)
   refine c123z ?_
   refine .ca rfl rfl (kX _ (hp.toGH.Z7 (j8 (d := jY) (l := p.globals) (i := i) (by omega))) hgr) ?_
   refine .k 8 [(8, 43)] ?_
   refine .m [(8, 43)] ?_
   refine uFbz ?_
   intro e5 qe5
   refine c3z ?_
   refine .c8 [1, 3] ?_
   refine .rz ?_
   exact ⟨_, by omega, .v ⟨(i + 1), ⟨rfl, by omega⟩, rfl⟩⟩
  intro e4 qe4
  refine c8z ?_
  refine c10z ?_
  refine .bX (fun m st => ∃ (i : Nat), (m = p.c4.length - i ∧ i ≤ p.c4.length) ∧ st = ⟨mkS 140 [(1, AV.ptr h.length 0 0), (4, AV.int .i64 ((i : Nat) : Int))], h ++ [⟨0, false, 27, 3, [.vec p.globals.length (o9 p.globals), .vec p.c4.length (g9 p.c4), .vec p.funcs.length (n9 p.funcs)], 0⟩]⟩) (.v ⟨0, ⟨rfl, by omega⟩, rfl⟩) ?_
  rintro m sl h' ⟨i, ⟨hm, hi⟩, hst⟩
  obtain ⟨rfl, rfl⟩ := St.mk.inj hst; clear hst
  refine c0z ?_
  refine u2z ?_ ?_
  ·intro e6 qe6
   refine c5z ?_
   have hmi := (hp.mn i (by omega)).2
   have hmr : qS (p.c4.getD i s8).name = false := by rw [(hp.mn i (by omega)).1]; exact BI i (by omega)
   refine .z ?_
   refine .c8 [1, 4, 5] ?_
   refine c38z ?_
   refine .ca rfl rfl (kX _ (hp.toGH.HG (j8 (d := s8) (l := p.c4) (i := i) (by omega))) hmr) ?_
   refine .k 7 [(4, 68)] ?_
   refine .spl 73 rfl rfl (fun e7 => by exfalso; have q := fact e7; omega) (fun e7 => ?_)
   try simp only [e7]
   have qe7 := fact e7
   refine .k 5 [(9, 73)] ?_
   refine .spl 78 rfl rfl (fun e8 => by exfalso; have q := fact e8; omega) (fun e8 => ?_)
   try simp only [e8]
   have qe8 := fact e8
   refine .k 3 [(14, 78)] ?_
   refine .spl 81 rfl rfl (fun e9 => ?_) (fun e9 => ?_)
   ·try simp only [e9]
    have qe9 := fact e9
    refine .m [(14, 78), (17, 81)] ?_
    refine .spl 86 rfl rfl (fun e10 => by exfalso; have q := fact e10; have := hmi.2.2 (by assumption); omega) (fun e10 => ?_)
    try simp only [e10]
    have qe10 := fact e10
    refine c31z ?_
    refine .c8 [1, 4] ?_
    refine .rz ?_
    exact ⟨_, by omega, .v ⟨(i + 1), ⟨rfl, by omega⟩, rfl⟩ (he := t40)⟩
   try simp only [e9]
   have qe9 := fact e9
   refine .m [(14, 78), (17, 81)] ?_
   refine c31z ?_
   refine .c8 [1, 4] ?_
   refine .rz ?_
   exact ⟨_, by omega, .v ⟨(i + 1), ⟨rfl, by omega⟩, rfl⟩ (he := t40)⟩
  intro e6 qe6
  refine c8z ?_
  refine c10z ?_
  refine .bX (fun m st => ∃ (i : Nat), (m = p.funcs.length - i ∧ i ≤ p.funcs.length) ∧ st = ⟨mkS 140 [(1, AV.ptr h.length 0 0), (6, AV.int .i64 ((i : Nat) : Int))], h ++ [⟨0, false, 27, 3, [.vec p.globals.length (o9 p.globals), .vec p.c4.length (g9 p.c4), .vec p.funcs.length (n9 p.funcs)], 0⟩]⟩) (.v ⟨0, ⟨rfl, by omega⟩, rfl⟩) ?_
  rintro m sl h' ⟨i, ⟨hm, hi⟩, hst⟩
  obtain ⟨rfl, rfl⟩ := St.mk.inj hst; clear hst
  refine c0z ?_
  refine u2z ?_ ?_
  ·intro e11 qe11
   refine c5z ?_
   have hfm := j8 (d := j4) (l := p.funcs) (i := i) (by omega)
   have hfn := dT (hp.toGH.Z8 hfm)
   have hpn := hp.toGH.nQ hfm
   have hbd := hp.body i (by omega)
   have hwt := D3 (l := p.funcs) (i := i) (by omega)
   have hww := hp.wt
   have hlw := cL (p.funcs.getD i j4).body
   have hfr : qS (p.funcs.getD i j4).name = false := by rw [(hp.fn i (by omega)).1]; exact BJ i (by omega)
   refine c13z ?_
   refine .c8 [1, 6, 7] ?_
   refine c38z ?_
   refine .ca rfl rfl (kX _ (hp.toGH.Z8 hfm) hfr) ?_
   refine .k 8 [(4, 103)] ?_
   refine .spl 109 rfl rfl (fun e12 => by exfalso; have q := fact e12; omega) (fun e12 => ?_)
   try simp only [e12]
   have qe12 := fact e12
   refine .k 2 [(10, 109)] ?_
   refine .ca rfl rfl (c_okS (hp.toGH.genv hfm) (GHgres hp.toGH hfm) 1000 _ (by omega) (Nat.le_refl _) _ 0 (CC hp.toGH hfm) hbd.1 (by omega) (by omega) _) ?_
   refine .m [(10, 109)] ?_
   refine c18z ?_
   refine .c8 [1, 6, 7] ?_
   refine c25z ?_
   refine .gC (fun m st => ∃ (j : Nat), (m = (p.funcs.getD i j4).params.length - j ∧ j ≤ (p.funcs.getD i j4).params.length) ∧ st = ⟨mkS 140 [(1, AV.ptr h.length 0 0), (6, AV.int .i64 ((i : Nat) : Int)), (7, AV.ptr (h.length + 1) 0 0), (8, AV.int .i64 ((j : Nat) : Int))], h ++ [⟨0, false, 27, 3, [.vec p.globals.length (o9 p.globals), .vec p.c4.length (g9 p.c4), .vec p.funcs.length (n9 p.funcs)], 0⟩, ⟨0, false, 106, 3, [.str (p.funcs.getD i j4).name, .vec (p.funcs.getD i j4).params.length (u3 (p.funcs.getD i j4).params), .vec (p.funcs.getD i j4).body.len (o3 (p.funcs.getD i j4).body)], 0⟩]⟩) _ (.v ⟨0, ⟨rfl, by omega⟩, rfl⟩) ?_
   rintro m sl h' ⟨j, ⟨hm, hj⟩, hst⟩
   obtain ⟨rfl, rfl⟩ := St.mk.inj hst
   refine c0z ?_
   refine u2z ?_ ?_
   ·intro e13 qe13
    refine c5z ?_
    refine c123z ?_
    refine .ca rfl rfl (kX _ (hpn.2 _ (j8 (d := gG) (l := (p.funcs.getD i j4).params) (i := j) (by omega))) (CA hp.toGH hfm _ (j8 (d := gG) (l := (p.funcs.getD i j4).params) (i := j) (by omega)))) ?_
    refine .n ?_
    refine c31z ?_
    refine .c8 [1, 6, 7, 8] ?_
    refine .rz ?_
    exact ⟨_, by omega, .v ⟨(j + 1), ⟨rfl, by omega⟩, rfl⟩⟩
   intro e13 qe13
   refine c8z ?_
   refine .rz ?_
   exact ⟨_, by omega, .v ⟨(i + 1), ⟨rfl, by omega⟩, rfl⟩ (he := t40)⟩
  intro e11 qe11
  refine c8z ?_
  have htx := txtP_ok hp
  refine c131z ?_
  refine .ca rfl rfl (c_progT hp) ?_
  refine .e 1 ?_
  refine .ca rfl rfl (c_lexB htx.1 htx.2) ?_
  refine .n ?_
  refine .c8 [11] ?_
  refine .z ?_
  exact .ret (.ex (hq := by rfl))
end Go.Proofs.YtapdldekgbbomaaGreat
end
section
namespace Go.Proofs.YtapdldekgbbomaaGreat
open Go.Ab Go.Un
def sc1 : AV → AV
  | .bool b => .bool b
  | .int k n => .int k n
  | .str s => .str s
  | _ => .any
def sc2 : AV → AV
  | .agg cs => .agg (cs.map sc1)
  | x => sc1 x
def RV : AV → AV
  | .tup xs => .tup (xs.map sc2)
  | x => sc2 x
section
variable {h1 h2 : c7} {φ1 φ2 : Map} {w : World} {v : Value} {x : AV}
theorem CE (r : Rel h1 φ1 w v x) : Rel h2 φ2 w v (sc1 x) := by
  unfold sc1
  split
  · cases r.aI; exact .aM _
  · cases r.s9; exact .bC _ _
  · cases r.cZ; exact .mS _
  · exact .hC _
theorem CF (r : Rel h1 φ1 w v x) : Rel h2 φ2 w v (sc2 x) := by
  unfold sc2
  split
  · rename_i cs
    obtain ⟨a, rfl, ha, hc, hr⟩ := r.iG
    refine .agg a _ (by simp [ha]) hc fun j u z hu hz => ?_
    rw [List.getElem?_map] at hz
    obtain ⟨y, hy, rfl⟩ := Option.map_eq_some_iff.1 hz
    exact CE (hr j u y hu hy)
  · exact CE r
theorem CG (r : Rel h1 φ1 w v x) : Rel h2 φ2 w v (RV x) := by
  unfold RV
  split
  · rename_i xs
    obtain ⟨a, rfl, ha, hr⟩ := r.kM
    refine .tup a _ (by simp [ha]) fun j u z hu hz => ?_
    rw [List.getElem?_map] at hz
    obtain ⟨y, hy, rfl⟩ := Option.map_eq_some_iff.1 hz
    exact CF (hr j u y hu hy)
  · exact CF r
end
variable {h : c7}
theorem borrowD {f : FuncId} {args args' : List AV} {x : AV} (ha : GF 0 h args' args) (r : CallA Tryz.prog cfg f args' (bE 0 h) fun y _ => y = x) : CallA Tryz.prog cfg f args h fun y k => y = RV x ∧ k = h := by
  intro B φ w cargs i hs hr
  obtain ⟨i', _⟩ := G6 0 i
  obtain ⟨k1, k2⟩ := ha.get
  refine (r B φ w cargs i' t174 fun j v y h1 h2 => ?_).mono fun e w' hp => ?_
  · have hj : j < args.length := by rw [← k1]; exact (List.getElem?_eq_some_iff.1 h2).1
    have e1 : args'.getD j .any = y := by simp [List.getD, h2]
    have e2 : args.getD j .any = args[j] := by simp [List.getD, hj]
    rcases k2 j with h | h
    · rw [e1] at h
      rw [h]; exact .hC _
    · rw [e1, e2] at h
      exact G7 i 0 h (hr j v _ h1 (List.getElem?_eq_getElem hj))
  · obtain ⟨v, y, h', φ', rfl, h1, h2, h3, rfl⟩ := hp
    have hfree : ∀ k, k < w.heap.size → E5 (bE 0 h) φ w k := fun k hk => ⟨hk, fun β b hb hv => by
      rcases cI hb with ⟨hn, _⟩ | ⟨_, b', _, rfl⟩
      · omega
      · cases hv⟩
    have hk : ∀ k, k < w.heap.size → w'.heap[k]? = w.heap[k]? := fun k hk => (h2.jV k (hfree k hk)).1
    have ev : Ev h φ w h φ w' := ⟨h2.os, h2.tape, h2.output, h2.size, fun k hs => ⟨hk k hs.1, Nat.lt_of_lt_of_le hs.1 h2.size, hs.2⟩, fun k j hs => ⟨World.cell?_of_block (hk k hs.1), Nat.lt_of_lt_of_le hs.1 h2.size, hs.2⟩, Nat.le_refl _, fun β b b' e1 e2 => by rw [e1] at e2; cases e2; exact ⟨Nat.le_refl _, fun _ => ⟨rfl, rfl, rfl⟩⟩⟩
    refine ⟨v, _, h, φ, rfl, ⟨fun β b hb hv => ?_, i.inj, i.base, i.bN, Nat.le_trans i.room h2.size, fun g => ev.zT (i.dI g)⟩, ev, CG h3, rfl, rfl⟩
    obtain ⟨cur, q1, q2, q3, q4⟩ := i.blk β b hb hv
    exact ⟨cur, (hk _ (Array.getElem?_eq_some_iff.1 q1).1).trans q1, q2, q3, fun j v x a d => ⟨(q4 j v x a d).1, ev.rel (q4 j v x a d).2⟩⟩
variable {g n : Nat}
theorem wS {H : c7} {β : Nat} {l : List Ent} {x : BA} (hb : H[β]? = some (p6 115 3 g (j5 l))) (hn : l.length = n) (hl : l.length < 1000000) (hf : bA l x = none) : CB 37 [.own β g 0 n, .str x] H (.tup [.agg [.str ByteArray.empty, .int .i64 0, .int .i64 0], .bool false]) := by
  subst hn
  have e : LW 0 H (.own β g 0 l.length) = some (.vec l.length (j5 l)) := fK hb (Nat.zero_le _) (by rw [r6]; omega) (by omega) ((oZ l).frz _ _ _)
  have ha : GF 0 H [.vec l.length (j5 l), .str x] [.own β g 0 l.length, .str x] := And.intro (.inr e) (And.intro (.inr rfl) trivial)
  exact borrowD ha ((BQ hf hl).mono fun _ _ h => h.1)
variable {p : Go.Un.Pg}
theorem nZ : (aF p).length = p.globals.length + (p.c4.length + p.funcs.length) := by simp [aF]
variable {i : Nat}
theorem JS (h : i < (aF p).length) : (aF p).getD i iK = if i < p.globals.length then ⟨(p.globals.getD i jY).name, 1, (i : Int)⟩ else if i - p.globals.length < p.c4.length then ⟨(p.c4.getD (i - p.globals.length) s8).name, 2, ((i - p.globals.length : Nat) : Int)⟩ else ⟨(p.funcs.getD (i - p.globals.length - p.c4.length) j4).name, 3, ((i - p.globals.length - p.c4.length : Nat) : Int)⟩ := by
  rw [nZ] at h
  unfold aF
  rw [List.getD_eq_getElem?_getD]
  by_cases h1 : i < p.globals.length
  · rw [if_pos h1, List.getElem?_append_left t114]
    simp [h1]
  · rw [if_neg h1, List.getElem?_append_right (by simpa using Nat.le_of_not_lt h1)]
    simp only [List.length_map, List.length_range]
    by_cases h2 : i - p.globals.length < p.c4.length
    · rw [if_pos h2, List.getElem?_append_left t90]
      simp [h2]
    · rw [if_neg h2, List.getElem?_append_right (by simpa using Nat.le_of_not_lt h2)]
      simp only [List.length_map, List.length_range]
      have h3 : i - p.globals.length - p.c4.length < p.funcs.length := by omega
      simp [h3]
theorem CI (h : i < (aF p).length) : (aF p).getD i iK = if i < p.globals.length then ⟨(p.globals.getD i jY).name, 1, (i : Int)⟩ else if (i : Int) - p.globals.length < p.c4.length then ⟨(p.c4.getD ((i : Int) - p.globals.length).toNat s8).name, 2, (i : Int) - p.globals.length⟩ else ⟨(p.funcs.getD ((i : Int) - p.globals.length - p.c4.length).toNat j4).name, 3, (i : Int) - p.globals.length - p.c4.length⟩ := by
  rw [JS h]
  by_cases h1 : i < p.globals.length
  · rw [if_pos h1, if_pos h1]
  · rw [if_neg h1, if_neg h1, show ((i : Int) - p.globals.length).toNat = i - p.globals.length from by omega, show ((i : Int) - p.globals.length - p.c4.length).toNat = i - p.globals.length - p.c4.length from by omega]
    by_cases h2 : i - p.globals.length < p.c4.length
    · rw [if_pos h2, if_pos (by omega), show ((i - p.globals.length : Nat) : Int) = (i : Int) - p.globals.length from by omega]
    · rw [if_neg h2, if_neg (by omega), show ((i - p.globals.length - p.c4.length : Nat) : Int) = (i : Int) - p.globals.length - p.c4.length from by omega]
theorem CJ {l : List Ent} (hn : (l.map (·.name)).Nodup) (hi : i < l.length) : bA (l.take i) (l.getD i iK).name = none := by
  refine sA fun h => ?_
  obtain ⟨e, he, hx⟩ := List.mem_map.1 h
  obtain ⟨j, hj, rfl⟩ := List.mem_iff_getElem.1 he
  simp only [List.length_take] at hj
  have hjl : j < l.length := by omega
  simp only [List.getElem_take] at hx
  have e1 : l.getD i iK = l[i] := by simp [List.getD, hi]
  rw [e1] at hx
  have := (List.pairwise_iff_getElem.1 hn) j i (by simpa using hjl) (by simpa using hi) (by omega)
  simp only [List.getElem_map] at this
  exact this hx
theorem tZ (h : GP p) : ((aF p).map (·.name)).Nodup := by
  have h1 := (sC h.toGH (i := 0) (by have := h.fl; omega)).nodup sB
  rw [List.map_append] at h1
  exact (List.nodup_append.1 h1).1
theorem takeD {l : List Ent} (h : i < l.length) : l.take (i + 1) = l.take i ++ [l.getD i iK] := by
  rw [List.take_add_one]
  simp [List.getD, h]
theorem zK {l : List Ent} {x : Ent} : j5 (l ++ [x]) = j5 l ++ [.str x.name, .int .i64 x.kind, .int .i64 x.n] := by simp [j5, gS]
variable {b0 b2 b3 : Blk} {es : List Ent}
theorem app_ent {l : c7} {x : BA} {k m : Int} (hn : es.length = n) (hl : n < 100000) : j6 cfg 115 (h ++ (b0 :: p6 115 3 g (j5 es) :: b2 :: b3 :: ⟨0, false, 115, 3, [.str x, .int .i64 k, .int .i64 m], 0⟩ :: l)) (.own (h.length + 1) g 0 n) (.own (h.length + 4) 0 0 1) = some (.own (h.length + 1) (g + 1) 0 (n + 1), h ++ (b0 :: p6 115 3 (g + 1) (j5 (es ++ [⟨x, k, m⟩])) :: b2 :: b3 :: ⟨0, false, 115, 3, [.str x, .int .i64 k, .int .i64 m], 0⟩ :: l)) := by
  subst hn
  rw [w9 (C := cfg) (K := 3) (m := 1) (new := [.str x, .int .i64 k, .int .i64 m]) (zs := j5 es) t30 rfl (by omega) (by rw [r6]; omega) rfl (by omega) t139 rfl (by decide) (by omega), zK, o8]
  rfl
theorem JT {l : List Gl} (h : i < l.length) : List.take 1 (List.drop (i * 2) (o9 l)) = [.str (l.getD i jY).name] := C8 Q1 2 0 (fun _ => rfl) (by omega) jY h
theorem JU {l : List Mx} (h : i < l.length) : List.take 1 (List.drop (i * 3) (g9 l)) = [.str (l.getD i s8).name] := C8 GO 3 0 (fun _ => rfl) (by omega) s8 h
theorem JV {l : List Fu} (h : i < l.length) : List.take 1 (List.drop (i * 3) (n9 l)) = [.str (l.getD i j4).name] := C8 dF 3 0 (fun _ => rfl) (by omega) j4 h
attribute [local go_sem] rd r6 n6 aS bY aE aG eO cQ r9 aN aD n5 aU Int.natCast_nonneg Int.natCast_inj List.length_map wrap64 eT iE iF J6 yT B6 J7 pU max2 dZ cC aV Nat.reduceMul lN iU w6 gS nW jQ sO JT JU JV app_ent
theorem c_decl (hp : GP p) : CB 36 [.agg [.vec p.globals.length (o9 p.globals), .vec p.c4.length (g9 p.c4), .vec p.funcs.length (n9 p.funcs)]] h (.tup [.vec (aF p).length (j5 (aF p)), .int .i64 (-1)]) := by
  refine .bz Tryz.f36 94 ?_
  have hdl := nZ (p := p)
  have hnd := tZ hp
  have hgl := hp.gl
  have hml := hp.ml
  have hfl := hp.fl
  refine c172z ?_
  refine c57z ?_
  refine c39z ?_
  refine .seq ?_
  refine .c8 [1, 4, 5, 6] ?_
  refine c25z ?_
  refine g6.tF 4 rfl ?_
  refine .bX (fun m st => ∃ (i : Nat), (m = (aF p).length - i ∧ i ≤ (aF p).length) ∧ st = ⟨mkS 94 [(1, AV.ptr h.length 0 0), (4, AV.own (h.length + 1) i 0 i), (5, AV.int .i64 (-1)), (6, AV.int .i64 ((aF p).length : Int)), (7, AV.int .i64 ((i : Nat) : Int))], h ++ [⟨0, false, 27, 3, [.vec p.globals.length (o9 p.globals), .vec p.c4.length (g9 p.c4), .vec p.funcs.length (n9 p.funcs)], 0⟩, p6 115 3 i (j5 ((aF p).take i))]⟩) (.v ⟨0, ⟨rfl, by omega⟩, rfl⟩ (hs := t45)) ?_
  rintro m sl h' ⟨i, ⟨hm, hi⟩, hst⟩
  obtain ⟨rfl, rfl⟩ := St.mk.inj hst; clear hst
  have htl : ((aF p).take i).length = i := by simp; omega
  refine c0z ?_
  refine u2z ?_ ?_
  ·intro e1 qe1
   refine c5z ?_
   refine c13z ?_
   have hat := CI (p := p) (i := i) (by omega)
   have hfn := CJ hnd (i := i) (by omega)
   refine c25z ?_
   refine .c8 [1, 4, 5, 6, 7, 8, 9] ?_
   refine .z ?_
   refine u2z ?_ ?_
   ·intro e2 qe2
    refine c203z ?_
    refine .seq ?_
    refine .c8 [1, 4, 5, 6, 7, 8] ?_
    rw [if_pos (by omega)] at hat
    rw [hat] at hfn
    refine c207z ?_
    refine .n ?_
    refine c224z ?_
    refine c18z ?_
    refine c2z ?_
    refine .c8 [1, 4, 5, 6, 7] ?_
    refine .rz ?_
    exact ⟨_, by omega, .v ⟨(i + 1), ⟨rfl, by omega⟩, rfl⟩ (he := t95) (hk := t93) (hs := t45)⟩
   intro e2 qe2
   refine .z ?_
   refine u2z ?_ ?_
   ·intro e3 qe3
    refine .c8 [1, 4, 5, 6, 7, 8, 9] ?_
    refine c203z ?_
    refine .seq ?_
    refine .c8 [1, 4, 5, 6, 7, 8] ?_
    rw [if_neg (by omega), if_pos (by omega)] at hat
    rw [hat] at hfn
    refine c207z ?_
    refine .n ?_
    refine c224z ?_
    refine c18z ?_
    refine c2z ?_
    refine .c8 [1, 4, 5, 6, 7] ?_
    refine .rz ?_
    exact ⟨_, by omega, .v ⟨(i + 1), ⟨rfl, by omega⟩, rfl⟩ (he := t95) (hk := t93) (hs := t45)⟩
   intro e3 qe3
   refine .c8 [1, 4, 5, 6, 7, 8, 9] ?_
   refine .so u0 (mkP 17 [0, 1, 0, 0, 8, 24, 60, 127, 255, 511, 0, 0, 2048, 6144, 15360, 32767, 65535] [16]) ?_
   refine .k 8 [] ?_
   refine c42z ?_
   change g6 ..
   refine .seq ?_
   refine .c8 [1, 4, 5, 6, 7, 8] ?_
   rw [if_neg (by omega), if_neg (by omega)] at hat
   rw [hat] at hfn
   refine c207z ?_
   refine .n ?_
   refine c224z ?_
   refine c18z ?_
   refine c2z ?_
   refine .c8 [1, 4, 5, 6, 7] ?_
   refine .rz ?_
   exact ⟨_, by omega, .v ⟨(i + 1), ⟨rfl, by omega⟩, rfl⟩ (he := t95) (hk := t93) (hs := t45)⟩
  intro e1 qe1
  refine .exit ?_
  obtain rfl : i = (aF p).length := by omega
  rw [List.take_length]
  refine g6.X8 (t := 4) (γ := h.length + 1) (len := (aF p).length) t30 (by rw [r6]; omega) (by omega) (oZ _) (A8 (by decide) rfl) ?_
  rw [cV]; simp only [o8, List.set_cons_succ, List.set_cons_zero]
  change g6 ..
  refine .z ?_
  exact .ret (.ex (hq := by rfl))
def s0F (p : Go.Un.Pg) (f : Fu) : Sco := ⟨p, aF p ++ jZ f.params 0 0, (eR f.params : Int), 0, [], []⟩
def s1F (p : Go.Un.Pg) (f : Fu) : Sco := bZ (s0F p f).l (s0F p f) f.body
def s2F (p : Go.Un.Pg) (f : Fu) : Sco := n8 (s1F p f) ⟨8, 0, false, l4, bG, [], []⟩ (s1F p f).st
variable {a b c d : Blk} {s : Sco} {r : c7}
theorem JW : (h ++ (a :: b :: c :: d :: w6 (h.length + 4) s :: p6 62 12 (s).code.length (o7 (s).code) :: p6 3 1 (s).sites.length (j9 (s).sites) :: r)) = hT ⟨h ++ [a, b, c, d], r⟩ (w6 (h.length + 4) s) s.code s.sites := by simp [hT]
theorem hF_k : Frm.k ⟨h ++ [a, b, c, d], r⟩ = h.length + 4 := by simp [Frm.k]
theorem JX {E : Env} {cx : Ctx} {S : Sl} (hw : S.wt ≤ 1000) {vars : List BA} (sc : SC E cx vars s.l) (hG : GS E S vars) (bd : Bd E cx s.p) (B : Bnd s S.wt) : CH 66 [.ptr (h.length + 4) 0 0, .vec S.len (o3 S)] (h ++ (a :: b :: c :: d :: w6 (h.length + 4) s :: p6 62 12 (s).code.length (o7 (s).code) :: p6 3 1 (s).sites.length (j9 (s).sites) :: r)) (.tup []) (h ++ (a :: b :: c :: d :: w6 (h.length + 4) (bZ s.l s S) :: p6 62 12 ((bZ s.l s S)).code.length (o7 ((bZ s.l s S)).code) :: p6 3 1 ((bZ s.l s S)).sites.length (j9 ((bZ s.l s S)).sites) :: r)) := by
  have := L6 1000 S hw (Nat.le_refl _) vars s sc hG bd B ⟨h ++ [a, b, c, d], r⟩
  rw [hF_k, ← JW, ← JW] at this
  exact this
theorem c_putF (hc : s.code.length < 10000) (hs : s.sites.length < 10000) (i : Ins) (t : Int) {zs : List AV} (hz : mK (dQ i) zs) : CH 67 [.ptr (h.length + 4) 0 0, .agg zs, .int .i64 t] (h ++ (a :: b :: c :: d :: w6 (h.length + 4) s :: p6 62 12 (s).code.length (o7 (s).code) :: p6 3 1 (s).sites.length (j9 (s).sites) :: r)) (.int .i64 ((s.code.length : Nat) : Int)) (h ++ (a :: b :: c :: d :: w6 (h.length + 4) (n8 s i t) :: p6 62 12 ((n8 s i t)).code.length (o7 ((n8 s i t)).code) :: p6 3 1 ((n8 s i t)).sites.length (j9 ((n8 s i t)).sites) :: r)) := by
  have := lB (e := ⟨h ++ [a, b, c, d], r⟩) hc hs i t hz
  rw [hF_k, ← JW, ← JW] at this
  exact this
variable {b1 : Blk}
theorem app_cpF {l : c7} (hz : es.length = n) (h0 : 0 < n) (hn : n < 1000) : j6 cfg 115 (h ++ (b0 :: b1 :: b2 :: ⟨0, false, 115, 3, [], 0⟩ :: l)) (.own (h.length + 3) 0 0 0) (.vec n (j5 es)) = some (.own (h.length + 3) 1 0 n, h ++ (b0 :: b1 :: b2 :: ⟨1, false, 115, 3, j5 es, 0⟩ :: l)) := by
  subst hz
  have e1 : cfg.sz 115 = 3 := rfl
  have e2 : (cfg.ti 115).bytes = 32 := rfl
  have hm : es.length ≤ maxLen := by
    have : (1000 : Nat) ≤ maxLen := by decide
    omega
  have hb : es.length * 32 ≤ 140737488355328 := by omega
  have h1 : (j5 es).length = es.length * 3 := by rw [r6]; omega
  have h2 : ¬ es.length = 0 := by omega
  have h3 : ¬ es.length * 3 = 0 := by omega
  simp [j6, rd, lenOf, e1, e2, h1, hm, hb, s6, o8, h0, h2, h3]
variable {b4 : Blk}
theorem app_onF {b5 b6 b7 b8 : Blk} {l : c7} {x : BA} {k m : Int} (hz : es.length = n) (hn : n < 1000) : j6 cfg 115 (h ++ (b0 :: b1 :: b2 :: ⟨g, false, 115, 3, j5 es, 0⟩ :: b4 :: b5 :: b6 :: b7 :: b8 :: ⟨0, false, 115, 3, [.str x, .int .i64 k, .int .i64 m], 0⟩ :: l)) (.own (h.length + 3) g 0 n) (.own (h.length + 9) 0 0 1) = some (.own (h.length + 3) (g + 1) 0 (n + 1), h ++ (b0 :: b1 :: b2 :: ⟨g + 1, false, 115, 3, j5 (es ++ [⟨x, k, m⟩]), 0⟩ :: b4 :: b5 :: b6 :: b7 :: b8 :: ⟨0, false, 115, 3, [.str x, .int .i64 k, .int .i64 m], 0⟩ :: l)) := by
  subst hz
  have e1 : cfg.sz 115 = 3 := rfl
  have e2 : (cfg.ti 115).bytes = 32 := rfl
  have hm : es.length + 1 ≤ maxLen := by
    have : (1001 : Nat) ≤ maxLen := by decide
    omega
  have hb : (es.length + 1) * 32 ≤ 140737488355328 := by omega
  have h1 : (j5 es).length = es.length * 3 := by rw [r6]; omega
  have ht : List.take (es.length * 3) (j5 es) = j5 es := List.take_of_length_le (by omega)
  have hnl : ¬ (es.length + 1) * 3 ≤ es.length * 3 := by omega
  have hs : j5 (es ++ [⟨x, k, m⟩]) = j5 es ++ [.str x, .int .i64 k, .int .i64 m] := by simp [j5, gS]
  simp [j6, rd, lenOf, e1, e2, h1, hm, hb, ht, hnl, s6, o8, hs]
theorem oA : ∀ {l : List Pm} {x : Pm} {a b : Nat}, jZ (l ++ [x]) a b = jZ l a b ++ [if x.mu then ⟨x.name, 5, ((b + aL l : Nat) : Int)⟩ else ⟨x.name, 4, ((a + eR l : Nat) : Int)⟩]
  | [], x, a, b => by simp [jZ, aL, eR]; split <;> rfl
  | y :: l, x, a, b => by
    simp only [List.cons_append, jZ]
    cases hy : y.mu with
    | true =>
      simp only [if_true, oA (l := l), List.cons_append, aL, eR, List.filter_cons, hy, Bool.not_true, Bool.false_eq_true, if_false, List.length_cons]
      rw [show b + 1 + (l.filter fun x => x.mu).length = b + ((l.filter fun x => x.mu).length + 1) from by omega]
    | false =>
      simp only [Bool.false_eq_true, if_false, oA (l := l), List.cons_append, aL, eR, List.filter_cons, hy, Bool.not_false, if_true, List.length_cons]
      rw [show a + 1 + (l.filter fun x => !x.mu).length = a + ((l.filter fun x => !x.mu).length + 1) from by omega]
variable {l : List Pm}
theorem L9 {a b : Nat} : (jZ l a b).length = l.length := by
  have := congrArg List.length (gM l a b)
  simpa using this
theorem M0 : eR l ≤ l.length := List.length_filter_le _ _
theorem pB (h : i < l.length) : l.take (i + 1) = l.take i ++ [l.getD i gG] := by
  rw [List.take_add_one]
  simp [List.getD, h]
theorem uA {x : Pm} : eR (l ++ [x]) = eR l + (if x.mu then 0 else 1) := by
  simp only [eR, List.filter_append, List.length_append]
  cases h : x.mu <;> simp [h]
theorem sT {x : Pm} : aL (l ++ [x]) = aL l + (if x.mu then 1 else 0) := by
  simp only [aL, List.filter_append, List.length_append]
  cases h : x.mu <;> simp [h]
theorem drop_pm (hi : i < l.length) : l.drop i = l.getD i gG :: l.drop (i + 1) := by
  rw [List.drop_eq_getElem_cons hi]
  simp [List.getD, hi]
theorem findP (hp : GP p) {j : Nat} (hj : j < p.funcs.length) (hi : i < (p.funcs.getD j j4).params.length) : bA (aF p ++ jZ ((p.funcs.getD j j4).params.take i) 0 0) ((p.funcs.getD j j4).params.getD i gG).name = none := by
  have hn := (sC hp.toGH hj).nodup sB
  rw [List.map_append, gM] at hn
  have hs : ((p.funcs.getD j j4).params.map (·.name)) = (((p.funcs.getD j j4).params.take i).map (·.name)) ++ ((p.funcs.getD j j4).params.getD i gG).name :: (((p.funcs.getD j j4).params.drop (i + 1)).map (·.name)) := by
    have h1 : (p.funcs.getD j j4).params = (p.funcs.getD j j4).params.take i ++ ((p.funcs.getD j j4).params.getD i gG :: (p.funcs.getD j j4).params.drop (i + 1)) := by
      have h2 := drop_pm hi
      rw [← h2, List.take_append_drop]
    have h3 := congrArg (List.map (fun x : Pm => x.name)) h1
    rw [List.map_append, List.map_cons] at h3
    exact h3
  rw [hs, ← List.append_assoc] at hn
  refine sA fun hm => ?_
  rw [List.map_append, gM] at hm
  exact (List.nodup_append.1 hn).2.2 _ hm _ (by simp) rfl
theorem bd_of (hp : GP p) {f : Fu} : Bd (HB p f) (ctxP p f) p := ⟨rfl, rfl, rfl, fun x hx => by
  obtain ⟨g, hg, rfl⟩ := List.mem_map.1 hx
  exact (hp.toGH.nQ hg).1⟩
theorem JY (h : i < l.length) : List.take 1 (List.drop (i * 2) (u3 l)) = [.str (l.getD i gG).name] := C8 Q0 2 0 (fun _ => rfl) (by omega) gG h
section
attribute [local go_sem] app_cpF app_onF wP sP sQ wQ wR oX lP JY
theorem c_func (hp : GP p) {j : Nat} (hj : j < p.funcs.length) : CB 38 [.agg [.vec p.globals.length (o9 p.globals), .vec p.c4.length (g9 p.c4), .vec p.funcs.length (n9 p.funcs)], .vec (aF p).length (j5 (aF p)), .agg (dF (p.funcs.getD j j4))] h (.tup [.agg (rX (lZ p (p.funcs.getD j j4))), .vec (s2F p (p.funcs.getD j j4)).sites.length (j9 (s2F p (p.funcs.getD j j4)).sites), .int .i64 0, .int .i64 0]) := by
  unfold dF
  refine .bz Tryz.f38 136 ?_
  have hdl := nZ (p := p)
  have hgl := hp.gl
  have hml := hp.ml
  have hfl := hp.fl
  have hpn := (hp.toGH.nQ (j8 (d := j4) hj)).1
  have hbd := hp.body j hj
  have hwt := D3 (l := p.funcs) hj
  have hww := hp.wt
  refine .z ?_
  refine .sg u0 (mkH 7 [0, 0, 0, 6, 15, 31, 63] [1, 3, 5] [] [0, 2, 10, 42] [0]) 0 ?_
  refine .rm [true] ?_
  refine .en [true] [2, 0] [_] ?_
  refine .p 1 ?_
  refine .en [true, false] [10, 2, 0] [_] ?_
  refine .p 1 ?_
  refine .en [true, false, false] [42, 10, 2, 0] [_] ?_
  refine .p 1 ?_
  refine .po [false, true, true, true] ?_
  refine u4.nil rfl ?_
  refine .c8 [5, 6, 10] ?_
  refine g6.lY (β := h.length + 4) (k := 8) t30 rfl ?_
  simp only [List.append_assoc, List.cons_append, List.nil_append, s6, o8, List.set_cons_succ, List.set_cons_zero, List.length_append, List.length_cons, List.length_nil, Nat.reduceAdd, Nat.zero_add]
  refine g6.lY (β := h.length + 4) (k := 9) t30 rfl ?_
  simp only [List.append_assoc, List.cons_append, List.nil_append, s6, o8, List.set_cons_succ, List.set_cons_zero, List.length_append, List.length_cons, List.length_nil, Nat.reduceAdd, Nat.zero_add]
  refine c23z ?_
  refine .bX (fun m st => ∃ (i : Nat), (m = (p.funcs.getD j j4).params.length - i ∧ i ≤ (p.funcs.getD j j4).params.length) ∧ st = ⟨mkS 136 [(5, AV.ptr (h.length + 1) 0 0), (6, AV.ptr (h.length + 2) 0 0), (10, AV.ptr (h.length + 4) 0 0), (11, AV.ptr (h.length + 7) 0 0), (12, AV.int .i64 ((i : Nat) : Int))], h ++ [⟨0, false, 27, 3, [.vec p.globals.length (o9 p.globals), .vec p.c4.length (g9 p.c4), .vec p.funcs.length (n9 p.funcs)], 0⟩, ⟨0, false, 106, 3, [.str (p.funcs.getD j j4).name, .vec (p.funcs.getD j j4).params.length (u3 (p.funcs.getD j j4).params), .vec (p.funcs.getD j j4).body.len (o3 (p.funcs.getD j j4).body)], 0⟩, ⟨0, false, 65, 5, [.str ByteArray.empty, .int .i64 0, .int .i64 0, .int .i64 0, .j7], 0⟩, ⟨1 + i, false, 115, 3, j5 (aF p ++ jZ ((p.funcs.getD j j4).params.take i) 0 0), 0⟩, ⟨0, false, 157, 10, [.vec p.globals.length (o9 p.globals), .vec p.c4.length (g9 p.c4), .vec p.funcs.length (n9 p.funcs), .own (h.length + 3) (1 + i) 0 ((aF p).length + i), .int .i64 0, .int .i64 0, .int .i64 0, .int .i64 0, .own (h.length + 5) 0 0 0, .own (h.length + 6) 0 0 0], 0⟩, ⟨0, true, 0, 0, [], 0⟩, ⟨0, true, 0, 0, [], 0⟩, ⟨0, false, 65, 5, [.str (p.funcs.getD j j4).name, .int .i64 ((eR ((p.funcs.getD j j4).params.take i) : Nat) : Int), .int .i64 ((aL ((p.funcs.getD j j4).params.take i) : Nat) : Int), .int .i64 0, .j7], 0⟩]⟩) (.v ⟨0, ⟨rfl, by omega⟩, rfl⟩) ?_ (he := by (simp [jZ, eR, aL]))
  rintro m sl h' ⟨i, ⟨hm, hi⟩, hst⟩
  obtain ⟨rfl, rfl⟩ := St.mk.inj hst; clear hst
  have hLl : (aF p ++ jZ ((p.funcs.getD j j4).params.take i) 0 0).length = (aF p).length + i := by simp only [List.length_append, L9, List.length_take]; omega
  have hpl : (jZ ((p.funcs.getD j j4).params.take i) 0 0).length = i := by simp only [L9, List.length_take]; omega
  have hne : j5 (aF p ++ jZ ((p.funcs.getD j j4).params.take i) 0 0) ≠ [] := by intro h0; have := congrArg List.length h0; rw [r6] at this; simp only [List.length_nil] at this; omega
  have hni := M0 (l := (p.funcs.getD j j4).params.take i); have hnl := yQ (l := (p.funcs.getD j j4).params.take i); rw [List.length_take] at hni hnl
  refine c0z ?_
  refine u2z ?_ ?_
  ·intro e1 qe1
   refine c5z ?_
   refine .seq ?_
   have hfn := findP hp hj (i := i) (by omega)
   refine .sg u0 (mkH 17 [0, 1, 3, 7, 0, 16, 0, 112, 240, 496, 1023, 2047, 4095, 4095, 0, 24575, 65535] [10, 14, 15] [(14, 0)] [0, 1024, 16384, 17408, 50176] [0, 1, 2, 3, 4, 5, 6, 7, 8, 9, 10, 11, 12, 13]) 1 ?_
   refine u4.w8 t22 ?_
   refine .p 3 ?_
   refine c111z ?_
   refine c200z ?_
   refine .cm [true] [1024, 0] [_] rfl rfl (by simp only [iR, and_true, List.cons_append, List.nil_append]; exact wS t177 hLl (by omega) hfn) ?_
   refine .p 3 ?_
   refine .en [true, true] [17408, 16384, 1024, 0] [_, _] ?_
   refine .en [true, false, false, false] [50176, 17408, 16384, 1024, 0] [_] ?_
   refine .p 1 ?_
   refine u4.pop [false, false, true, false, true] (by kernel_rfl) (by simp only [oN, and_true, List.cons_append, List.nil_append]; exact ⟨bW.p7 rfl rfl rfl rfl hb37 (wS t177 hLl (by omega) hfn) rfl, bW.p7 rfl rfl rfl rfl hb37 (wS t177 hLl (by omega) hfn) rfl⟩) ?_
   refine c139z ?_
   refine .po [false, false, true, false, true] ?_
   refine u4.nil rfl ?_
   refine .c8 [5, 6, 10, 11, 12, 14] ?_
   refine c9z ?_
   refine .sk ?_
   refine .z ?_
   refine u2z ?_ ?_
   ·intro e2 qe2
    refine .c8 [5, 6, 10, 11, 12] ?_
    refine .sg u0 (mkH 19 [0, 0, 2, 6, 14, 0, 32, 0, 224, 480, 992, 0, 2048, 8160, 16352, 32766, 65535, 131071, 262143] [14, 15, 18] [] [0, 16384, 49152, 311296] [0, 1, 2, 3, 4]) 0 ?_
    refine .p 4 ?_
    refine c140z ?_
    refine c237z ?_
    refine .p 1 ?_
    refine .rn [true] ?_
    refine .p 1 ?_
    refine .en [true] [16384, 0] [_] ?_
    refine .en [true, false] [49152, 16384, 0] [_] ?_
    refine .p 2 ?_
    refine .en [true, false, false] [311296, 49152, 16384, 0] [_] ?_
    refine c26z ?_
    refine .c8 [5, 6, 10, 11, 12, 65] ?_
    refine c64z ?_
    have hmu : ((p.funcs.getD j j4).params.getD i gG).mu = true := by simp_all
    have hs1 : jZ ((p.funcs.getD j j4).params.take (i + 1)) 0 0 = jZ ((p.funcs.getD j j4).params.take i) 0 0 ++ [⟨((p.funcs.getD j j4).params.getD i gG).name, 5, ((aL ((p.funcs.getD j j4).params.take i) : Nat) : Int)⟩] := by rw [pB (by omega), oA, hmu]; simp
    have hs2 : eR ((p.funcs.getD j j4).params.take (i + 1)) = eR ((p.funcs.getD j j4).params.take i) + 0 := by rw [pB (by omega), uA, hmu]; rfl
    have hs3 : aL ((p.funcs.getD j j4).params.take (i + 1)) = aL ((p.funcs.getD j j4).params.take i) + 1 := by rw [pB (by omega), sT, hmu]; rfl
    exact ⟨_, by omega, .v ⟨(i + 1), ⟨rfl, by omega⟩, rfl⟩ (he := t115) (hk := t69)⟩
   intro e2 qe2
   refine .c8 [5, 6, 10, 11, 12] ?_
   refine .sg u0 (mkH 19 [0, 0, 2, 6, 14, 0, 32, 0, 224, 480, 992, 0, 2048, 8160, 16352, 32766, 65535, 131071, 262143] [14, 15, 18] [] [0, 16384, 49152, 311296] [0, 1, 2, 3, 4]) 0 ?_
   refine .p 4 ?_
   refine c140z ?_
   refine c237z ?_
   refine .p 1 ?_
   refine .rn [true] ?_
   refine .p 1 ?_
   refine .en [true] [16384, 0] [_] ?_
   refine .en [true, false] [49152, 16384, 0] [_] ?_
   refine .p 2 ?_
   refine .en [true, false, false] [311296, 49152, 16384, 0] [_] ?_
   refine c26z ?_
   refine .c8 [5, 6, 10, 11, 12] ?_
   refine c64z ?_
   have hmu : ((p.funcs.getD j j4).params.getD i gG).mu = false := by simp_all
   have hs1 : jZ ((p.funcs.getD j j4).params.take (i + 1)) 0 0 = jZ ((p.funcs.getD j j4).params.take i) 0 0 ++ [⟨((p.funcs.getD j j4).params.getD i gG).name, 4, ((eR ((p.funcs.getD j j4).params.take i) : Nat) : Int)⟩] := by rw [pB (by omega), oA, hmu]; simp
   have hs2 : eR ((p.funcs.getD j j4).params.take (i + 1)) = eR ((p.funcs.getD j j4).params.take i) + 1 := by rw [pB (by omega), uA, hmu]; rfl
   have hs3 : aL ((p.funcs.getD j j4).params.take (i + 1)) = aL ((p.funcs.getD j j4).params.take i) + 0 := by rw [pB (by omega), sT, hmu]; rfl
   exact ⟨_, by omega, .v ⟨(i + 1), ⟨rfl, by omega⟩, rfl⟩ (he := t115) (hk := t69)⟩
  intro e1 qe1
  refine .exit ?_
  obtain rfl : i = (p.funcs.getD j j4).params.length := by omega
  rw [List.take_length] at hLl hne ⊢
  rw [← hLl]
  refine g6.A5 (γ := h.length + 3) (β := h.length + 4) (k := 3) (off := 0) (len := (aF p ++ jZ (p.funcs.getD j j4).params 0 0).length) (cs := j5 (aF p ++ jZ (p.funcs.getD j j4).params 0 0)) t30 rfl (by simp only [r6]; omega) (by rw [List.drop_zero, List.take_of_length_le (by simp only [r6]; omega)]; exact (oZ _).LY) t30 (by omega) rfl ?_
  refine c19z ?_
  refine .z ?_
  refine .c8 [5, 6, 10, 11] ?_
  refine g6.w8 (h ++ [⟨0, false, 27, 3, [.vec p.globals.length (o9 p.globals), .vec p.c4.length (g9 p.c4), .vec p.funcs.length (n9 p.funcs)], 0⟩, ⟨0, false, 106, 3, [.str (p.funcs.getD j j4).name, .vec (p.funcs.getD j j4).params.length (u3 (p.funcs.getD j j4).params), .vec (p.funcs.getD j j4).body.len (o3 (p.funcs.getD j j4).body)], 0⟩, ⟨0, false, 65, 5, [.str ByteArray.empty, .int .i64 0, .int .i64 0, .int .i64 0, .j7], 0⟩, cP ⟨1 + (p.funcs.getD j j4).params.length, false, 115, 3, j5 (aF p ++ jZ (p.funcs.getD j j4).params 0 0), 0⟩ (0 + (aF p ++ jZ (p.funcs.getD j j4).params 0 0).length * 3), w6 (h.length + 4) (s0F p (p.funcs.getD j j4)), p6 62 12 (s0F p (p.funcs.getD j j4)).code.length (o7 (s0F p (p.funcs.getD j j4)).code), p6 3 1 (s0F p (p.funcs.getD j j4)).sites.length (j9 (s0F p (p.funcs.getD j j4)).sites), ⟨0, false, 65, 5, [.str (p.funcs.getD j j4).name, .int .i64 ((eR (p.funcs.getD j j4).params : Nat) : Int), .int .i64 ((aL (p.funcs.getD j j4).params : Nat) : Int), .int .i64 0, .j7], 0⟩]) (by simp only [s0F, w6, List.length_append, Nat.zero_add]; rfl) ?_
  generalize cP ⟨1 + (p.funcs.getD j j4).params.length, false, 115, 3, j5 (aF p ++ jZ (p.funcs.getD j j4).params 0 0), 0⟩ (0 + (aF p ++ jZ (p.funcs.getD j j4).params 0 0).length * 3) = Lb
  have hni2 := M0 (l := (p.funcs.getD j j4).params)
  have hB0 : Bnd (s0F p (p.funcs.getD j j4)) (p.funcs.getD j j4).body.wt := ⟨by show 0 < (aF p ++ jZ (p.funcs.getD j j4).params 0 0).length; omega, by show (aF p ++ jZ (p.funcs.getD j j4).params 0 0).length + _ ≤ _; omega, by show 0 + _ ≤ _; omega, by show 0 + _ ≤ _; omega, by show 0 ≤ ((eR (p.funcs.getD j j4).params : Nat) : Int); omega, by show ((eR (p.funcs.getD j j4).params : Nat) : Int) + _ ≤ _; omega, Int.le_refl _, by show 0 + _ ≤ _; omega⟩
  refine c20z ?_
  refine .ch rfl rfl (JX (s := (s0F p (p.funcs.getD j j4))) (by omega) (sc_of hp.toGH hj) hbd.1 (bd_of hp) hB0) ?_
  refine .nil ?_
  have hc1 := gU (l0 := (s0F p (p.funcs.getD j j4)).l) (s := (s0F p (p.funcs.getD j j4))) (S := (p.funcs.getD j j4).body)
  have hc2 := gQ (l0 := (s0F p (p.funcs.getD j j4)).l) (s := (s0F p (p.funcs.getD j j4))) (S := (p.funcs.getD j j4).body)
  change _ ≤ (s1F p (p.funcs.getD j j4)).code.length ∧ (s1F p (p.funcs.getD j j4)).code.length ≤ 0 + _ at hc1
  change _ ≤ (s1F p (p.funcs.getD j j4)).sites.length ∧ (s1F p (p.funcs.getD j j4)).sites.length ≤ 0 + _ at hc2
  refine g6.w8 (h ++ [⟨0, false, 27, 3, [.vec p.globals.length (o9 p.globals), .vec p.c4.length (g9 p.c4), .vec p.funcs.length (n9 p.funcs)], 0⟩, ⟨0, false, 106, 3, [.str (p.funcs.getD j j4).name, .vec (p.funcs.getD j j4).params.length (u3 (p.funcs.getD j j4).params), .vec (p.funcs.getD j j4).body.len (o3 (p.funcs.getD j j4).body)], 0⟩, ⟨0, false, 65, 5, [.str ByteArray.empty, .int .i64 0, .int .i64 0, .int .i64 0, .j7], 0⟩, Lb, w6 (h.length + 4) (s1F p (p.funcs.getD j j4)), p6 62 12 (s1F p (p.funcs.getD j j4)).code.length (o7 (s1F p (p.funcs.getD j j4)).code), p6 3 1 (s1F p (p.funcs.getD j j4)).sites.length (j9 (s1F p (p.funcs.getD j j4)).sites), ⟨0, false, 65, 5, [.str (p.funcs.getD j j4).name, .int .i64 ((eR (p.funcs.getD j j4).params : Nat) : Int), .int .i64 ((aL (p.funcs.getD j j4).params : Nat) : Int), .int .i64 0, .j7], 0⟩]) rfl ?_
  refine c123z ?_
  refine .ch rfl rfl (c_putF (s := (s1F p (p.funcs.getD j j4))) (by omega) (by omega) ⟨8, 0, false, l4, bG, [], []⟩ _ (by repeat' (first | exact trivial | exact mK.refl _ | exact .inl rfl | exact .inr ⟨rfl, rfl⟩ | refine ⟨?_, ?_⟩))) ?_
  refine .nil ?_
  refine .c8 [6, 10, 11] ?_
  refine g6.w8 (h ++ [⟨0, false, 27, 3, [.vec p.globals.length (o9 p.globals), .vec p.c4.length (g9 p.c4), .vec p.funcs.length (n9 p.funcs)], 0⟩, ⟨0, false, 106, 3, [.str (p.funcs.getD j j4).name, .vec (p.funcs.getD j j4).params.length (u3 (p.funcs.getD j j4).params), .vec (p.funcs.getD j j4).body.len (o3 (p.funcs.getD j j4).body)], 0⟩, ⟨0, false, 65, 5, [.str ByteArray.empty, .int .i64 0, .int .i64 0, .int .i64 0, .j7], 0⟩, Lb, w6 (h.length + 4) (s2F p (p.funcs.getD j j4)), p6 62 12 (s2F p (p.funcs.getD j j4)).code.length (o7 (s2F p (p.funcs.getD j j4)).code), p6 3 1 (s2F p (p.funcs.getD j j4)).sites.length (j9 (s2F p (p.funcs.getD j j4)).sites), ⟨0, false, 65, 5, [.str (p.funcs.getD j j4).name, .int .i64 ((eR (p.funcs.getD j j4).params : Nat) : Int), .int .i64 ((aL (p.funcs.getD j j4).params : Nat) : Int), .int .i64 0, .j7], 0⟩]) rfl ?_
  refine g6.nN (γ := h.length + 5) (β := h.length + 4) (k := 8) (len := (s2F p (p.funcs.getD j j4)).code.length) t30 (by rw [aE]; omega) (by omega) (MZ _) t30 (by omega) rfl ?_
  simp only [wP, sP, sQ, wQ, wR, oX, List.append_assoc, List.cons_append, List.nil_append, s6, o8, List.set_cons_succ, List.set_cons_zero, List.length_append, List.length_cons, List.length_nil, Nat.reduceAdd, Nat.zero_add]
  generalize gY 62 12 (s2F p (p.funcs.getD j j4)).code.length (o7 (s2F p (p.funcs.getD j j4)).code) ((s2F p (p.funcs.getD j j4)).code.length * 12) = Cb
  refine g6.nN (γ := h.length + 6) (β := h.length + 4) (k := 9) (len := (s2F p (p.funcs.getD j j4)).sites.length) t30 (by rw [n5]; omega) (by omega) (zG _) t30 (by omega) rfl ?_
  simp only [List.append_assoc, List.cons_append, List.nil_append, s6, o8, List.set_cons_succ, List.set_cons_zero, List.length_append, List.length_cons, List.length_nil, Nat.reduceAdd, Nat.zero_add]
  generalize gY 3 1 (s2F p (p.funcs.getD j j4)).sites.length (j9 (s2F p (p.funcs.getD j j4)).sites) ((s2F p (p.funcs.getD j j4)).sites.length * 1) = Sb
  refine .sg u0 (mkH 12 [0, 1, 3, 7, 0, 16, 48, 112, 15, 271, 1023, 2047] [9, 11] [] [0, 512, 2560] [4, 5, 6, 7]) 0 ?_
  refine c96z ?_
  refine .p 3 ?_
  refine c140z ?_
  refine .en [true] [512, 0] [_] ?_
  refine .p 1 ?_
  refine .en [true, false] [2560, 512, 0] [_] ?_
  refine c177z ?_
  refine .c8 [6, 10, 11] ?_
  refine .sg u0 (mkH 17 [0, 0, 2, 6, 14, 0, 32, 96, 224, 0, 512, 1536, 3584, 1, 8223, 25087, 65535] [13] [] [0, 8192] [1, 2, 3, 4, 5, 6, 7, 8, 9, 10, 11, 12]) 0 ?_
  refine .rn [true] ?_
  refine c200z ?_
  refine c200z ?_
  refine c200z ?_
  refine .en [true] [8192, 0] [_] ?_
  refine .p 3 ?_
  refine .po [true, true] ?_
  refine .po [true, true] ?_
  refine .po [true, true] ?_
  refine u4.nil rfl ?_
  exact .ret (.ex (hq := by rfl))
end
theorem plnMx (l : List Mx) : z4 (g9 l) := z4.flat fun _ => z4.cons .str (z4.cons .bool (z4.cons .int .nil))
theorem plnPr (l : List Pr) : z4 (n7 l) := z4.flat fun _ => z4.cons .str (z4.cons .int (z4.cons .int (z4.cons .int (z4.cons .vec .nil))))
theorem D4 {l : List Pr} {x : Pr} : n7 (l ++ [x]) = n7 l ++ rX x := by simp [n7]
theorem S2 {l : List Gl} (h : i < l.length) : List.take 1 (List.drop (i * 2 + 1) (o9 l)) = [.int .i64 (l.getD i jY).init] := C8 Q1 2 1 (fun _ => rfl) (by omega) jY h
theorem app_cpM {l : c7} {ms : List Mx} (hz : ms.length = n) (h0 : 0 < n) (hn : n < 1000) : j6 cfg 72 (h ++ (b0 :: b1 :: b2 :: ⟨1, false, 72, 3, [], 0⟩ :: l)) (.own (h.length + 3) 1 0 0) (.vec n (g9 ms)) = some (.own (h.length + 3) 2 0 n, h ++ (b0 :: b1 :: b2 :: ⟨2, false, 72, 3, g9 ms, 0⟩ :: l)) := by
  subst hz
  have e1 : cfg.sz 72 = 3 := rfl
  have e2 : (cfg.ti 72).bytes = 32 := rfl
  have hm : ms.length ≤ maxLen := by
    have : (1000 : Nat) ≤ maxLen := by decide
    omega
  have hb : ms.length * 32 ≤ 140737488355328 := by omega
  have h1 : (g9 ms).length = ms.length * 3 := by rw [r9]; omega
  have h2 : ¬ ms.length = 0 := by omega
  have h3 : ¬ ms.length * 3 = 0 := by omega
  simp [j6, rd, lenOf, e1, e2, h1, hm, hb, s6, o8, h0, h2, h3]
theorem app_gi {l : c7} {is : List Int} {x : Int} (hn : is.length = n) (hl : n < 100000) : j6 cfg 3 (h ++ (b0 :: b1 :: b2 :: b3 :: b4 :: p6 3 1 g (j9 is) :: ⟨0, false, 3, 1, [.int .i64 x], 0⟩ :: l)) (.own (h.length + 5) g 0 n) (.own (h.length + 6) 0 0 1) = some (.own (h.length + 5) (g + 1) 0 (n + 1), h ++ (b0 :: b1 :: b2 :: b3 :: b4 :: p6 3 1 (g + 1) (j9 (is ++ [x])) :: ⟨0, false, 3, 1, [.int .i64 x], 0⟩ :: l)) := by
  subst hn
  rw [w9 (C := cfg) (K := 1) (m := 1) (new := [.int .i64 x]) (zs := j9 is) t30 rfl (by omega) t158 rfl (by omega) t139 rfl (by decide) (by omega), ← lA, o8]
  rfl
theorem app_pr {b5 b7 : Blk} {l : c7} {ps : List Pr} {x : Pr} (hn : ps.length = n) (hl : n < 100000) : j6 cfg 65 (h ++ (b0 :: b1 :: b2 :: b3 :: b4 :: b5 :: p6 65 5 g (n7 ps) :: b7 :: ⟨0, false, 65, 5, rX x, 0⟩ :: l)) (.own (h.length + 6) g 0 n) (.own (h.length + 8) 0 0 1) = some (.own (h.length + 6) (g + 1) 0 (n + 1), h ++ (b0 :: b1 :: b2 :: b3 :: b4 :: b5 :: p6 65 5 (g + 1) (n7 (ps ++ [x])) :: b7 :: ⟨0, false, 65, 5, rX x, 0⟩ :: l)) := by
  subst hn
  rw [w9 (C := cfg) (K := 5) (m := 1) (new := rX x) (zs := n7 ps) t30 rfl (by omega) (by rw [cR, Nat.mul_comm]) rfl (by omega) (by simp [rd, s6, rX]) rfl (by decide) (by omega), ← D4, o8]
  rfl
theorem JZ {l : List Fu} (h : 0 < l.length) : List.take 1 (List.drop 1 (n9 l)) = [AV.vec (l.getD 0 j4).params.length (u3 (l.getD 0 j4).params)] := lP (i := 0) h
theorem CK (hp : GP p) : bA (aF p) ⟨#[109, 97, 105, 110]⟩ = some ⟨⟨#[109, 97, 105, 110]⟩, 3, 0⟩ := by
  have hf := hp.fl.1
  have hn : (p.funcs.getD 0 j4).name = ⟨#[109, 97, 105, 110]⟩ := (hp.fn 0 (by omega)).1
  have := oT (tZ hp) (e := ⟨(p.funcs.getD 0 j4).name, 3, ((0 : Nat) : Int)⟩) (List.mem_append.2 (.inr (List.mem_append.2 (.inr (List.mem_map.2 ⟨0, List.mem_range.2 (by omega), rfl⟩)))))
  rw [hn] at this
  exact this
theorem taken {α : Type} {l : List α} {d : α} (h : i < l.length) : l.take (i + 1) = l.take i ++ [l.getD i d] := by
  rw [List.take_add_one]
  simp [List.getD, h]
theorem CL {x : Pr} : (rX x).length = 5 := rfl
theorem takePr {x : Pr} : List.take 5 (rX x) = rX x := rfl
section
attribute [local go_sem] app_cpM app_gi app_pr lP JZ S2 rW CL takePr
theorem c_lower (hp : GP p) : CB 23 [.agg [.vec p.globals.length (o9 p.globals), .vec p.c4.length (g9 p.c4), .vec p.funcs.length (n9 p.funcs)]] h (.tup [.agg (encUn (cK p)), .int .i64 0, .int .i64 0, .int .i64 0]) := by
  refine .bz Tryz.f23 112 ?_
  have hdl := nZ (p := p)
  have hgl := hp.gl
  have hml := hp.ml
  have hfl := hp.fl
  have hmain := CK hp
  have hz0 : (p.funcs.getD 0 j4).params.length = 0 := by rw [(hp.fn 0 (by omega)).2.1 rfl]; rfl
  refine c13z ?_
  refine c131z ?_
  refine .ca rfl rfl (c_valid hp) ?_
  refine .n ?_
  refine c18z ?_
  refine c131z ?_
  refine .ca rfl rfl (c_decl hp) ?_
  refine c146z ?_
  refine .c8 [1, 2, 6, 7] ?_
  refine c9z ?_
  refine .sk ?_
  refine c131z ?_
  refine .ca rfl rfl (D0 hmain (by omega)) ?_
  refine c146z ?_
  refine .s ?_
  refine .k 8 [(2, 37)] ?_
  refine .k 8 [(7, 42)] ?_
  refine .m [(7, 42)] ?_
  refine uFbz ?_
  intro e1 qe1
  refine .sk ?_
  refine .c8 [1, 2, 6, 8, 30] ?_
  refine .sg u0 (mkH 9 [0, 1, 0, 0, 8, 28, 63, 0, 255] [2, 5, 7, 8] [(2, 0), (7, 1)] [0, 4, 36, 128, 132, 164, 420] [0, 1, 2, 3, 4, 5, 6]) 2 ?_
  refine c30z ?_
  refine .em [true] [4, 0] [_] ?_
  refine .p 1 ?_
  refine .rm [true, true] ?_
  refine .em [true, false] [36, 4, 0] [_] ?_
  refine .p 1 ?_
  refine .en [true, true, true] [164, 132, 128, 36, 4, 0] [_, _, _] ?_
  refine .en [true, false, false, false, false, false] [420, 164, 132, 128, 36, 4, 0] [_] ?_
  refine .po [false, false, true, false, false, true, false] ?_
  refine .po [false, false, true, true, false, true, true] ?_
  refine .po [false, false, false, true, false, false, true] ?_
  refine .po [false, true, true, true, true, true, true] ?_
  refine u4.nil rfl ?_
  refine .seq ?_
  refine .c8 [1, 2, 6, 10, 30] ?_
  refine c25z ?_
  refine g6.lY (β := h.length + 4) (k := 0) t30 rfl ?_
  simp only [List.append_assoc, List.cons_append, List.nil_append, s6, o8, List.set_cons_succ, List.set_cons_zero, List.length_append, List.length_cons, List.length_nil, Nat.reduceAdd, Nat.zero_add]
  refine .bX (fun m st => ∃ (i : Nat), (m = p.globals.length - i ∧ i ≤ p.globals.length) ∧ st = ⟨mkS 112 [(1, AV.ptr h.length 0 0), (2, AV.ptr (h.length + 1) 0 0), (6, AV.vec (aF p).length (j5 (aF p))), (10, AV.ptr (h.length + 4) 1 0), (11, AV.int .i64 ((i : Nat) : Int))], h ++ [⟨0, false, 27, 3, [.vec p.globals.length (o9 p.globals), .vec p.c4.length (g9 p.c4), .vec p.funcs.length (n9 p.funcs)], 0⟩, ⟨0, false, 30, 4, [.j7, .j7, .j7, .int .i64 0], 0⟩, ⟨0, false, 115, 3, [.str ⟨#[109, 97, 105, 110]⟩, .int .i64 3, .int .i64 0], 0⟩, ⟨2, false, 72, 3, g9 p.c4, 0⟩, ⟨1, false, 30, 4, [.own (h.length + 5) i 0 i, .own (h.length + 3) 2 0 p.c4.length, .j7, .int .i64 0], 0⟩, p6 3 1 i (j9 ((cK p).globals.take i))]⟩) (.v ⟨0, ⟨rfl, by omega⟩, rfl⟩) ?_
  rintro m sl h' ⟨i, ⟨hm, hi⟩, hst⟩
  obtain ⟨rfl, rfl⟩ := St.mk.inj hst; clear hst
  have htl : ((cK p).globals.take i).length = i := by simp [cK]; omega
  refine c0z ?_
  refine u2z ?_ ?_
  ·intro e2 qe2
   refine c5z ?_
   refine .og u0 (mkH 12 [0, 1, 0, 4, 0, 28, 60, 124, 252, 511, 1023, 2047] [8, 9, 11] [] [0, 256, 768, 2816] [0, 1]) 0 ?_
   refine c30z ?_
   refine .p 1 ?_
   refine c237z ?_
   refine .en [true] [256, 0] [_] ?_
   refine .en [true, false] [768, 256, 0] [_] ?_
   refine .p 1 ?_
   refine .en [true, false, false] [2816, 768, 256, 0] [_] ?_
   refine c144z ?_
   refine .c8 [1, 2, 6, 10, 11] ?_
   refine .rz ?_
   exact ⟨_, by omega, .v ⟨(i + 1), ⟨rfl, by omega⟩, rfl⟩ (he := by (rw [taken (d := 0) (l := (cK p).globals) (by simp [cK]; omega), show (cK p).globals.getD i 0 = (p.globals.getD i jY).init from getD_map (by omega)]; simp only [List.append_assoc, List.cons_append, List.nil_append]; rfl)) (hk := by exact (aB.refl _).app rfl ⟨.inl rfl, .inl rfl, .inl rfl, .inl rfl, .inr (eM.get ⟨.own _ _ _ _ (by simp), .own _ _ _ _ (by simp), .j7, .int _ _, trivial⟩), .inr t98, trivial⟩)⟩
  intro e2 qe2
  refine .exit ?_
  obtain rfl : i = p.globals.length := by omega
  change g6 ..
  refine c10z ?_
  refine g6.lY (β := h.length + 4) (k := 2) t30 rfl ?_
  simp only [List.append_assoc, List.cons_append, List.nil_append, s6, o8, List.set_cons_succ, List.set_cons_zero, List.length_append, List.length_cons, List.length_nil, Nat.reduceAdd, Nat.zero_add]
  refine .bX (fun m st => ∃ (i : Nat), (m = p.funcs.length - i ∧ i ≤ p.funcs.length) ∧ st = ⟨mkS 112 [(1, AV.ptr h.length 0 0), (2, AV.ptr (h.length + 1) 0 0), (6, AV.vec (aF p).length (j5 (aF p))), (10, AV.ptr (h.length + 4) 1 0), (12, AV.int .i64 ((i : Nat) : Int))], h ++ [⟨0, false, 27, 3, [.vec p.globals.length (o9 p.globals), .vec p.c4.length (g9 p.c4), .vec p.funcs.length (n9 p.funcs)], 0⟩, ⟨0, false, 30, 4, [.j7, .j7, .j7, .int .i64 0], 0⟩, ⟨0, false, 115, 3, [.str ⟨#[109, 97, 105, 110]⟩, .int .i64 3, .int .i64 0], 0⟩, ⟨2, false, 72, 3, g9 p.c4, 0⟩, ⟨1, false, 30, 4, [.own (h.length + 5) p.globals.length 0 p.globals.length, .own (h.length + 3) 2 0 p.c4.length, .own (h.length + 6) i 0 i, .int .i64 0], 0⟩, p6 3 1 p.globals.length (j9 ((cK p).globals.take p.globals.length)), p6 65 5 i (n7 ((cK p).procs.take i))]⟩) (.v ⟨0, ⟨rfl, by omega⟩, rfl⟩) ?_
  rintro m sl h' ⟨i, ⟨hm, hi⟩, hst⟩
  obtain ⟨rfl, rfl⟩ := St.mk.inj hst; clear hst
  have htl : ((cK p).procs.take i).length = i := by simp [cK]; omega
  refine c0z ?_
  refine u2z ?_ ?_
  ·intro e3 qe3
   refine c5z ?_
   refine .sg u0 (mkH 18 [0, 0, 0, 4, 0, 28, 60, 127, 255, 511, 511, 511, 511, 0, 9215, 26623, 61439, 131071] [13, 14] [] [0, 8192, 24576] [0, 1, 2, 3, 4, 5, 6, 7, 8, 9, 10, 11, 12]) 0 ?_
   refine .rm [true] ?_
   refine .p 2 ?_
   refine .rm [true] ?_
   refine .p 2 ?_
   refine .rm [true] ?_
   refine .cl rfl rfl (fun _ => c_func hp (by omega)) ?_
   refine .p 5 ?_
   refine .en [true] [8192, 0] [_] ?_
   refine .en [true, false] [24576, 8192, 0] [_] ?_
   refine .p 3 ?_
   refine c35z ?_
   refine c177z ?_
   refine .seq ?_
   refine .c8 [1, 2, 6, 10, 12, 13, 15, 16] ?_
   refine c9z ?_
   refine .sk ?_
   refine c2z ?_
   refine .c8 [1, 2, 6, 10, 12] ?_
   refine .rz ?_
   exact ⟨_, by omega, .v ⟨(i + 1), ⟨rfl, by omega⟩, rfl⟩ (he := by (rw [taken (d := nP) (l := (cK p).procs) (by simp [cK]; omega), show (cK p).procs.getD i nP = lZ p (p.funcs.getD i j4) from getD_map (by omega)]; simp only [List.append_assoc, List.cons_append, List.nil_append]; rfl)) (hk := by exact (aB.refl _).app rfl ⟨.inl rfl, .inl rfl, .inl rfl, .inl rfl, .inr (eM.get ⟨.own _ _ _ _ (by simp), .own _ _ _ _ (by simp), .own _ _ _ _ (by simp), .int _ _, trivial⟩), .inl rfl, .inr (by rw [p9]; exact (plnPr _).refs _), trivial⟩)⟩
  intro e3 qe3
  refine .exit ?_
  obtain rfl : i = p.funcs.length := by omega
  have hgt : (cK p).globals.take p.globals.length = (cK p).globals := List.take_of_length_le (by simp [cK])
  have hpt : (cK p).procs.take p.funcs.length = (cK p).procs := List.take_of_length_le (by simp [cK])
  rw [hgt, hpt]
  have hgl2 : (cK p).globals.length = p.globals.length := by simp [cK]
  have hpl2 : (cK p).procs.length = p.funcs.length := by simp [cK]
  refine g6.nN (γ := h.length + 5) (β := h.length + 4) (k := 0) (len := p.globals.length) t30 (by rw [n5, hgl2, Nat.mul_one]) (by omega) (zG _) t30 (by omega) rfl ?_
  simp only [List.append_assoc, List.cons_append, List.nil_append, s6, o8, List.set_cons_succ, List.set_cons_zero, List.length_append, List.length_cons, List.length_nil, Nat.reduceAdd, Nat.zero_add]
  generalize gY 3 1 p.globals.length (j9 (cK p).globals) (p.globals.length * 1) = Gb
  refine g6.nN (γ := h.length + 6) (β := h.length + 4) (k := 2) (len := p.funcs.length) t30 (by rw [cR, hpl2, Nat.mul_comm]) (by omega) (plnPr _) t30 (by omega) rfl ?_
  simp only [List.append_assoc, List.cons_append, List.nil_append, s6, o8, List.set_cons_succ, List.set_cons_zero, List.length_append, List.length_cons, List.length_nil, Nat.reduceAdd, Nat.zero_add]
  generalize gY 65 5 p.funcs.length (n7 (cK p).procs) (p.funcs.length * 5) = Pb
  refine g6.A5 (γ := h.length + 3) (β := h.length + 4) (k := 1) (off := 0) (len := p.c4.length) (cs := g9 p.c4) t30 rfl (by simp only [r9]; omega) (by rw [List.drop_zero, List.take_of_length_le (by simp only [r9]; omega)]; exact (plnMx _).LY) t30 (by omega) rfl ?_
  refine c19z ?_
  refine .c8 [2, 10] ?_
  refine .z ?_
  exact .ret (.ex (hq := by (simp only [encUn, hgl2, hpl2]; rfl)))
end
end Go.Proofs.YtapdldekgbbomaaGreat
end
section
namespace Go.Proofs.YtapdldekgbbomaaGreat
open Go.Ab Go.Un
variable {a b : List Int} {i : Nat}
theorem ne_at (h : a.getD i 0 ≠ b.getD i 0) : ¬ a = b := fun e => h (by rw [e])
theorem eq_all (hl : a.length = b.length) (h : ∀ d, d < a.length → a.getD d 0 = b.getD d 0) : a = b := by
  refine List.ext_getElem hl fun i h1 h2 => ?_
  have := h i h1
  simpa [List.getD, h1, h2] using this
theorem all_nx (h : ∀ d, d < i → a.getD d 0 = b.getD d 0) (e : a.getD i 0 = b.getD i 0) : ∀ d, d < i + 1 → a.getD d 0 = b.getD d 0 := fun d hd => by
  by_cases hdi : d = i
  · rw [hdi]; exact e
  · exact h d (by omega)
variable {l : List Int} {n : Int}
theorem no_nx (h : ∀ d, d < i → l.getD d 0 ≠ n) (e : l.getD i 0 ≠ n) : ∀ d, d < i + 1 → l.getD d 0 ≠ n := fun d hd => by
  by_cases hdi : d = i
  · rw [hdi]; exact e
  · exact h d (by omega)
theorem no_mem (h : ∀ d, d < l.length → l.getD d 0 ≠ n) : ¬ n ∈ l := fun hm => by
  obtain ⟨i, hi, rfl⟩ := bH (d := (0 : Int)) hm
  exact h i hi rfl
theorem take_I {k : Nat} : List.take k (j9 l) = j9 (l.take k) := by simp [j9, List.map_take]
theorem dropt_I {k : Nat} : List.take (l.length - k) (List.drop k (j9 l)) = j9 (l.drop k) := by
  rw [j9, ← List.map_drop, List.take_of_length_le (by simp)]; rfl
theorem kA (h : i < l.length) : List.take 1 (List.drop i (j9 l)) = [.int .i64 (l.getD i 0)] := by
  have h2 : i < (j9 l).length := by rw [n5]; exact h
  rw [List.drop_eq_getElem_cons h2]
  simp [j9, List.getD, h]
def gW (g n : Nat) : Nat := if n = 0 then g else g + 1
def kW (l : List Int) (n : Int) : Nat := (l.takeWhile fun x => decide (x < n)).length
def iN (l : List Int) (n : Int) : List Int := if n ∈ l then l else l.take (kW l n) ++ n :: l.drop (kW l n)
theorem kW_at : ∀ {k : Nat}, k ≤ l.length → (∀ d, d < k → l.getD d 0 < n) → (k < l.length → ¬ l.getD k 0 < n) → k = kW l n := by
  induction l with
  | nil => intro k hk _ _; simp at hk; subst hk; rfl
  | cons x l ih =>
    intro k hk h1 h2
    cases k with
    | zero =>
      have := h2 (by simp)
      simp only [List.getD_cons_zero] at this
      simp [kW, List.takeWhile, this]
    | succ k =>
      have h0 := h1 0 (by omega)
      simp only [List.getD_cons_zero] at h0
      have := ih (k := k) (by simpa using hk) (fun d hd => by have := h1 (d + 1) (by omega); simpa using this) (fun hl => by have := h2 (by simpa using hl); simpa using this)
      rw [kW, List.takeWhile_cons_of_pos (by simpa using h0), List.length_cons, this]
      rfl
theorem lt_nx (h : ∀ d, d < i → l.getD d 0 < n) (e : l.getD i 0 < n) : ∀ d, d < i + 1 → l.getD d 0 < n := fun d hd => by
  by_cases hdi : d = i
  · rw [hdi]; exact e
  · exact h d (by omega)
variable {h : c7} {g : Nat}
theorem app_w {l : c7} {n m : Nat} (ha : a.length = n) (hb : b.length = m) (hn : n < 150000) (hm : m < 100000) : j6 cfg 3 (h ++ (⟨g, false, 3, 1, j9 a, 0⟩ :: l)) (.own h.length g 0 n) (.vec m (j9 b)) = some (.own h.length (gW g m) 0 (n + m), h ++ (⟨gW g m, false, 3, 1, j9 (a ++ b), 0⟩ :: l)) := by
  subst ha hb
  have e1 : cfg.sz 3 = 1 := rfl
  have e2 : (cfg.ti 3).bytes = 8 := rfl
  have h1 : a.length + b.length ≤ maxLen := by
    have : (300000 : Nat) ≤ maxLen := by decide
    omega
  have h2 : (a.length + b.length) * 8 ≤ 140737488355328 := by omega
  have ht : List.take a.length (j9 a) = j9 a := List.take_of_length_le t168
  have hs : j9 (a ++ b) = j9 a ++ j9 b := by simp [j9]
  cases b with
  | nil =>
    simp only [List.length_nil, Nat.add_zero] at h1 h2
    simp [j6, rd, lenOf, e1, e2, gW, hs, j9, h1, h2]
  | cons x b =>
    simp only [List.length_cons] at h1 h2
    have h3 : ¬ a.length + (b.length + 1) ≤ a.length := by omega
    simp [j6, rd, lenOf, e1, e2, n5, h1, h2, ht, h3, gW, hs, dX, nA]
theorem app_w0 {l : c7} {m : Nat} (hb : b.length = m) (hm : m < 100000) : j6 cfg 3 (h ++ (⟨g, false, 3, 1, [], 0⟩ :: l)) (.own h.length g 0 0) (.vec m (j9 b)) = some (.own h.length (gW g m) 0 m, h ++ (⟨gW g m, false, 3, 1, j9 b, 0⟩ :: l)) := by
  have := app_w (h := h) (l := l) (a := []) (b := b) (g := g) (n := 0) rfl hb (by omega) hm
  rw [Nat.zero_add] at this
  exact this
theorem app_w1 {l : c7} {x : Int} {n : Nat} (ha : a.length = n) (hn : n < 100000) : j6 cfg 3 (h ++ (⟨g, false, 3, 1, j9 a, 0⟩ :: ⟨1, false, 3, 1, [.int .i64 x], 0⟩ :: l)) (.own h.length g 0 n) (.own (h.length + 1) 1 0 1) = some (.own h.length (g + 1) 0 (n + 1), h ++ (⟨g + 1, false, 3, 1, j9 (a ++ [x]), 0⟩ :: ⟨1, false, 3, 1, [.int .i64 x], 0⟩ :: l)) := by
  subst ha
  have e1 : cfg.sz 3 = 1 := rfl
  have e2 : (cfg.ti 3).bytes = 8 := rfl
  have h1 : a.length + 1 ≤ maxLen := by
    have : (200000 : Nat) ≤ maxLen := by decide
    omega
  have h2 : (a.length + 1) * 8 ≤ 140737488355328 := by omega
  have ht : List.take a.length (j9 a) = j9 a := List.take_of_length_le t168
  have hs : j9 (a ++ [x]) = j9 a ++ [.int .i64 x] := lA
  have h3 : ¬ a.length + 1 ≤ a.length := by omega
  simp [j6, rd, lenOf, e1, e2, n5, h1, h2, ht, h3, hs, s6, dX, nA]
theorem frz_I {n d : Nat} {H : c7} : o6 (jD n H (d + 1)) (j9 l) = some (j9 l) := (zG l).frz _ _ _
theorem S3 {n β len : Nat} {H : c7} (hb : H[β]? = some ⟨g, false, 3, 1, j9 a, 0⟩) (hn : n ≤ β) (hl : a.length = len) : gL n H 6 (.own β g 0 len) = some (.vec len (j9 a)) := by
  subst hl
  rw [bT, if_neg (by omega), dK, hb]
  simp only [hn, and_self, if_true, Bool.false_eq_true, if_false, Nat.zero_add, Nat.mul_one, n5, Nat.le_refl, List.drop_zero]
  rw [List.take_of_length_le t168, frz_I]
def fI : List v5 → v5 → Int
  | [], _ => -1
  | a :: l, x => if a = x then 0 else if fI l x < 0 then -1 else fI l x + 1
theorem fI_at : ∀ {l : List v5} {x : v5} {i : Nat}, i < l.length → (∀ d, d < i → l.getD d c6 ≠ x) → l.getD i c6 = x → fI l x = i
  | [], x, i, h, _, _ => by simp at h
  | a :: l, x, 0, _, _, h => by simp only [List.getD_cons_zero] at h; rw [fI, if_pos h]; rfl
  | a :: l, x, i + 1, hi, h1, h2 => by
    have h0 := h1 0 (by omega)
    simp only [List.getD_cons_zero] at h0
    have ih := fI_at (l := l) (x := x) (i := i) (by simpa using hi) (fun d hd => by have := h1 (d + 1) (by omega); simpa using this) (by simpa using h2)
    rw [fI, if_neg h0, ih, if_neg (by omega)]
    omega
theorem SF : ∀ {l : List v5} {x : v5}, (∀ d, d < l.length → l.getD d c6 ≠ x) → fI l x = -1
  | [], x, _ => rfl
  | a :: l, x, h => by
    have h0 := h 0 (by simp)
    simp only [List.getD_cons_zero] at h0
    have ih := SF (l := l) (x := x) (fun d hd => by have := h (d + 1) (by simpa using hd); simpa using this)
    rw [fI, if_neg h0, ih, if_pos (by omega)]
theorem M1 : ∀ {l : List v5} {x : v5}, x ∈ l → 0 ≤ fI l x ∧ fI l x < l.length ∧ l.getD (fI l x).toNat c6 = x
  | [], x, h => by simp at h
  | a :: l, x, h => by
    by_cases hx : a = x
    · rw [fI, if_pos hx]; simp [hx]
    · have ih := M1 (l := l) (x := x) (by simpa [Ne.symm hx] using h)
      rw [fI, if_neg hx, if_neg (by omega)]
      refine ⟨by omega, t56, ?_⟩
      rw [show (fI l x + 1).toNat = (fI l x).toNat + 1 from by omega]
      simpa using ih.2.2
variable {x : v5}
theorem fI_not {l : List v5} (h : x ∉ l) : fI l x = -1 := SF fun d hd e => h (e ▸ j8 hd)
theorem it_ne {l : List v5} (h : ∀ d, d < i → l.getD d c6 ≠ x) (e : l.getD i c6 ≠ x) : ∀ d, d < i + 1 → l.getD d c6 ≠ x := fun d hd => by
  by_cases hdi : d = i
  · rw [hdi]; exact e
  · exact h d (by omega)
theorem it_ne1 {l : List v5} (h : ¬ (l.getD i c6).proc = x.proc) : l.getD i c6 ≠ x := fun e => h (by rw [e])
theorem it_ne2 {l : List v5} (h : ¬ (l.getD i c6).l5 = x.l5) : l.getD i c6 ≠ x := fun e => h (by rw [e])
theorem jT {l : List v5} (h : i < l.length) : List.take 1 (List.drop (i * 2) (p4 l)) = [.int .i64 (l.getD i c6).proc] := C8 Q3 2 0 (fun _ => rfl) (by omega) c6 h
theorem M3 {l : List v5} (h : i < l.length) : List.take 1 (List.drop (i * 2 + 1) (p4 l)) = [.vec (l.getD i c6).l5.length (j9 (l.getD i c6).l5)] := C8 Q3 2 1 (fun _ => rfl) (by omega) c6 h
theorem jU {l : List v5} (h : i < l.length) : List.take 2 (List.drop (i * 2) (p4 l)) = [.int .i64 (l.getD i c6).proc, .vec (l.getD i c6).l5.length (j9 (l.getD i c6).l5)] := read_it h
variable {u : Un} {it : v5}
theorem gV (h : it.proc.toNat < u.procs.length) : List.take 1 (List.drop (it.proc.toNat * 5 + 4) (n7 u.procs)) = [.vec (c9 u it).length (o7 (c9 u it))] := C8 rX 5 4 (fun _ => rfl) (by omega) nP h
theorem oB {l : List Ins} (h : i < l.length) : List.take 1 (List.drop (i * 12) (o7 l)) = [.int .i64 (l.getD i g5).op] := by
  rw [show i * 12 = i * 12 + 0 from rfl, o7, C8 dQ 12 0 aG (by omega) g5 h, jR]; rfl
theorem KA {l : List Ins} (h : i < l.length) : List.take 1 (List.drop (i * 12 + 1) (o7 l)) = [.int .i64 (l.getD i g5).target] := by
  rw [o7, C8 dQ 12 1 aG (by omega) g5 h, jR]; rfl
theorem KB {l : List Ins} (h : i < l.length) : List.take 1 (List.drop (i * 12 + 11) (o7 l)) = [.vec (l.getD i g5).u9.length (cJ (l.getD i g5).u9)] := by
  rw [o7, C8 dQ 12 11 aG (by omega) g5 h, jR]; rfl
theorem KC {l : List Pl} (h : i < l.length) : List.take 3 (List.drop (i * 3) (cJ l)) = [.bool (l.getD i bG).param, .int .i64 (l.getD i bG).index, .vec (l.getD i bG).at'.length (l7 (l.getD i bG).at')] := read_pl h
theorem app_lk {b0 b1 b2 b3 : Blk} {l : c7} {is : List Int} {x : Int} {n : Nat} (hn : is.length = n) (hl : n < 100000) : j6 cfg 3 (h ++ (b0 :: b1 :: b2 :: b3 :: p6 3 1 g (j9 is) :: ⟨0, false, 3, 1, [.int .i64 x], 0⟩ :: l)) (.own (h.length + 4) g 0 n) (.own (h.length + 5) 0 0 1) = some (.own (h.length + 4) (g + 1) 0 (n + 1), h ++ (b0 :: b1 :: b2 :: b3 :: p6 3 1 (g + 1) (j9 (is ++ [x])) :: ⟨0, false, 3, 1, [.int .i64 x], 0⟩ :: l)) := by
  subst hn
  rw [w9 (C := cfg) (K := 1) (m := 1) (new := [.int .i64 x]) (zs := j9 is) t30 rfl (by omega) t158 rfl (by omega) t139 rfl (by decide) (by omega), ← lA, o8]
  rfl
attribute [local go_sem] rd r6 n6 aS bY aE aG eO cQ r9 aN aD n5 aU Int.natCast_nonneg Int.natCast_inj List.length_map wrap64 eT iE iF J6 yT B6 J7 pU max2 dZ cC aV Nat.reduceMul lN iU gS sO kA app_w app_w0 app_w1 Nat.sub_zero Option.bind_eq_bind take_I dropt_I jT M3 jU gV oB KA KB KC app_lk aO cR
theorem c_same (a b : List Int) (hl : a.length < 1000000) : CB 68 [.vec a.length (j9 a), .vec b.length (j9 b)] h (.bool (decide (a = b))) := by
  refine .bz Tryz.f68 26 ?_
  refine c58z ?_
  refine u2z ?_ ?_
  ·intro e1 qe1
   refine c201z ?_
   exact ⟨[], _, (List.append_nil _).symm, t46, t51⟩
  intro e1 qe1
  refine .sk ?_
  refine c10z ?_
  refine .gC (fun m st => ∃ (i : Nat), (m = a.length - i ∧ ((∀ d, d < i → a.getD d 0 = b.getD d 0) ∧ i ≤ a.length)) ∧ st = ⟨mkS 26 [(0, AV.vec a.length (j9 a)), (1, AV.vec b.length (j9 b)), (5, AV.int .i64 ((i : Nat) : Int))], h⟩) _ (.v ⟨0, ⟨rfl, ⟨t103, by omega⟩⟩, rfl⟩) ?_
  rintro m sl h' ⟨i, ⟨hm, ⟨hI, hi⟩⟩, hst⟩
  obtain ⟨rfl, rfl⟩ := St.mk.inj hst
  refine c0z ?_
  refine u2z ?_ ?_
  ·intro e2 qe2
   refine c5z ?_
   refine .ss u0 (mkP 9 [0, 0, 3, 7, 0, 0, 48, 112, 255] []) ?_
   refine c42z ?_
   refine u2z ?_ ?_
   ·intro e3 qe3
    refine c201z ?_
    exact ⟨[], _, (List.append_nil _).symm, t46, t51⟩
   intro e3 qe3
   refine c3z ?_
   refine c206z ?_
   exact ⟨_, by omega, .v ⟨(i + 1), ⟨rfl, ⟨all_nx hI (by omega), by omega⟩⟩, rfl⟩⟩
  intro e2 qe2
  refine c202z ?_
  exact ⟨[], _, (List.append_nil _).symm, t46, t51⟩
theorem NB (l : List Int) (n : Int) (hl : l.length < 1000000) : CB 69 [.vec l.length (j9 l), .int .i64 n] h (.bool (decide (n ∈ l))) := by
  refine .bz Tryz.f69 18 ?_
  refine c23z ?_
  refine .gC (fun m st => ∃ (i : Nat), (m = l.length - i ∧ ((∀ d, d < i → l.getD d 0 ≠ n) ∧ i ≤ l.length)) ∧ st = ⟨mkS 18 [(0, AV.vec l.length (j9 l)), (1, AV.int .i64 n), (5, AV.int .i64 ((i : Nat) : Int))], h⟩) _ (.v ⟨0, ⟨rfl, ⟨t103, by omega⟩⟩, rfl⟩) ?_
  rintro m sl h' ⟨i, ⟨hm, ⟨hI, hi⟩⟩, hst⟩
  obtain ⟨rfl, rfl⟩ := St.mk.inj hst
  refine c0z ?_
  refine u2z ?_ ?_
  ·intro e1 qe1
   refine c193z ?_
   refine u2z ?_ ?_
   ·intro e2 qe2
    refine c201z ?_
    exact ⟨[], _, (List.append_nil _).symm, t46, t92⟩
   intro e2 qe2
   refine c3z ?_
   refine c206z ?_
   exact ⟨_, by omega, .v ⟨(i + 1), ⟨rfl, ⟨no_nx hI (by omega), by omega⟩⟩, rfl⟩⟩
  intro e1 qe1
  refine c202z ?_
  exact ⟨[], _, (List.append_nil _).symm, t46, t92⟩
theorem c_hasY (hm : n ∈ l) (hl : l.length < 1000000) : CB 69 [.vec l.length (j9 l), .int .i64 n] h (.bool true) := by
  have := NB (h := h) l n hl
  rw [decide_eq_true hm] at this
  exact this
theorem c_hasN (hm : n ∉ l) (hl : l.length < 1000000) : CB 69 [.vec l.length (j9 l), .int .i64 n] h (.bool false) := by
  have := NB (h := h) l n hl
  rw [decide_eq_false hm] at this
  exact this
theorem c_withY (l : List Int) (n : Int) (hl : l.length < 100000) (hmem : n ∈ l) : CB 41 [.vec l.length (j9 l), .int .i64 n] h (.vec (iN l n).length (j9 (iN l n))) := by
  refine .bz Tryz.f41 36 ?_
  refine c13z ?_
  refine c38z ?_
  refine .ca rfl rfl (c_hasY hmem (by omega)) ?_
  refine .nil ?_
  refine .T ?_
  refine .z ?_
  exact .ret (.ex (hq := by (rw [iN, if_pos hmem])))
theorem c_withN (l : List Int) (n : Int) (hl : l.length < 100000) (hmem : n ∉ l) : CB 41 [.vec l.length (j9 l), .int .i64 n] h (.vec (iN l n).length (j9 (iN l n))) := by
  refine .bz Tryz.f41 36 ?_
  refine c13z ?_
  refine c38z ?_
  refine .ca rfl rfl (c_hasN hmem (by omega)) ?_
  refine .nil ?_
  refine c145z ?_
  refine .sb ?_
  refine .gC (fun m st => ∃ (i : Nat), (m = l.length - i ∧ ((∀ d, d < i → l.getD d 0 < n) ∧ i ≤ l.length)) ∧ st = ⟨mkS 36 [(0, AV.vec l.length (j9 l)), (1, AV.int .i64 n), (5, AV.int .i64 ((i : Nat) : Int))], h⟩) _ (.v ⟨0, ⟨rfl, ⟨t103, by omega⟩⟩, rfl⟩) ?_
  rintro m sl h' ⟨i, ⟨hm, ⟨hI, hi⟩⟩, hst⟩
  obtain ⟨rfl, rfl⟩ := St.mk.inj hst
  refine .seq ?_
  refine c27z ?_
  refine .spl 14 rfl rfl (fun e1 => ?_) (fun e1 => ?_)
  ·try simp only [e1]
   have qe1 := fact e1
   refine .m [(4, 14)] ?_
   refine u2z ?_ ?_
   ·intro e2 qe2
    refine c240z ?_
    refine c206z ?_
    exact ⟨_, by omega, .v ⟨(i + 1), ⟨rfl, ⟨lt_nx hI (by omega), by omega⟩⟩, rfl⟩⟩
   intro e2 qe2
   refine .exit ?_
   have hkw : i = kW l n := kW_at hi hI (by intro _; omega)
   have hdl : (l.drop i).length = l.length - i := List.length_drop
   have htl : (l.take i).length = i := by rw [List.length_take]; omega
   have hcl : (l.take i ++ [n]).length = i + 1 := by rw [List.length_append, htl]; rfl
   change g6 ..
   refine .c8 [0, 1, 5] ?_
   refine .sg u0 (mkH 13 [0, 0, 0, 6, 15, 0, 32, 127, 0, 0, 768, 2047, 4095] [0, 4, 6, 7, 11] [(0, 0), (6, 1)] [0, 1, 17, 64, 65, 81, 209, 2257] [0, 1, 2, 3, 4]) 2 ?_
   refine .em [true] [1, 0] [_] ?_
   refine .p 3 ?_
   refine .em [true, false] [17, 1, 0] [_] ?_
   refine .p 1 ?_
   refine .en [true, true, true] [81, 65, 64, 17, 1, 0] [_, _, _] ?_
   refine .en [true, false, false, false, false, false] [209, 81, 65, 64, 17, 1, 0] [_] ?_
   refine .p 3 ?_
   refine .en [true, false, false, false, false, false, false] [2257, 209, 81, 65, 64, 17, 1, 0] [_] ?_
   refine .p 1 ?_
   refine c61z ?_
   refine u4.nil rfl ?_
   refine c4z ?_
   exact ⟨_, _, rfl, S3 t166 (Nat.le_refl _) t97, t134⟩
  try simp only [e1]
  have qe1 := fact e1
  refine .m [(4, 14)] ?_
  refine .F ?_
  refine .exit ?_
  have hkw : i = kW l n := kW_at hi hI (by intro _; omega)
  have hdl : (l.drop i).length = l.length - i := List.length_drop
  have htl : (l.take i).length = i := by rw [List.length_take]; omega
  have hcl : (l.take i ++ [n]).length = i + 1 := by rw [List.length_append, htl]; rfl
  change g6 ..
  refine .c8 [0, 1, 5] ?_
  refine .sg u0 (mkH 13 [0, 0, 0, 6, 15, 0, 32, 127, 0, 0, 768, 2047, 4095] [0, 4, 6, 7, 11] [(0, 0), (6, 1)] [0, 1, 17, 64, 65, 81, 209, 2257] [0, 1, 2, 3, 4]) 2 ?_
  refine .em [true] [1, 0] [_] ?_
  refine .p 3 ?_
  refine .em [true, false] [17, 1, 0] [_] ?_
  refine .p 1 ?_
  refine .en [true, true, true] [81, 65, 64, 17, 1, 0] [_, _, _] ?_
  refine .en [true, false, false, false, false, false] [209, 81, 65, 64, 17, 1, 0] [_] ?_
  refine .p 3 ?_
  refine .en [true, false, false, false, false, false, false] [2257, 209, 81, 65, 64, 17, 1, 0] [_] ?_
  refine .p 1 ?_
  refine c61z ?_
  refine u4.nil rfl ?_
  refine c4z ?_
  exact ⟨_, _, rfl, S3 t166 (Nat.le_refl _) t97, t134⟩
theorem CM (l : List Int) (n : Int) (hl : l.length < 100000) : CB 41 [.vec l.length (j9 l), .int .i64 n] h (.vec (iN l n).length (j9 (iN l n))) := by
  by_cases hm : n ∈ l
  · exact c_withY l n hl hm
  · exact c_withN l n hl hm
theorem CN (it : v5) (p : Pl) (hp : p.param = true → 0 ≤ p.index ∧ p.index.toNat < it.l5.length) : CB 33 [.agg [.int .i64 it.proc, .vec it.l5.length (j9 it.l5)], .agg [.bool p.param, .int .i64 p.index, .vec p.at'.length (l7 p.at')]] h (.int .i64 (tR it p)) := by
  refine .bz Tryz.f33 15 ?_
  refine c58z ?_
  refine u2z ?_ ?_
  ·intro e1 qe1
   have hpp := hp (by assumption)
   refine .z ?_
   exact .ret (.ex (hq := by (unfold tR; simp_all)))
  intro e1 qe1
  refine .sk ?_
  refine .z ?_
  exact .ret (.ex (hq := by (unfold tR; simp_all)))
theorem s4 (hu : WU u) (w : WIt u it) : (c9 u it).length ≤ 1664 := by
  have := (sD hu (l := [it]) (by simp) (by simpa using w)).2
  simpa using this
variable {pc : Nat}
theorem CO (hu : WU u) (w : WIt u it) (hpc : pc < (c9 u it).length) (hc : gT ((c9 u it).getD pc g5)) : ∀ p ∈ ((c9 u it).getD pc g5).u9, p.param = true → 0 ≤ p.index ∧ p.index.toNat < it.l5.length := by
  obtain ⟨_, _, _, hh⟩ := (kT hu w).2.2 pc hpc
  intro p hp hpar
  obtain ⟨h0, ⟨_, h2⟩ | ⟨h1, _⟩⟩ := (hh hc).2.2 p hp
  · refine ⟨h0, ?_⟩
    rw [w.len]
    simp only at h2
    omega
  · rw [hpar] at h1; cases h1
theorem S4 (hu : WU u) (w : WIt u it) (hpc : pc < (c9 u it).length) (hc : gT ((c9 u it).getD pc g5)) : ((c9 u it).getD pc g5).u9.length ≤ 2 := by
  have h1 := tS hu w hpc hc
  have h2 := h1.len
  have h3 := hu.l5 (dA u it pc).proc.toNat (by have := h1.lo; have := h1.hi; omega)
  simp only [dA, List.length_map] at h2 h3
  omega
theorem CP (hu : WU u) (w : WIt u it) (hpc : pc < (c9 u it).length) (hc : ¬ gT ((c9 u it).getD pc g5)) : CB 39 [.agg [.vec u.globals.length (j9 u.globals), .vec u.c4.length (g9 u.c4), .vec u.procs.length (n7 u.procs), .int .i64 u.main], .agg [.int .i64 it.proc, .vec it.l5.length (j9 it.l5)], .int .i64 ((pc : Nat) : Int)] h (.tup [.agg [.int .i64 0, .vec 0 []], .bool false]) := by
  refine .bz Tryz.f39 75 ?_
  have w1 := w.lo
  have w2 := w.hi
  have hsz : (c9 u it).length ≤ 1664 := s4 hu w
  refine c125z ?_
  refine .c8 [2, 4, 6, 8] ?_
  refine c20z ?_
  refine .spl 20 rfl rfl (fun e1 => by exfalso; have q := fact e1; omega) (fun e1 => ?_)
  try simp only [e1]
  have qe1 := fact e1
  refine .k 6 [(2, 20)] ?_
  refine .spl 26 rfl rfl (fun e2 => by exfalso; have q := fact e2; omega) (fun e2 => ?_)
  try simp only [e2]
  have qe2 := fact e2
  refine .k 7 [(8, 26)] ?_
  refine .spl 33 rfl rfl (fun e3 => ?_) (fun e3 => by exfalso; have q := fact e3; exact hc (.inl (by omega)))
  try simp only [e3]
  have qe3 := fact e3
  refine .m [(8, 26), (15, 33)] ?_
  refine .spl 41 rfl rfl (fun e4 => ?_) (fun e4 => by exfalso; have q := fact e4; exact hc (.inr (by omega)))
  try simp only [e4]
  have qe4 := fact e4
  refine .T ?_
  refine .c8 [6] ?_
  refine .z ?_
  exact .ret (.ex (hq := by rfl))
theorem CQ (hu : WU u) (w : WIt u it) (hpc : pc < (c9 u it).length) (hc : gT ((c9 u it).getD pc g5)) : CB 39 [.agg [.vec u.globals.length (j9 u.globals), .vec u.c4.length (g9 u.c4), .vec u.procs.length (n7 u.procs), .int .i64 u.main], .agg [.int .i64 it.proc, .vec it.l5.length (j9 it.l5)], .int .i64 ((pc : Nat) : Int)] h (.tup [.agg [.int .i64 (dA u it pc).proc, .vec (dA u it pc).l5.length (j9 (dA u it pc).l5)], .bool true]) := by
  refine .bz Tryz.f39 75 ?_
  have w1 := w.lo
  have w2 := w.hi
  have hsz : (c9 u it).length ≤ 1664 := s4 hu w
  have hpl := CO hu w hpc hc
  have hpn := S4 hu w hpc hc
  refine c125z ?_
  refine .c8 [2, 4, 6, 8] ?_
  refine c20z ?_
  refine .spl 20 rfl rfl (fun e1 => by exfalso; have q := fact e1; omega) (fun e1 => ?_)
  try simp only [e1]
  have qe1 := fact e1
  refine .k 6 [(2, 20)] ?_
  refine .spl 26 rfl rfl (fun e2 => by exfalso; have q := fact e2; omega) (fun e2 => ?_)
  try simp only [e2]
  have qe2 := fact e2
  refine .k 7 [(8, 26)] ?_
  refine .spl 33 rfl rfl (fun e3 => ?_) (fun e3 => ?_)
  ·try simp only [e3]
   have qe3 := fact e3
   refine .m [(8, 26), (15, 33)] ?_
   refine .spl 41 rfl rfl (fun e4 => by exfalso; have q := fact e4; rcases hc with hc | hc <;> omega) (fun e4 => ?_)
   try simp only [e4]
   have qe4 := fact e4
   refine c18z ?_
   refine .c8 [2, 4, 6, 8] ?_
   refine c23z ?_
   refine g6.lY (β := h.length + 3) (k := 1) t30 rfl ?_
   simp only [List.append_assoc, List.cons_append, List.nil_append, s6, o8, List.set_cons_succ, List.set_cons_zero, List.length_append, List.length_cons, List.length_nil, Nat.reduceAdd, Nat.zero_add]
   refine .bX (fun m st => ∃ (q : Nat), (m = ((c9 u it).getD pc g5).u9.length - q ∧ q ≤ ((c9 u it).getD pc g5).u9.length) ∧ st = ⟨mkS 75 [(2, AV.int .i64 ((pc : Nat) : Int)), (4, AV.ptr (h.length + 1) 0 0), (6, AV.ptr (h.length + 2) 0 0), (8, AV.vec (c9 u it).length (o7 (c9 u it))), (9, AV.ptr (h.length + 3) 0 0), (10, AV.int .i64 ((q : Nat) : Int))], h ++ [⟨0, false, 30, 4, [.vec u.globals.length (j9 u.globals), .vec u.c4.length (g9 u.c4), .vec u.procs.length (n7 u.procs), .int .i64 u.main], 0⟩, ⟨0, false, 67, 2, [.int .i64 it.proc, .vec it.l5.length (j9 it.l5)], 0⟩, ⟨0, false, 67, 2, [.int .i64 0, .j7], 0⟩, ⟨0, false, 67, 2, [.int .i64 ((c9 u it).getD pc g5).target, .own (h.length + 4) q 0 q], 0⟩, p6 3 1 q (j9 ((((c9 u it).getD pc g5).u9.take q).map (tR it)))]⟩) (.v ⟨0, ⟨rfl, by omega⟩, rfl⟩) ?_
   rintro m sl h' ⟨q, ⟨hm, hq⟩, hst⟩
   obtain ⟨rfl, rfl⟩ := St.mk.inj hst; clear hst
   have htl : ((((c9 u it).getD pc g5).u9.take q).map (tR it)).length = q := by rw [List.length_map, List.length_take]; omega
   refine c0z ?_
   refine u2z ?_ ?_
   ·intro e5 qe5
    refine c5z ?_
    refine .c8 [2, 4, 6, 8, 9, 10] ?_
    refine .og u0 (mkH 16 [0, 1, 0, 0, 0, 24, 56, 120, 0, 504, 1016, 2044, 4092, 8191, 16383, 32767] [12, 13, 15] [] [0, 4096, 12288, 45056] [0, 1]) 0 ?_
    refine c30z ?_
    refine .rn [true] ?_
    refine c166z ?_
    refine c70z ?_
    refine .cl rfl rfl (fun _ => CN it (((c9 u it).getD pc g5).u9.getD q bG) (hpl _ (j8 (d := bG) (i := q) (by omega)))) ?_
    refine .en [true] [4096, 0] [_] ?_
    refine .en [true, false] [12288, 4096, 0] [_] ?_
    refine .p 1 ?_
    refine .en [true, false, false] [45056, 12288, 4096, 0] [_] ?_
    refine c144z ?_
    refine .c8 [2, 4, 6, 8, 9, 10, 67] ?_
    refine .rz ?_
    exact ⟨_, by omega, .v ⟨(q + 1), ⟨rfl, by omega⟩, rfl⟩ (he := t111) (hk := t113)⟩
   intro e5 qe5
   refine .exit ?_
   obtain rfl : q = ((c9 u it).getD pc g5).u9.length := by omega
   rw [List.take_length] at htl ⊢
   refine g6.nN (γ := h.length + 4) (β := h.length + 3) (k := 1) (len := ((c9 u it).getD pc g5).u9.length) t30 (by rw [n5, htl, Nat.mul_one]) (by omega) (zG _) t30 (by omega) rfl ?_
   refine c19z ?_
   refine .c8 [6, 9] ?_
   refine .z ?_
   exact .ret (.ex (hq := by (simp only [dA, List.length_map])))
  try simp only [e3]
  have qe3 := fact e3
  refine .m [(8, 26), (15, 33)] ?_
  refine c18z ?_
  refine .c8 [2, 4, 6, 8] ?_
  refine c23z ?_
  refine g6.lY (β := h.length + 3) (k := 1) t30 rfl ?_
  simp only [List.append_assoc, List.cons_append, List.nil_append, s6, o8, List.set_cons_succ, List.set_cons_zero, List.length_append, List.length_cons, List.length_nil, Nat.reduceAdd, Nat.zero_add]
  refine .bX (fun m st => ∃ (q : Nat), (m = ((c9 u it).getD pc g5).u9.length - q ∧ q ≤ ((c9 u it).getD pc g5).u9.length) ∧ st = ⟨mkS 75 [(2, AV.int .i64 ((pc : Nat) : Int)), (4, AV.ptr (h.length + 1) 0 0), (6, AV.ptr (h.length + 2) 0 0), (8, AV.vec (c9 u it).length (o7 (c9 u it))), (9, AV.ptr (h.length + 3) 0 0), (10, AV.int .i64 ((q : Nat) : Int))], h ++ [⟨0, false, 30, 4, [.vec u.globals.length (j9 u.globals), .vec u.c4.length (g9 u.c4), .vec u.procs.length (n7 u.procs), .int .i64 u.main], 0⟩, ⟨0, false, 67, 2, [.int .i64 it.proc, .vec it.l5.length (j9 it.l5)], 0⟩, ⟨0, false, 67, 2, [.int .i64 0, .j7], 0⟩, ⟨0, false, 67, 2, [.int .i64 ((c9 u it).getD pc g5).target, .own (h.length + 4) q 0 q], 0⟩, p6 3 1 q (j9 ((((c9 u it).getD pc g5).u9.take q).map (tR it)))]⟩) (.v ⟨0, ⟨rfl, by omega⟩, rfl⟩) ?_
  rintro m sl h' ⟨q, ⟨hm, hq⟩, hst⟩
  obtain ⟨rfl, rfl⟩ := St.mk.inj hst; clear hst
  have htl : ((((c9 u it).getD pc g5).u9.take q).map (tR it)).length = q := by rw [List.length_map, List.length_take]; omega
  refine c0z ?_
  refine u2z ?_ ?_
  ·intro e6 qe6
   refine c5z ?_
   refine .c8 [2, 4, 6, 8, 9, 10] ?_
   refine .og u0 (mkH 16 [0, 1, 0, 0, 0, 24, 56, 120, 0, 504, 1016, 2044, 4092, 8191, 16383, 32767] [12, 13, 15] [] [0, 4096, 12288, 45056] [0, 1]) 0 ?_
   refine c30z ?_
   refine .rn [true] ?_
   refine c166z ?_
   refine c70z ?_
   refine .cl rfl rfl (fun _ => CN it (((c9 u it).getD pc g5).u9.getD q bG) (hpl _ (j8 (d := bG) (i := q) (by omega)))) ?_
   refine .en [true] [4096, 0] [_] ?_
   refine .en [true, false] [12288, 4096, 0] [_] ?_
   refine .p 1 ?_
   refine .en [true, false, false] [45056, 12288, 4096, 0] [_] ?_
   refine c144z ?_
   refine .c8 [2, 4, 6, 8, 9, 10, 67] ?_
   refine .rz ?_
   exact ⟨_, by omega, .v ⟨(q + 1), ⟨rfl, by omega⟩, rfl⟩ (he := t111) (hk := t113)⟩
  intro e6 qe6
  refine .exit ?_
  obtain rfl : q = ((c9 u it).getD pc g5).u9.length := by omega
  rw [List.take_length] at htl ⊢
  refine g6.nN (γ := h.length + 4) (β := h.length + 3) (k := 1) (len := ((c9 u it).getD pc g5).u9.length) t30 (by rw [n5, htl, Nat.mul_one]) (by omega) (zG _) t30 (by omega) rfl ?_
  refine c19z ?_
  refine .c8 [6, 9] ?_
  refine .z ?_
  exact .ret (.ex (hq := by (simp only [dA, List.length_map])))
theorem c_findI (l : List v5) (x : v5) {n2 n3 : Nat} {z2 z3 : List AV} (hl : l.length < 1000000) (hk : ∀ y ∈ l, y.l5.length < 1000000) : CB 40 [.agg [.vec l.length (p4 l), .vec n2 z2, .vec n3 z3], .agg [.int .i64 x.proc, .vec x.l5.length (j9 x.l5)]] h (.int .i64 (fI l x)) := by
  refine .bz Tryz.f40 34 ?_
  refine c23z ?_
  refine .gC (fun m st => ∃ (i : Nat), (m = l.length - i ∧ ((∀ d, d < i → l.getD d c6 ≠ x) ∧ i ≤ l.length)) ∧ st = ⟨mkS 34 [(2, AV.ptr h.length 0 0), (3, AV.ptr (h.length + 1) 0 0), (5, AV.int .i64 ((i : Nat) : Int))], h ++ [⟨0, false, 34, 3, [.vec l.length (p4 l), .vec n2 z2, .vec n3 z3], 0⟩, ⟨0, false, 67, 2, [.int .i64 x.proc, .vec x.l5.length (j9 x.l5)], 0⟩]⟩) _ (.v ⟨0, ⟨rfl, ⟨t103, by omega⟩⟩, rfl⟩) ?_
  rintro m sl h' ⟨i, ⟨hm, ⟨hI, hi⟩⟩, hst⟩
  obtain ⟨rfl, rfl⟩ := St.mk.inj hst
  refine c0z ?_
  refine u2z ?_ ?_
  ·intro e1 qe1
   refine c5z ?_
   refine .ss u0 (mkP 20 [0, 1, 0, 7, 15, 31, 0, 64, 255, 511, 1023, 2047, 1023, 8191, 16383, 32767, 1023, 66559, 262143, 524287] []) ?_
   refine .k 8 [] ?_
   refine .k 2 [] ?_
   refine .spl 22 rfl rfl (fun e2 => ?_) (fun e2 => ?_)
   ·try simp only [e2]
    have qe2 := fact e2
    refine .k 8 [(9, 22)] ?_
    refine .ca rfl rfl (c_same _ _ (hk _ (j8 (by omega)))) ?_
    refine .n [] ?_
    refine u2z ?_ ?_
    ·intro e3 qe3
     refine .c8 [5] ?_
     refine .z ?_
     exact .ret (.ex (hq := t99))
    intro e3 qe3
    refine c3z ?_
    refine .c8 [2, 3, 5] ?_
    refine .rz ?_
    exact ⟨_, by omega, .v ⟨(i + 1), ⟨rfl, ⟨it_ne hI t175, by omega⟩⟩, rfl⟩⟩
   try simp only [e2]
   have qe2 := fact e2
   refine .k 8 [(9, 22)] ?_
   refine .n [(9, 22)] ?_
   refine c31z ?_
   refine .c8 [2, 3, 5] ?_
   refine .rz ?_
   exact ⟨_, by omega, .v ⟨(i + 1), ⟨rfl, ⟨it_ne hI t175, by omega⟩⟩, rfl⟩⟩
  intro e1 qe1
  refine c8z ?_
  refine c16z ?_
  exact .ret (.ex (hq := t99))
end Go.Proofs.YtapdldekgbbomaaGreat
end
section
namespace Go.Proofs.YtapdldekgbbomaaGreat
open Go.Ab Go.Un
theorem n4.cx {P : Program} {C : Cfg} {h : c7} {ops : Array Oper} {o : Oper} {rest : List Oper} {Q : St → Prop} {n d : Nat} {l : List (Nat × AV)} {c : Call} {f : FuncId} {args : List AV} {K : AV → c7 → Prop} (ho : o.op = .call c) (ht : u6 C (P8 C n l) c = some (f, args)) (hb : o5 C f = true)
    (hc : CallA P C f args h K) (hk : ∀ y h', K y h' → n4 P C ops rest ⟨mkS n ((d, y) :: l), h'⟩ Q) (hw : vM ops n l o = some true := by rfl) (hd : o.dst = some d := by rfl) : n4 P C ops (o :: rest) ⟨mkS n l, h⟩ Q :=
  n4.call (qF ▸ hw) ho (oO ▸ ht) hb (hc.mono fun y h' hq => by rw [hd]; show n4 P C ops rest ⟨(mkS n l).set d y, h'⟩ Q; rw [cV]; exact hk y h' hq)
def oC (u : Un) (L : List v5) (it : v5) (cs : List Int) (n : Nat) : Prop := ∀ j, j < n →
  (gT ((c9 u it).getD j g5) → 0 ≤ cs.getD j 0 ∧ cs.getD j 0 < L.length ∧ L.getD (cs.getD j 0).toNat c6 = dA u it j) ∧ (¬ gT ((c9 u it).getD j g5) → cs.getD j 0 = -1)
structure LI (u : Un) (L : List v5) : Prop where
  w : ∀ it ∈ L, WIt u it
  nd : L.Nodup
  z : 0 < L.length ∧ L.getD 0 c6 = ⟨0, []⟩
structure RI (L : List v5) (R : List Int) : Prop where
  p : 1 ≤ R.length
  r : ∀ x ∈ R, 0 ≤ x ∧ x < L.length
  s : R.Pairwise (· < ·)
def PI (u : Un) (L : List v5) (CS : List (List Int)) (i : Nat) : Prop := ∀ j, j < i → (CS.getD j []).length = (c9 u (L.getD j c6)).length ∧ oC u L (L.getD j c6) (CS.getD j []) (c9 u (L.getD j c6)).length
def iW (u : Un) (L : List v5) (i : Nat) : Nat := ((L.take i).map fun it => (c9 u it).length).sum
variable {i : Nat}
theorem lR {α : Type} {l m : List α} {d : α} (h : i < l.length) : (l ++ m).getD i d = l.getD i d := by
  simp [List.getD, List.getElem?_append_left h]
variable {u : Un} {L M : List v5} {it : v5} {n : Nat}
theorem oC.app {cs : List Int} (h : oC u L it cs n) : oC u (L ++ M) it cs n := fun j hj => by
  obtain ⟨h1, h2⟩ := h j hj
  refine ⟨fun hc => ?_, h2⟩
  obtain ⟨q1, q2, q3⟩ := h1 hc
  exact ⟨q1, by rw [List.length_append]; omega, by rw [lR (by omega), q3]⟩
theorem oC.set {cs : List Int} {x : Int} (h : oC u L it cs n) (hn : n < cs.length) (hx : (gT ((c9 u it).getD n g5) → 0 ≤ x ∧ x < L.length ∧ L.getD x.toNat c6 = dA u it n) ∧ (¬ gT ((c9 u it).getD n g5) → x = -1)) : oC u L it (cs.set n x) (n + 1) := fun j hj => by
  by_cases hjn : j = n
  · subst hjn
    have : (cs.set j x).getD j 0 = x := by simp [List.getD, hn]
    rw [this]; exact hx
  · have : (cs.set n x).getD j 0 = cs.getD j 0 := by simp [List.getD, List.getElem?_set_ne (Ne.symm hjn)]
    rw [this]; exact h j (by omega)
variable {x : v5}
theorem LI.snoc (h : LI u L) (hx : WIt u x) (hn : x ∉ L) : LI u (L ++ [x]) := by
  refine ⟨fun it hit => ?_, ?_, by simp, ?_⟩
  · rcases List.mem_append.1 hit with hit | hit
    · exact h.w it hit
    · replace hit := s6z hit
      subst hit; exact hx
  · rw [List.nodup_append]
    exact ⟨h.nd, by simp, fun a ha b hb => by replace hb := s6z hb; subst hb; exact fun e => hn (e ▸ ha)⟩
  · rw [lR h.z.1]; exact h.z.2
theorem LI.few (hu : WU u) (h : LI u L) : L.length ≤ 64 := (sD hu h.nd h.w).1
theorem LI.sites (hu : WU u) (h : LI u L) (i : Nat) : iW u L i ≤ 1664 := by
  have h1 := (sD hu (l := L.take i) (h.nd.sublist (List.take_sublist _ _)) (fun it hit => h.w it (List.mem_of_mem_take hit))).2
  exact h1
theorem LI.l5 (hu : WU u) (h : LI u L) : ∀ y ∈ L, y.l5.length ≤ 2 := fun y hy => by
  have w := h.w y hy
  have h1 := w.len
  have h3 := hu.l5 y.proc.toNat (by have := w.lo; have := w.hi; omega)
  omega
variable {R : List Int}
theorem RI.app (h : RI L R) : RI (L ++ M) R := ⟨h.p, fun x hx => by have := h.r x hx; rw [List.length_append]; omega, h.s⟩
variable {l : List Int}
theorem CR {n x : Int} : x ∈ iN l n ↔ x ∈ l ∨ x = n := by
  unfold iN
  split
  · rename_i h
    constructor
    · exact .inl
    · rintro (h1 | rfl)
      · exact h1
      · exact h
  · rw [List.mem_append, List.mem_cons]
    constructor
    · rintro (h | h | h)
      · exact .inl (List.mem_of_mem_take h)
      · exact .inr h
      · exact .inl (List.mem_of_mem_drop h)
    · rintro (h | h)
      · rw [← List.take_append_drop (kW l n) l, List.mem_append] at h
        rcases h with h | h
        · exact .inl h
        · exact .inr (.inr h)
      · exact .inr (.inl h)
theorem take_kW {n : Int} : l.take (kW l n) = l.takeWhile fun x => decide (x < n) := by
  conv => lhs; rw [← List.takeWhile_append_dropWhile (p := fun x => decide (x < n)) (l := l)]
  rw [List.take_append_of_le_length (by simp [kW])]
  exact List.take_of_length_le (by simp [kW])
theorem drop_kW {n : Int} : l.drop (kW l n) = l.dropWhile fun x => decide (x < n) := by
  conv => lhs; rw [← List.takeWhile_append_dropWhile (p := fun x => decide (x < n)) (l := l)]
  rw [List.drop_append_of_le_length (by simp [kW])]
  rw [List.drop_of_length_le (by simp [kW]), List.nil_append]
theorem pM : ∀ {l : List Int} {n : Int}, l.Pairwise (· < ·) → n ∉ l → (l.takeWhile (fun x => decide (x < n)) ++ n :: l.dropWhile (fun x => decide (x < n))).Pairwise (· < ·)
  | [], n, _, _ => by simp
  | x :: l, n, h, hn => by
    rw [List.pairwise_cons] at h
    by_cases hx : x < n
    · have ih := pM (l := l) (n := n) h.2 (fun hm => hn (List.mem_cons_of_mem _ hm))
      rw [List.takeWhile_cons_of_pos t171, List.dropWhile_cons_of_pos t171, List.cons_append, List.pairwise_cons]
      refine ⟨fun y hy => ?_, ih⟩
      rcases List.mem_append.1 hy with hy | hy
      · exact h.1 y ((List.takeWhile_sublist _).subset hy)
      · rcases List.mem_cons.1 hy with rfl | hy
        · exact hx
        · exact h.1 y ((List.dropWhile_sublist _).subset hy)
    · have hne : n ≠ x := fun e => hn (by rw [e]; simp)
      rw [List.takeWhile_cons_of_neg t171, List.dropWhile_cons_of_neg t171, List.nil_append, List.pairwise_cons]
      refine ⟨fun y hy => ?_, List.pairwise_cons.2 h⟩
      rcases List.mem_cons.1 hy with rfl | hy
      · omega
      · have := h.1 y hy; omega
theorem RI.with (h : RI L R) {n : Int} (hn : 0 ≤ n ∧ n < L.length) : RI L (iN R n) := by
  refine ⟨?_, fun x hx => ?_, ?_⟩
  · unfold iN
    split
    · exact h.p
    · simp only [List.length_append, List.length_cons]; omega
  · rcases CR.1 hx with hx | rfl
    · exact h.r x hx
    · exact hn
  · unfold iN
    split
    · exact h.s
    · rename_i hm
      rw [take_kW, drop_kW]
      exact pM h.s hm
theorem uB : ∀ {R : List Int} {a b : Int}, R.Pairwise (· < ·) → (∀ x ∈ R, a ≤ x ∧ x < b) → R.length ≤ (b - a).toNat
  | [], a, b, _, _ => by simp
  | x :: R, a, b, h, hr => by
    rw [List.pairwise_cons] at h
    have h0 := hr x (by simp)
    have ih := uB (R := R) (a := x + 1) (b := b) h.2 (fun y hy => ⟨by have := h.1 y hy; omega, (hr y (by simp [hy])).2⟩)
    simp only [List.length_cons]
    omega
theorem RI.len (hu : WU u) (hl : LI u L) (h : RI L R) : R.length ≤ 64 := by
  have h1 := uB h.s (a := 0) (b := (L.length : Int)) h.r
  have h2 := hl.few hu
  omega
theorem S5 (h : i < L.length) : iW u L (i + 1) = iW u L i + (c9 u (L.getD i c6)).length := by
  unfold iW
  rw [taken (d := c6) h]
  simp
variable {CS : List (List Int)}
theorem PI.step {v : List Int} (h : PI u L CS i) (hc : CS.length = i) (hi : i < L.length) (hv : v.length = (c9 u (L.getD i c6)).length) (hok : oC u (L ++ M) (L.getD i c6) v (c9 u (L.getD i c6)).length) : PI u (L ++ M) (CS ++ [v]) (i + 1) := fun j hj => by
  by_cases hji : j = i
  · subst hji
    have e1 : (CS ++ [v]).getD j [] = v := by subst hc; simp [List.getD]
    rw [e1, lR hi]
    exact ⟨hv, hok⟩
  · have e1 : (CS ++ [v]).getD j [] = CS.getD j [] := lR (by omega)
    obtain ⟨h1, h2⟩ := h j (by omega)
    rw [e1, lR (by omega)]
    exact ⟨h1, h2.app⟩
theorem D5 {l : List (List Int)} {x : List Int} : s3 (l ++ [x]) = s3 l ++ [.vec x.length (j9 x)] := by simp [s3]
theorem D6 {l : List v5} : p4 (l ++ [x]) = p4 l ++ [.int .i64 x.proc, .vec x.l5.length (j9 x.l5)] := by simp [p4, Q3]
theorem KD (l : List (List Int)) : z4 (s3 l) := z4.map fun _ => .vec
theorem KE (l : List v5) : z4 (p4 l) := z4.flat fun _ => z4.cons .int (z4.cons .vec .nil)
variable {h : c7} {g : Nat}
theorem app_its {b0 b1 b3 b4 b5 b6 b7 : Blk} {l : c7} (hz : L.length = n) (hn : n < 1000) : j6 cfg 67 (h ++ (b0 :: b1 :: ⟨g, false, 67, 2, p4 L, 0⟩ :: b3 :: b4 :: b5 :: b6 :: b7 :: ⟨0, false, 67, 2, [.int .i64 x.proc, .vec x.l5.length (j9 x.l5)], 0⟩ :: l)) (.own (h.length + 2) g 0 n) (.own (h.length + 8) 0 0 1) = some (.own (h.length + 2) (g + 1) 0 (n + 1), h ++ (b0 :: b1 :: ⟨g + 1, false, 67, 2, p4 (L ++ [x]), 0⟩ :: b3 :: b4 :: b5 :: b6 :: b7 :: ⟨0, false, 67, 2, [.int .i64 x.proc, .vec x.l5.length (j9 x.l5)], 0⟩ :: l)) := by
  subst hz
  have e1 : cfg.sz 67 = 2 := rfl
  have e2 : (cfg.ti 67).bytes = 32 := rfl
  have hm : L.length + 1 ≤ maxLen := by
    have : (1001 : Nat) ≤ maxLen := by decide
    omega
  have hb : (L.length + 1) * 32 ≤ 140737488355328 := by omega
  have h1 : (p4 L).length = L.length * 2 := by rw [aO]; omega
  have ht : List.take (L.length * 2) (p4 L) = p4 L := List.take_of_length_le (by omega)
  have hnl : ¬ (L.length + 1) * 2 ≤ L.length * 2 := by omega
  simp [j6, rd, lenOf, e1, e2, h1, hm, hb, ht, hnl, s6, o8, D6]
theorem app_cs {b0 b1 b2 b3 b4 b6 : Blk} {l : c7} {x : List Int} {m : Nat} (hn : CS.length = n) (hx : x.length = m) (hl : n < 100000) : j6 cfg 22 (h ++ (b0 :: b1 :: b2 :: b3 :: b4 :: p6 22 1 g (s3 CS) :: b6 :: ⟨0, false, 22, 1, [.vec m (j9 x)], 0⟩ :: l)) (.own (h.length + 5) g 0 n) (.own (h.length + 7) 0 0 1) = some (.own (h.length + 5) (g + 1) 0 (n + 1), h ++ (b0 :: b1 :: b2 :: b3 :: b4 :: p6 22 1 (g + 1) (s3 (CS ++ [x])) :: b6 :: ⟨0, false, 22, 1, [.vec m (j9 x)], 0⟩ :: l)) := by
  subst hn hx
  rw [w9 (C := cfg) (K := 1) (m := 1) (new := [.vec x.length (j9 x)]) (zs := s3 CS) t30 rfl (by omega) (by simp [s3]) rfl (by omega) t139 rfl (by decide) (by omega), ← D5, o8]
  rfl
theorem CT : ∀ {v : List Int} {i : Nat} {x : Int}, i < v.length → List.take i (j9 v) ++ AV.int .i64 x :: List.drop (i + 1) (j9 v) = j9 (v.set i x)
  | y :: v, 0, x, _ => rfl
  | y :: v, i + 1, x, h => by
    have ih := CT (v := v) (i := i) (x := x) (by simpa using h)
    simp only [j9, List.map_cons, List.set_cons_succ, List.take_succ_cons, List.drop_succ_cons, List.cons_append] at ih ⊢
    rw [ih]
theorem zeros_I : (List.replicate n [AV.int .i64 0]).flatten = j9 (List.replicate n 0) := by
  induction n with
  | zero => rfl
  | succ n ih => rw [List.replicate_succ, List.flatten_cons, ih]; simp [j9, List.replicate_succ]
theorem frz_its {d : Nat} {H : c7} {l : List v5} : o6 (jD n H (d + 1)) (p4 l) = some (p4 l) := (KE l).frz _ _ _
theorem D7 {H : c7} {β γ n1 n2 n3 : Nat} {z3 : List AV} (hb : H[β]? = some ⟨g, false, 67, 2, p4 L, 0⟩) (hc : H[γ]? = some (p6 22 1 i (s3 CS))) (h1 : L.length = n1) (h2 : CS.length = n2) (hl : L.length < 1000000) (hk : ∀ y ∈ L, y.l5.length < 1000000) : CB 40 [.agg [.own β g 0 n1, .own γ i 0 n2, .vec n3 z3], .agg [.int .i64 x.proc, .vec x.l5.length (j9 x.l5)]] H (.int .i64 (fI L x)) := by
  subst h1 h2
  have e1 : jD 0 H 6 (.own β g 0 L.length) = some (.vec L.length (p4 L)) := by
    rw [dK, hb]
    simp only [Nat.zero_le, and_self, if_true, Bool.false_eq_true, if_false, Nat.zero_add]
    rw [if_pos (by rw [aO]; omega), List.drop_zero, List.take_of_length_le (by rw [aO]; omega), frz_its]
  have e2 : jD 0 H 6 (.own γ i 0 CS.length) = some (.vec CS.length (s3 CS)) := fK hc (Nat.zero_le _) (by simp [s3]) (by omega) ((KD CS).frz _ _ _)
  have e : LW 0 H (.agg [.own β g 0 L.length, .own γ i 0 CS.length, .vec n3 z3]) = some (.agg [.vec L.length (p4 L), .vec CS.length (s3 CS), .vec n3 z3]) := by
    simp only [LW, o6, e1, e2, lL, Option.map_some]
  have ha : GF 0 H [.agg [.vec L.length (p4 L), .vec CS.length (s3 CS), .vec n3 z3], .agg [.int .i64 x.proc, .vec x.l5.length (j9 x.l5)]] [.agg [.own β g 0 L.length, .own γ i 0 CS.length, .vec n3 z3], .agg [.int .i64 x.proc, .vec x.l5.length (j9 x.l5)]] := And.intro (.inr e) (And.intro (.inr rfl) trivial)
  exact CallA.borrow ha ((c_findI L x hl hk).mono fun _ _ h => h.1)
theorem lS {l : List (List Int)} : (s3 l).length = l.length := by simp [s3]
variable {pc : Nat}
theorem S6 (hu : WU u) (w : WIt u it) (hpc : pc < (c9 u it).length) (hc : gT ((c9 u it).getD pc g5)) {y : v5} (hy : dA u it pc = y) : CB 39 [.agg [.vec u.globals.length (j9 u.globals), .vec u.c4.length (g9 u.c4), .vec u.procs.length (n7 u.procs), .int .i64 u.main], .agg [.int .i64 it.proc, .vec it.l5.length (j9 it.l5)], .int .i64 ((pc : Nat) : Int)] h (.tup [.agg [.int .i64 y.proc, .vec y.l5.length (j9 y.l5)], .bool true]) := by
  subst hy; exact CQ hu w hpc hc
theorem S7 (hu : WU u) (w : WIt u (L.getD i c6)) (hi : L.getD i c6 = it) (hpc : pc < (c9 u it).length) (hc : gT ((c9 u it).getD pc g5)) {y : v5} (hy : dA u it pc = y) : CB 39 [.agg [.vec u.globals.length (j9 u.globals), .vec u.c4.length (g9 u.c4), .vec u.procs.length (n7 u.procs), .int .i64 u.main], .agg [.int .i64 (L.getD i c6).proc, .vec (L.getD i c6).l5.length (j9 (L.getD i c6).l5)], .int .i64 ((pc : Nat) : Int)] h (.tup [.agg [.int .i64 y.proc, .vec y.l5.length (j9 y.l5)], .bool true]) := by
  subst hi; exact S6 hu w hpc hc hy
theorem S8 (hu : WU u) (w : WIt u (L.getD i c6)) (hi : L.getD i c6 = it) (hpc : pc < (c9 u it).length) (hc : ¬ gT ((c9 u it).getD pc g5)) : CB 39 [.agg [.vec u.globals.length (j9 u.globals), .vec u.c4.length (g9 u.c4), .vec u.procs.length (n7 u.procs), .int .i64 u.main], .agg [.int .i64 (L.getD i c6).proc, .vec (L.getD i c6).l5.length (j9 (L.getD i c6).l5)], .int .i64 ((pc : Nat) : Int)] h (.tup [.agg [.int .i64 0, .vec 0 []], .bool false]) := by
  subst hi; exact CP hu w hpc hc
theorem mx2000 : (2000 : Nat) ≤ maxLen := by decide
theorem wT {v : List Int} {i : Nat} {x : Int} (h : i < v.length) : (v.set i x).getD i 0 = x := by simp [List.getD, h]
theorem KF {v : List Int} {x : Int} (h : i < v.length) : List.take 1 (List.drop i (j9 (v.set i x))) = [.int .i64 x] := by rw [kA (by rw [List.length_set]; exact h), wT h]
theorem CU (h : i ≤ L.length) : iW u (L ++ M) i = iW u L i := by
  unfold iW
  rw [List.take_append_of_le_length h]
theorem wit0 (hu : WU u) : WIt u ⟨0, []⟩ := by
  have := hu.pl
  refine ⟨Int.le_refl _, by show (0 : Int) < u.procs.length; omega, ?_, fun x hx => by simp at hx⟩
  show 0 = (u.procs.getD 0 nP).l5.toNat
  rw [hu.zero]; rfl
theorem wc_of (hu : WU u) (hL : LI u L) (hR : RI L R) (hc : CS.length = L.length) (hP : PI u L CS L.length) : WC u ⟨L, CS, R⟩ :=
  ⟨⟨hL.z.1, hL.few hu⟩, hL.z.2, hL.w, hL.nd, hc, fun i hi => (hP i hi).1, fun i hi pc hpc => (hP i hi).2 pc hpc, hR.p, hR.r, hR.s⟩
attribute [local go_sem] rd r6 n6 aS bY aE aG eO cQ r9 aN aD n5 aU Int.natCast_nonneg Int.natCast_inj List.length_map wrap64 eT iE iF J6 yT B6 J7 pU max2 dZ cC aV Nat.reduceMul lN iU gS sO kA jT M3 jU gV oB aO cR app_its app_cs CT zeros_I lS
section
attribute [local go_sem] KF List.length_set
theorem c_close (hu : WU u) : CallA Tryz.prog cfg 24 [.agg [.vec u.globals.length (j9 u.globals), .vec u.c4.length (g9 u.c4), .vec u.procs.length (n7 u.procs), .int .i64 u.main]] h (fun y' h' => (∃ c, WC u c ∧ y' = .tup [.agg (GQ c), .int .i64 0]) ∧ h' = h) := by
  refine .bz Tryz.f24 109 ?_
  refine c172z ?_
  refine .c8 [1, 2, 4] ?_
  refine g6.iS (β := h.length + 2) [.int .i64 0, .vec 0 []] t30 ?_ ?_
  exact ⟨.inl (by rw [hu.main]), .inr ⟨rfl, rfl⟩, trivial⟩
  simp only [List.append_assoc, List.cons_append, List.nil_append, s6, o8, List.set_cons_succ, List.set_cons_zero, List.length_append, List.length_cons, List.length_nil, Nat.reduceAdd, Nat.zero_add]
  refine g6.lY (β := h.length + 4) (k := 1) t30 rfl ?_
  simp only [List.append_assoc, List.cons_append, List.nil_append, s6, o8, List.set_cons_succ, List.set_cons_zero, List.length_append, List.length_cons, List.length_nil, Nat.reduceAdd, Nat.zero_add]
  refine g6.A5 (γ := h.length + 3) (β := h.length + 4) (k := 2) (off := 0) (len := 1) (cs := [.int .i64 0]) t30 rfl (by simp) rfl t30 (by omega) rfl ?_
  simp only [List.append_assoc, List.cons_append, List.nil_append, s6, o8, List.set_cons_succ, List.set_cons_zero, List.length_append, List.length_cons, List.length_nil, Nat.reduceAdd, Nat.zero_add]
  generalize cP _ _ = Rb
  refine c23z ?_
  refine .bX (fun m st => ∃ (i : Nat) (L : List v5) (g : Nat) (R : List Int) (CS : List (List Int)), (m = 65 - i ∧ (LI u L ∧ RI L R ∧ i ≤ L.length ∧ CS.length = i ∧ PI u L CS i)) ∧ st = ⟨mkS 109 [(1, AV.ptr h.length 0 0), (2, AV.ptr (h.length + 1) 0 0), (4, AV.ptr (h.length + 4) 0 0), (5, AV.int .i64 ((iW u L i : Nat) : Int)), (6, AV.int .i64 ((i : Nat) : Int))], h ++ [⟨0, false, 30, 4, [.vec u.globals.length (j9 u.globals), .vec u.c4.length (g9 u.c4), .vec u.procs.length (n7 u.procs), .int .i64 u.main], 0⟩, ⟨0, false, 34, 3, [.j7, .j7, .j7], 0⟩, ⟨g, false, 67, 2, p4 L, 0⟩, Rb, ⟨0, false, 34, 3, [.own (h.length + 2) g 0 L.length, .own (h.length + 5) i 0 i, .vec R.length (j9 R)], 0⟩, p6 22 1 i (s3 CS)]⟩) (.v ⟨0, ([⟨0, []⟩] : List v5), 0, ([0] : List Int), ([] : List (List Int)), ⟨rfl, ⟨⟨fun it hit => by replace hit := s6z hit; subst hit; exact wit0 hu, by simp, by simp⟩, ⟨by simp, by simp, by simp⟩, by omega, rfl, fun j hj => by omega⟩⟩, rfl⟩ (hs := t89)) ?_
  rintro m sl h' ⟨i, L, g, R, CS, ⟨hm, ⟨hL, hR, hi, hCS, hP⟩⟩, hst⟩
  obtain ⟨rfl, rfl⟩ := St.mk.inj hst; clear hst
  have hfew := hL.few hu
  have hrl := hR.len hu hL
  refine c0z ?_
  refine u2z ?_ ?_
  ·intro e1 qe1
   refine c5z ?_
   have hw : WIt u (L.getD i c6) := hL.w _ (j8 (by omega))
   have hw1 := hw.lo; have hw2 := hw.hi
   have hcd := kT hu hw
   have hs0 := hL.sites hu i
   have hs1 : iW u L (i + 1) = iW u L i + (c9 u (L.getD i c6)).length := by rw [S5 (by omega)]
   have hs2 := hL.sites hu (i + 1)
   refine .ss u0 (mkP 12 [0, 1, 0, 4, 0, 28, 60, 124, 255, 511, 1023, 2047] []) ?_
   refine c42z ?_
   refine .c8 [1, 2, 4, 5, 6, 7, 34] ?_
   refine c13z ?_
   refine c20z ?_
   refine .spl 42 rfl rfl (fun e2 => by exfalso; have q := fact e2; omega) (fun e2 => ?_)
   try simp only [e2]
   have qe2 := fact e2
   refine .m [(2, 42)] ?_
   refine uFbz ?_
   intro e3 qe3
   refine .sk ?_
   refine .c8 [1, 2, 4, 5, 6, 7, 34] ?_
   have hcl1 := hcd.1
   have hclm : (c9 u (L.getD i c6)).length ≤ 2000 := by omega
   have hmx : ((c9 u (L.getD i c6)).length : Int) ≤ (maxLen : Int) := Int.ofNat_le.2 (Nat.le_trans hclm mx2000)
   refine c23z ?_
   refine .bX (fun m st => ∃ (pc : Nat) (L1 : List v5) (g1 : Nat) (R1 : List Int) (v : List Int), (m = (c9 u (L.getD i c6)).length - pc ∧ (LI u L1 ∧ RI L1 R1 ∧ (∃ M, L1 = L ++ M) ∧ pc ≤ (c9 u (L.getD i c6)).length ∧ v.length = (c9 u (L.getD i c6)).length ∧ oC u L1 (L.getD i c6) v pc)) ∧ st = ⟨mkS 109 [(1, AV.ptr h.length 0 0), (2, AV.ptr (h.length + 1) 0 0), (4, AV.ptr (h.length + 4) 0 0), (5, AV.int .i64 ((iW u L (i + 1) : Nat) : Int)), (6, AV.int .i64 ((i : Nat) : Int)), (7, AV.vec (c9 u (L.getD i c6)).length (o7 (c9 u (L.getD i c6)))), (8, AV.own (h.length + 6) 0 0 (c9 u (L.getD i c6)).length), (9, AV.int .i64 ((pc : Nat) : Int))], h ++ [⟨0, false, 30, 4, [.vec u.globals.length (j9 u.globals), .vec u.c4.length (g9 u.c4), .vec u.procs.length (n7 u.procs), .int .i64 u.main], 0⟩, ⟨0, false, 34, 3, [.j7, .j7, .j7], 0⟩, ⟨g1, false, 67, 2, p4 L1, 0⟩, Rb, ⟨0, false, 34, 3, [.own (h.length + 2) g1 0 L1.length, .own (h.length + 5) i 0 i, .vec R1.length (j9 R1)], 0⟩, p6 22 1 i (s3 CS), ⟨0, false, 3, 1, j9 v, 0⟩]⟩) (.v ⟨0, L, g, R, (List.replicate (c9 u (L.getD i c6)).length 0), ⟨rfl, ⟨hL, hR, ⟨[], by simp⟩, by omega, by simp, fun j hj => by omega⟩⟩, rfl⟩) ?_
   rintro m sl h' ⟨pc, L1, g1, R1, v, ⟨hm, ⟨hL1, hR1, ⟨M, hM⟩, hpc, hv, hok⟩⟩, hst⟩
   obtain ⟨rfl, rfl⟩ := St.mk.inj hst; clear hst
   have hfew1 := hL1.few hu
   have hrl1 := hR1.len hu hL1
   have hit1 : L1.getD i c6 = L.getD i c6 := by rw [hM, lR (by omega)]
   have hw1 : WIt u (L1.getD i c6) := by rw [hit1]; exact hw
   have hil1 : i < L1.length := by rw [hM, List.length_append]; omega
   refine c0z ?_
   refine u2z ?_ ?_
   ·intro e4 qe4
    refine c5z ?_
    by_cases hcl : gT ((c9 u (L.getD i c6)).getD pc g5)
    ·generalize hy : dA u (L.getD i c6) pc = y
     have hwy : WIt u y := by rw [← hy]; exact tS hu hw (by omega) hcl
     refine .sg u0 (mkH 14 [0, 0, 2, 0, 14, 30, 0, 127, 255, 511, 511, 0, 3071, 8191] [11, 12] [] [0, 2048, 6144] [0, 1, 2, 3, 4, 5, 6, 7, 8, 9, 10]) 0 ?_
     refine c111z ?_
     refine .p 2 ?_
     refine c140z ?_
     refine .cl rfl rfl (fun _ => S7 hu hw1 hit1 (by omega) hcl hy) ?_
     refine .p 3 ?_
     refine .en [true] [2048, 0] [_] ?_
     refine .en [true, false] [6144, 2048, 0] [_] ?_
     refine .p 1 ?_
     refine c35z ?_
     refine c177z ?_
     refine .seq ?_
     refine .c8 [1, 2, 4, 5, 6, 7, 8, 9, 10, 11] ?_
     refine c9z ?_
     refine c119z ?_
     refine c38z ?_
     refine .ca rfl rfl (D7 t30 t30 rfl hCS (by omega) (fun y hy => Nat.lt_of_le_of_lt (LI.l5 hu hL1 y hy) (by omega))) ?_
     refine .n ?_
     refine u2z ?_ ?_
     ·intro e5 qe5
      refine c2z ?_
      refine .c8 [1, 2, 4, 5, 6, 7, 8, 9, 10] ?_
      have hny : y ∉ L1 := fun hm => by have := M1 hm; omega
      have hL2 := hL1.snoc hwy hny
      have hfew2 := hL2.few hu
      have hmy : y ∈ L1 ++ [y] := by simp
      have hR2 := hR1.app (M := [y])
      have hok2 := hok.app (M := [y])
      obtain ⟨hf1, hf2, hf3⟩ := M1 hmy
      have hsg := @wT v pc (fI (L1 ++ [y]) y) (by omega)
      refine c24z ?_
      refine .ca rfl rfl (D7 (L := (L1 ++ [y])) t30 t30 (by rw [List.length_append]; rfl) hCS (by rw [List.length_append, List.length_singleton]; omega) (fun y hy => Nat.lt_of_le_of_lt (LI.l5 hu hL2 y hy) (by omega))) ?_
      refine .n ?_
      refine .z ?_
      refine u2z ?_ ?_
      ·intro e6 qe6
       refine .c8 [1, 2, 4, 5, 6, 7, 8, 9] ?_
       refine .og u0 (mkH 9 [0, 1, 0, 0, 12, 28, 63, 127, 255] [8] [] [0, 256] []) 0 ?_
       refine .p 1 ?_
       refine c237z ?_
       refine .cl rfl rfl (fun _ => CM _ _ (by omega)) ?_
       refine .p 1 ?_
       refine .en [true] [256, 0] [_] ?_
       refine u4.nil rfl ?_
       change g6 ..
       refine c255z ?_
       exact ⟨_, by omega, .v ⟨(pc + 1), (L1 ++ [y]), (g1 + 1), (iN R1 (fI (L1 ++ [y]) y)), (v.set pc (fI (L1 ++ [y]) y)), ⟨rfl, ⟨hL2, hR2.with ⟨hf1, hf2⟩, ⟨M ++ [y], by rw [hM, List.append_assoc]⟩, by omega, t127, hok2.set (by omega) ⟨fun _ => ⟨hf1, hf2, hf3.trans hy.symm⟩, fun hc => absurd hcl hc⟩⟩⟩, rfl⟩ (he := t34) (hk := t31)⟩
      intro e6 qe6
      refine c3z ?_
      refine c255z ?_
      exact ⟨_, by omega, .v ⟨(pc + 1), (L1 ++ [y]), (g1 + 1), R1, (v.set pc (fI (L1 ++ [y]) y)), ⟨rfl, ⟨hL2, hR2, ⟨M ++ [y], by rw [hM, List.append_assoc]⟩, by omega, t127, hok2.set (by omega) ⟨fun _ => ⟨hf1, hf2, hf3.trans hy.symm⟩, fun hc => absurd hcl hc⟩⟩⟩, rfl⟩ (he := t34) (hk := t31)⟩
     intro e5 qe5
     refine .sk ?_
     have hmy : y ∈ L1 := Classical.byContradiction fun hm => by have := fI_not hm; omega
     have hL2 := hL1
     have hR2 := hR1
     have hok2 := hok
     obtain ⟨hf1, hf2, hf3⟩ := M1 hmy
     have hsg := @wT v pc (fI L1 y) (by omega)
     refine c24z ?_
     refine .ca rfl rfl (D7 (L := L1) t30 t30 rfl hCS (by omega) (fun y hy => Nat.lt_of_le_of_lt (LI.l5 hu hL1 y hy) (by omega))) ?_
     refine .n ?_
     refine .c8 [1, 2, 4, 5, 6, 7, 8, 9] ?_
     refine .z ?_
     refine u2z ?_ ?_
     ·intro e7 qe7
      refine .og u0 (mkH 9 [0, 1, 0, 0, 12, 28, 63, 127, 255] [8] [] [0, 256] []) 0 ?_
      refine .p 1 ?_
      refine c237z ?_
      refine .cl rfl rfl (fun _ => CM _ _ (by omega)) ?_
      refine .p 1 ?_
      refine .en [true] [256, 0] [_] ?_
      refine u4.nil rfl ?_
      change g6 ..
      refine c255z ?_
      exact ⟨_, by omega, .v ⟨(pc + 1), L1, g1, (iN R1 (fI L1 y)), (v.set pc (fI L1 y)), ⟨rfl, ⟨hL2, hR2.with ⟨hf1, hf2⟩, ⟨M, by rw [hM]⟩, by omega, t127, hok2.set (by omega) ⟨fun _ => ⟨hf1, hf2, hf3.trans hy.symm⟩, fun hc => absurd hcl hc⟩⟩⟩, rfl⟩ (he := t34) (hk := t31)⟩
     intro e7 qe7
     refine c3z ?_
     refine .rz ?_
     exact ⟨_, by omega, .v ⟨(pc + 1), L1, g1, R1, (v.set pc (fI L1 y)), ⟨rfl, ⟨hL2, hR2, ⟨M, by rw [hM]⟩, by omega, t127, hok2.set (by omega) ⟨fun _ => ⟨hf1, hf2, hf3.trans hy.symm⟩, fun hc => absurd hcl hc⟩⟩⟩, rfl⟩ (he := t34) (hk := t31)⟩
    ·skip
     refine .sg u0 (mkH 14 [0, 0, 2, 0, 14, 30, 0, 127, 255, 511, 511, 0, 3071, 8191] [11, 12] [] [0, 2048, 6144] [0, 1, 2, 3, 4, 5, 6, 7, 8, 9, 10]) 0 ?_
     refine c111z ?_
     refine .p 2 ?_
     refine c140z ?_
     refine .cl rfl rfl (fun _ => S8 hu hw1 hit1 (by omega) hcl) ?_
     refine .p 3 ?_
     refine .en [true] [2048, 0] [_] ?_
     refine .en [true, false] [6144, 2048, 0] [_] ?_
     refine .p 1 ?_
     refine c35z ?_
     refine c177z ?_
     refine .seq ?_
     refine .c8 [1, 2, 4, 5, 6, 7, 8, 9, 10, 11] ?_
     refine c105z ?_
     refine .z ?_
     refine c8z ?_
     refine .rz ?_
     exact ⟨_, by omega, .v ⟨(pc + 1), L1, g1, R1, (v.set pc (-1)), ⟨rfl, ⟨hL1, hR1, ⟨M, hM⟩, by omega, t127, hok.set (by omega) ⟨fun hc => absurd hc hcl, fun _ => rfl⟩⟩⟩, rfl⟩ (he := t34) (hk := t31)⟩
   intro e4 qe4
   refine .exit ?_
   obtain rfl : pc = (c9 u (L.getD i c6)).length := by omega
   refine g6.X8 (t := 8) (γ := h.length + 6) (len := (c9 u (L.getD i c6)).length) (by rw [s6]; exact congrArg some (eN (by intro h0; have := congrArg List.length h0; rw [n5] at this; simp only [List.length_nil] at this; omega)).symm) (by rw [n5, hv, Nat.mul_one]) (by omega) (zG _) (A8 (by decide) rfl) ?_
   rw [cV]; simp only [o8, List.set_cons_succ, List.set_cons_zero]
   generalize gY _ _ _ _ _ = Vb
   change g6 ..
   refine c2z ?_
   refine .c8 [1, 2, 4, 5, 6] ?_
   refine .rz ?_
   have hP1 : PI u L1 (CS ++ [v]) (i + 1) := by rw [hM]; exact hP.step hCS (by omega) hv (by rw [← hM]; exact hok)
   have hs3 : iW u L1 (i + 1) = iW u L (i + 1) := by rw [hM, CU (by omega)]
   exact ⟨_, by omega, .v ⟨(i + 1), L1, g1, R1, (CS ++ [v]), ⟨rfl, ⟨hL1, hR1, by omega, by simp [hCS], hP1⟩⟩, rfl⟩ (he := by (simp only [List.append_assoc, List.cons_append, List.nil_append, List.length_append, List.length_cons, List.length_nil, hCS]; rfl)) (hk := by exact (aB.refl _).app rfl ⟨.inl rfl, .inl rfl, .inr ((KE _).refs _), .inl rfl, .inr (eM.get ⟨.own _ _ _ _ (by simp), .own _ _ _ _ (by simp), .vec _ _, trivial⟩), .inr (by rw [p9]; exact (KD _).refs _), trivial⟩) (hs := t89)⟩
  intro e1 qe1
  refine .exit ?_
  obtain rfl : i = L.length := by omega
  refine g6.A5 (γ := h.length + 2) (β := h.length + 4) (k := 0) (off := 0) (len := L.length) (cs := p4 L) t30 rfl (by simp only [aO]; omega) (by rw [List.drop_zero, List.take_of_length_le (by simp only [aO]; omega)]; exact (KE _).LY) t30 (by omega) rfl ?_
  simp only [List.append_assoc, List.cons_append, List.nil_append, s6, o8, List.set_cons_succ, List.set_cons_zero, List.length_append, List.length_cons, List.length_nil, Nat.reduceAdd, Nat.zero_add]
  refine g6.nN (γ := h.length + 5) (β := h.length + 4) (k := 1) (len := L.length) t30 (by rw [lS, hCS, Nat.mul_one]) (by omega) (KD _) t30 (by omega) rfl ?_
  refine c19z ?_
  refine .c8 [2, 4] ?_
  refine .z ?_
  exact .ret (.ex (hq := by exact ⟨⟨L, CS, R⟩, wc_of hu hL hR hCS hP, by simp only [GQ, hCS]⟩))
end
end Go.Proofs.YtapdldekgbbomaaGreat
end
section
namespace Go.Un
open Go.Ab
def shV (k : Nat) (n : Int) (d : Nat) : Int := if 0 ≤ (d : Int) + n ∧ (d : Int) + n ≤ k then 2 ^ ((d : Int) + n).toNat else 0
def shI (k : Nat) (n : Int) : List Int := (List.range (k + 1)).map (shV k n)
theorem shI_len {k : Nat} {n : Int} : (shI k n).length = k + 1 := by simp [shI]
def chI (it : v5) (x : Ins) (m : Int) : Int := if x.op = 4 ∧ tR it x.pl = m then 1 else if x.op = 5 ∧ tR it x.pl = m then -1 else 0
variable {it : v5} {x : Ins} {m : Int}
theorem chI_1 (h : x.op = 4) (h2 : tR it x.pl = m) : chI it x m = 1 := by rw [chI, if_pos ⟨h, h2⟩]
theorem chI_2 (h : x.op = 5) (h2 : tR it x.pl = m) : chI it x m = -1 := by rw [chI, if_neg (by omega), if_pos ⟨h, h2⟩]
theorem chI_0 (h : ¬ (x.op = 4 ∧ tR it x.pl = m)) (h2 : ¬ (x.op = 5 ∧ tR it x.pl = m)) : chI it x m = 0 := by rw [chI, if_neg h, if_neg h2]
theorem lC : chI it x m = 1 ∨ chI it x m = -1 ∨ chI it x m = 0 := by
 unfold chI
 split
 ·exact .inl rfl
 ·split
  ·exact .inr (.inl rfl)
  ·exact .inr (.inr rfl)
def fC (m : Mx) : Nat := if m.size = 0 ∧ m.re = false then 1 else 8
theorem eE {m : Mx} : fC m ≤ 8 := by unfold fC; split <;> omega
variable {pc : Nat}
theorem CV {u : Un} (hu : WU u) (w : WIt u it) (hpc : pc < (c9 u it).length) (ho : ((c9 u it).getD pc g5).op = 4 ∨ ((c9 u it).getD pc g5).op = 5) : ((c9 u it).getD pc g5).pl.param = true → 0 ≤ ((c9 u it).getD pc g5).pl.index ∧ ((c9 u it).getD pc g5).pl.index.toNat < it.l5.length := by
 obtain ⟨_, _, h3, _⟩ := (kT hu w).2.2 pc hpc
 intro hp
 obtain ⟨h0, ⟨_, h2⟩ | ⟨h1, _⟩⟩ := h3 ho
 ·refine ⟨h0, ?_⟩
  rw [w.len]
  simp only at h2
  omega
 ·rw [hp] at h1; cases h1
def bO (x : Ins) (pc : Nat) : List Int := if x.op = 8 then [] else if x.op = 7 then [x.target] else if x.op = 6 then (if x.target = (pc : Int) + 1 then [x.target] else [min x.target ((pc : Int) + 1), max x.target ((pc : Int) + 1)]) else [(pc : Int) + 1]
def kJ (x : Ins) (pc : Nat) : AV := .vec (bO x pc).length (j9 (bO x pc))
theorem CW (h : x.op = 8) : kJ x pc = .vec 0 [] := by simp [kJ, bO, h, j9]
theorem CX (h : x.op = 7) : kJ x pc = .vec 1 [.int .i64 x.target] := by simp [kJ, bO, h, j9]
theorem M4 (h : x.op = 6) (h2 : x.target = (pc : Int) + 1) : kJ x pc = .vec 1 [.int .i64 x.target] := by simp [kJ, bO, h, h2, j9]
theorem CY (h : x.op = 6) (h2 : ¬ x.target = (pc : Int) + 1) : kJ x pc = .vec 2 [.int .i64 (min x.target ((pc : Int) + 1)), .int .i64 (max x.target ((pc : Int) + 1))] := by simp [kJ, bO, h, h2, j9]
theorem CZ (h8 : ¬ x.op = 8) (h7 : ¬ x.op = 7) (h6 : ¬ x.op = 6) : kJ x pc = .vec 1 [.int .i64 ((pc : Int) + 1)] := by simp [kJ, bO, h8, h7, h6, j9]
theorem eF : (bO x pc).length ≤ 2 := by
 unfold bO
 split
 ·simp
 ·split
  ·simp
  ·split
   ·split <;> simp
   ·simp
theorem next_in {u : Un} (hu : WU u) (w : WIt u it) (hpc : pc < (c9 u it).length) : ∀ d, d < (bO ((c9 u it).getD pc g5) pc).length → 0 ≤ (bO ((c9 u it).getD pc g5) pc).getD d 0 ∧ (bO ((c9 u it).getD pc g5) pc).getD d 0 < (c9 u it).length := by
 obtain ⟨h1, h2, h3⟩ := kT hu w
 obtain ⟨_, h4, _⟩ := h3 pc hpc
 have h5 : ¬ ((c9 u it).getD pc g5).op = 8 → pc + 1 < (c9 u it).length := fun h8 => by
  by_cases e : pc = (c9 u it).length - 1
  ·rw [← e] at h2; exact absurd h2 h8
  ·omega
 intro d hd
 have key : ∀ x ∈ bO ((c9 u it).getD pc g5) pc, 0 ≤ x ∧ x < (c9 u it).length := by
  intro x hx
  unfold bO at hx
  split at hx
  ·simp at hx
  ·rename_i h8
   have h6 := h5 h8
   split at hx
   ·rename_i h7
    have := h4 (.inr h7)
    replace hx := s6z hx
    omega
   ·split at hx
    ·rename_i h7
     have := h4 (.inl h7)
     split at hx
     ·replace hx := s6z hx
      omega
     ·simp only [List.mem_cons, List.not_mem_nil, or_false] at hx
      omega
    ·replace hx := s6z hx
     omega
 exact key _ (j8 hd)
theorem DA (h : ¬ x.op = 8) : 0 < (bO x pc).length := by
 unfold bO
 rw [if_neg h]
 split
 ·simp
 ·split
  ·split <;> simp
  ·simp
end Go.Un
end
section
namespace Go.Proofs.YtapdldekgbbomaaGreat
open Go.Ab Go.Un
variable {i : Nat}
theorem qX {l : List Ins} (h : i < l.length) : List.take 12 (List.drop (i * 12) (o7 l)) = [.int .i64 (l.getD i g5).op, .int .i64 (l.getD i g5).target, .bool (l.getD i g5).global, .int .i64 (l.getD i g5).e.op, .int .i64 (l.getD i g5).e.num, .str (l.getD i g5).e.name, .vec (l.getD i g5).e.args.length (l7 (l.getD i g5).e.args), .bool (l.getD i g5).pl.param, .int .i64 (l.getD i g5).pl.index, .vec (l.getD i g5).pl.at'.length (l7 (l.getD i g5).pl.at'), .vec (l.getD i g5).ints.length (l7 (l.getD i g5).ints), .vec (l.getD i g5).u9.length (cJ (l.getD i g5).u9)] := by rw [read_in h, jR]
theorem qY {l : List Mx} (h : i < l.length) : List.take 3 (List.drop (i * 3) (g9 l)) = [.str (l.getD i s8).name, .bool (l.getD i s8).re, .int .i64 (l.getD i s8).size] := vO h
theorem flat_I (n : Nat) : (List.replicate n [AV.int .i64 0]).flatten = j9 (List.replicate n 0) := by
  induction n with
  | zero => rfl
  | succ n ih => simp only [List.replicate_succ, List.flatten_cons, ih]; rfl
theorem shl1N {e : Int} (h0 : 0 ≤ e) (h1 : e ≤ 9) : IntKind.wrap .i64 (1 * 2 ^ (min e.toNat 64)) = 2 ^ e.toNat := by
  obtain ⟨m, rfl⟩ := Int.eq_ofNat_of_zero_le h0
  have : m = 0 ∨ m = 1 ∨ m = 2 ∨ m = 3 ∨ m = 4 ∨ m = 5 ∨ m = 6 ∨ m = 7 ∨ m = 8 ∨ m = 9 := by omega
  rcases this with rfl | rfl | rfl | rfl | rfl | rfl | rfl | rfl | rfl | rfl <;> decide
theorem shl1M {m : Nat} (h1 : m ≤ 9) : IntKind.wrap .i64 (1 * 2 ^ (min m 64)) = 2 ^ m := by
  have := shl1N (e := (m : Int)) (by omega) (by omega)
  simpa using this
def D8 (v : Nat → Int) (i : Nat) (zs : List Int) : Prop := (∀ d, d < i → zs.getD d 0 = v d) ∧ (∀ d, i ≤ d → zs.getD d 0 = 0)
theorem D8.zero (v : Nat → Int) (n : Nat) : D8 v 0 (List.replicate n 0) := by
  refine ⟨fun d hd => by omega, fun d _ => ?_⟩
  rw [List.getD_eq_getElem?_getD, List.getElem?_replicate]
  split <;> rfl
variable {v : Nat → Int} {zs : List Int}
theorem D8.set {x : Int} (hi : i < zs.length) (h : D8 v i zs) (hx : x = v i) : D8 v (i + 1) (zs.set i x) := by
  refine ⟨fun d hd => ?_, fun d hd => ?_⟩
  · by_cases e : d = i
    · subst e; simp [List.getD, hi, hx]
    · have := h.1 d (by omega)
      simp only [List.getD_eq_getElem?_getD, List.getElem?_set_ne (Ne.symm e)] at this ⊢
      exact this
  · have := h.2 d (by omega)
    simp only [List.getD_eq_getElem?_getD, List.getElem?_set_ne (show i ≠ d from by omega)] at this ⊢
    exact this
theorem D8.skip (h : D8 v i zs) (hv : v i = 0) : D8 v (i + 1) zs := by
  refine ⟨fun d hd => ?_, fun d hd => h.2 d (by omega)⟩
  by_cases e : d = i
  · subst e; rw [h.2 d (Nat.le_refl _), hv]
  · exact h.1 d (by omega)
theorem D8.all {n : Nat} (h : D8 v i zs) (hl : zs.length = n) (hi : n ≤ i) : zs = (List.range n).map v := by
  refine List.ext_getElem (by simp [hl]) fun d k1 k2 => ?_
  have := h.1 d (by omega)
  simp
  simpa [List.getD, k1] using this
variable {h l : c7} {b0 : Blk} {g : Nat} {a : Int}
theorem KG : gL h.length (h ++ (b0 :: ⟨g, false, 3, 1, [.int .i64 a], 0⟩ :: l)) 6 (.own (h.length + 1) g 0 1) = some (.vec 1 [.int .i64 a]) := S3 (a := [a]) t30 (by omega) rfl
theorem frz_2 {b : Int} : gL h.length (h ++ (b0 :: ⟨g, false, 3, 1, [.int .i64 a, .int .i64 b], 0⟩ :: l)) 6 (.own (h.length + 1) g 0 2) = some (.vec 2 [.int .i64 a, .int .i64 b]) := S3 (a := [a, b]) t30 (by omega) rfl
theorem vec2 {b c d : Int} (h1 : a = c) (h2 : b = d) : AV.vec 2 [.int .i64 a, .int .i64 b] = AV.vec 2 [.int .i64 c, .int .i64 d] := by rw [h1, h2]
theorem frz_13 {b1 b2 : Blk} : gL h.length (h ++ (b0 :: b1 :: b2 :: ⟨g, false, 3, 1, [.int .i64 a], 0⟩ :: l)) 6 (.own (h.length + 3) g 0 1) = some (.vec 1 [.int .i64 a]) := S3 (a := [a]) t30 (by omega) rfl
theorem iX {C : Cfg} {ρ : Operand → AV} {c : Call} {r : Operand} {name : String} {t : TypeId} {v : AV} {f : FuncId} (hc : c.callee = .invoke r name) (hr : ρ r = .iface t v) (hm : C.T8 t name = some f) : u6 C ρ c = some (f, v :: c.args.toList.map ρ) := by simp only [u6, hc, hr, hm]
theorem S9 : cfg.T8 192 "lockorder/flow.next" = some 137 := by kernel_rfl
theorem DB : cfg.T8 194 "lockorder/flow.next" = some 138 := by kernel_rfl
theorem sU : cfg.T8 195 "lockorder/flow.next" = some 139 := by kernel_rfl
theorem zL : cfg.T8 196 "lockorder/flow.next" = some 140 := by kernel_rfl
attribute [local go_sem] rd aO cR aE r9 n5 Int.natCast_nonneg Int.natCast_inj jT gV jU qX qY kA CT flat_I shl1N shl1M List.length_set List.length_replicate Int.toNat_natCast_add_one kV wrap64 pU max2
theorem c_cap (m : Mx) : CB 73 [.agg [.str m.name, .bool m.re, .int .i64 m.size]] h (.int .i64 ((fC m : Nat) : Int)) := by
  refine .bz Tryz.f73 11 ?_
  refine c13z ?_
  refine c24z ?_
  refine .spl 6 rfl rfl (fun e1 => ?_) (fun e1 => ?_)
  ·try simp only [e1]
   have qe1 := fact e1
   refine .m [(3, 6)] ?_
   refine u2z ?_ ?_
   ·intro e2 qe2
    refine c16z ?_
    exact .ret (.ex (hq := t132))
   intro e2 qe2
   refine .sk ?_
   refine c16z ?_
   exact .ret (.ex (hq := t132))
  try simp only [e1]
  have qe1 := fact e1
  refine .m [(3, 6)] ?_
  refine c18z ?_
  refine c16z ?_
  exact .ret (.ex (hq := t132))
theorem DC (m : Mx) : CB 21 [.agg [.str m.name, .bool m.re, .int .i64 m.size]] h (.int .i64 ((fC m : Nat) : Int)) := by
  refine .bz Tryz.f21 11 ?_
  refine c13z ?_
  refine c24z ?_
  refine .spl 6 rfl rfl (fun e1 => ?_) (fun e1 => ?_)
  ·try simp only [e1]
   have qe1 := fact e1
   refine .m [(3, 6)] ?_
   refine u2z ?_ ?_
   ·intro e2 qe2
    refine c16z ?_
    exact .ret (.ex (hq := t132))
   intro e2 qe2
   refine .sk ?_
   refine c16z ?_
   exact .ret (.ex (hq := t132))
  try simp only [e1]
  have qe1 := fact e1
  refine .m [(3, 6)] ?_
  refine c18z ?_
  refine c16z ?_
  exact .ret (.ex (hq := t132))
theorem sV (k : Nat) (n : Int) (hk : k ≤ 8) (h1 : -1 ≤ n) (h2 : n ≤ 1) : CB 105 [.int .i64 ((k : Nat) : Int), .int .i64 n] h (.vec (shI k n).length (j9 (shI k n))) := by
  refine .bz Tryz.f105 35 ?_
  refine c72z ?_
  refine .gC (fun m st => ∃ (i : Nat) (zs : List Int), (m = (k + 1) - i ∧ (D8 (shV k n) i zs ∧ zs.length = (k + 1) ∧ i ≤ (k + 1))) ∧ st = ⟨mkS 35 [(0, AV.int .i64 ((k : Nat) : Int)), (1, AV.int .i64 n), (5, AV.own h.length 0 0 (k + 1)), (11, AV.int .i64 ((k + 1 : Nat) : Int)), (12, AV.int .i64 ((i : Nat) : Int))], h ++ [⟨0, false, 3, 1, j9 zs, 0⟩]⟩) _ (.v ⟨0, (List.replicate (k + 1) 0), ⟨rfl, ⟨D8.zero _ _, by simp, by omega⟩⟩, rfl⟩) ?_
  rintro m sl h' ⟨i, zs, ⟨hm, ⟨hI, hz, hi⟩⟩, hst⟩
  obtain ⟨rfl, rfl⟩ := St.mk.inj hst
  refine c13z ?_
  refine u2z ?_ ?_
  ·intro e1 qe1
   refine c193z ?_
   refine c27z ?_
   refine .spl 19 rfl rfl (fun e2 => ?_) (fun e2 => ?_)
   ·try simp only [e2]
    have qe2 := fact e2
    refine .m [(4, 19)] ?_
    refine u2z ?_ ?_
    ·intro e3 qe3
     refine .c8 [0, 1, 5, 6, 11, 12] ?_
     refine c2z ?_
     refine .c8 [0, 1, 5, 11, 12] ?_
     refine .rz ?_
     exact ⟨_, by omega, .v ⟨(i + 1), (zs.set i _), ⟨rfl, ⟨D8.set (by omega) hI (by rw [shV, if_pos (by omega)]), by simp only [List.length_set]; exact hz, by omega⟩⟩, rfl⟩⟩
    intro e3 qe3
    refine c3z ?_
    refine .c8 [0, 1, 5, 11, 12] ?_
    refine .rz ?_
    exact ⟨_, by omega, .v ⟨(i + 1), zs, ⟨rfl, ⟨D8.skip hI (by rw [shV, if_neg (by omega)]), hz, by omega⟩⟩, rfl⟩⟩
   try simp only [e2]
   have qe2 := fact e2
   refine .m [(4, 19)] ?_
   refine c31z ?_
   refine .c8 [0, 1, 5, 11, 12] ?_
   refine .rz ?_
   exact ⟨_, by omega, .v ⟨(i + 1), zs, ⟨rfl, ⟨D8.skip hI (by rw [shV, if_neg (by omega)]), hz, by omega⟩⟩, rfl⟩⟩
  intro e1 qe1
  refine c202z ?_
  exact ⟨_, _, rfl, S3 t166 (Nat.le_refl _) hz, by (rw [hI.all hz (by omega), shI_len]; rfl)⟩
theorem c_up (k : Nat) (hk : k ≤ 8) : CB 75 [.int .i64 ((k : Nat) : Int)] h (.vec (shI k 1).length (j9 (shI k 1))) := by
  refine .bz Tryz.f75 5 ?_
  refine c127z ?_
  refine .ca rfl rfl (sV k 1 hk (by omega) (by omega)) ?_
  refine c158z ?_
  exact ⟨[], _, (List.append_nil _).symm, t46, by rfl⟩
theorem c_down (k : Nat) (hk : k ≤ 8) : CB 76 [.int .i64 ((k : Nat) : Int)] h (.vec (shI k (-1)).length (j9 (shI k (-1)))) := by
  refine .bz Tryz.f76 5 ?_
  refine c127z ?_
  refine .ca rfl rfl (sV k (-1) hk (by omega) (by omega)) ?_
  refine c158z ?_
  exact ⟨[], _, (List.append_nil _).symm, t46, by rfl⟩
theorem c_id (k : Nat) (hk : k ≤ 8) : CB 77 [.int .i64 ((k : Nat) : Int)] h (.vec (shI k 0).length (j9 (shI k 0))) := by
  refine .bz Tryz.f77 5 ?_
  refine c127z ?_
  refine .ca rfl rfl (sV k 0 hk (by omega) (by omega)) ?_
  refine c158z ?_
  exact ⟨[], _, (List.append_nil _).symm, t46, by rfl⟩
variable {u : Un} {it : v5} {pc : Nat}
theorem c_fcode (hu : WU u) (w : WIt u it) (hpc : pc < (c9 u it).length) : CB 79 [.agg [.vec u.globals.length (j9 u.globals), .vec u.c4.length (g9 u.c4), .vec u.procs.length (n7 u.procs), .int .i64 u.main], .agg [.int .i64 it.proc, .vec it.l5.length (j9 it.l5)], .int .i64 ((pc : Nat) : Int)] h (.agg [.int .i64 ((c9 u it).getD pc g5).op, .int .i64 ((c9 u it).getD pc g5).target, .bool ((c9 u it).getD pc g5).global, .int .i64 ((c9 u it).getD pc g5).e.op, .int .i64 ((c9 u it).getD pc g5).e.num, .str ((c9 u it).getD pc g5).e.name, .vec ((c9 u it).getD pc g5).e.args.length (l7 ((c9 u it).getD pc g5).e.args), .bool ((c9 u it).getD pc g5).pl.param, .int .i64 ((c9 u it).getD pc g5).pl.index, .vec ((c9 u it).getD pc g5).pl.at'.length (l7 ((c9 u it).getD pc g5).pl.at'), .vec ((c9 u it).getD pc g5).ints.length (l7 ((c9 u it).getD pc g5).ints), .vec ((c9 u it).getD pc g5).u9.length (cJ ((c9 u it).getD pc g5).u9)]) := by
  refine .bz Tryz.f79 17 ?_
  have w1 := w.lo
  have w2 := w.hi
  have hsz : (c9 u it).length ≤ 1664 := s4 hu w
  refine c57z ?_
  refine c39z ?_
  exact .ret (.ex (hq := by rfl))
theorem NC (it : v5) (p : Pl) (hp : p.param = true → 0 ≤ p.index ∧ p.index.toNat < it.l5.length) : CB 104 [.agg [.int .i64 it.proc, .vec it.l5.length (j9 it.l5)], .agg [.bool p.param, .int .i64 p.index, .vec p.at'.length (l7 p.at')]] h (.int .i64 (tR it p)) := by
  refine .bz Tryz.f104 28 ?_
  refine c13z ?_
  refine c20z ?_
  refine .spl 7 rfl rfl (fun e1 => ?_) (fun e1 => ?_)
  ·try simp only [e1]
   have qe1 := fact e1
   refine .k 5 [(2, 7)] ?_
   refine .spl 12 rfl rfl (fun e2 => ?_) (fun e2 => ?_)
   ·try simp only [e2]
    have qe2 := fact e2
    refine .m [(7, 12)] ?_
    refine u2z ?_ ?_
    ·intro e3 qe3
     refine .c8 [2, 3] ?_
     refine .z ?_
     exact .ret (.ex (hq := t88))
    intro e3 qe3
    refine .sk ?_
    refine c180z ?_
    exact .ret (.ex (hq := t88))
   try simp only [e2]
   have qe2 := fact e2
   refine .m [(7, 12)] ?_
   refine c18z ?_
   refine c180z ?_
   exact .ret (.ex (hq := t88))
  try simp only [e1]
  have qe1 := fact e1
  refine .k 8 [(2, 7), (7, 12)] ?_
  refine .m [(7, 12)] ?_
  refine c18z ?_
  refine c180z ?_
  exact .ret (.ex (hq := t88))
theorem KH (hu : WU u) (w : WIt u it) (hpc : pc < (c9 u it).length) (m : Int) : CB 74 [.agg [.vec u.globals.length (j9 u.globals), .vec u.c4.length (g9 u.c4), .vec u.procs.length (n7 u.procs), .int .i64 u.main], .agg [.int .i64 it.proc, .vec it.l5.length (j9 it.l5)], .int .i64 ((pc : Nat) : Int), .int .i64 m] h (.int .i64 (chI it ((c9 u it).getD pc g5) m)) := by
  refine .bz Tryz.f74 33 ?_
  have w1 := w.lo
  have w2 := w.hi
  have hsz : (c9 u it).length ≤ 1664 := s4 hu w
  refine c258z ?_
  refine c146z ?_
  refine c252z ?_
  refine .spl 17 rfl rfl (fun e1 => ?_) (fun e1 => ?_)
  ·try simp only [e1]
   have qe1 := fact e1
   refine .k 5 [(3, 17)] ?_
   refine .spl 22 rfl rfl (fun e2 => ?_) (fun e2 => ?_)
   ·try simp only [e2]
    have qe2 := fact e2
    refine .m [(8, 22)] ?_
    refine c236z ?_
    exact .ret (.ex (hq := t13))
   try simp only [e2]
   have qe2 := fact e2
   refine .k 3 [(8, 22)] ?_
   refine .ca rfl rfl (NC it ((c9 u it).getD pc g5).pl (CV hu w hpc (by omega))) ?_
   refine .m [(8, 22)] ?_
   refine u2z ?_ ?_
   ·intro e3 qe3
    refine c16z ?_
    exact .ret (.ex (hq := t13))
   intro e3 qe3
   refine c119z ?_
   refine .c8 [9] ?_
   refine .z ?_
   refine u2z ?_ ?_
   ·intro e4 qe4
    refine .z ?_
    exact .ret (.ex (hq := t13))
   intro e4 qe4
   refine .sk ?_
   refine .z ?_
   exact .ret (.ex (hq := t13))
  try simp only [e1]
  have qe1 := fact e1
  refine .k 8 [(3, 17), (8, 22)] ?_
  refine .ca rfl rfl (NC it ((c9 u it).getD pc g5).pl (CV hu w hpc (by omega))) ?_
  refine .m [(8, 22)] ?_
  refine u2z ?_ ?_
  ·intro e5 qe5
   refine c16z ?_
   exact .ret (.ex (hq := t13))
  intro e5 qe5
  refine c119z ?_
  refine .c8 [9] ?_
  refine .z ?_
  refine u2z ?_ ?_
  ·intro e6 qe6
   refine .z ?_
   exact .ret (.ex (hq := t13))
  intro e6 qe6
  refine .sk ?_
  refine .z ?_
  exact .ret (.ex (hq := t13))
theorem DD (hu : WU u) (w : WIt u it) (hpc : pc < (c9 u it).length) (m : Int) : CB 20 [.agg [.vec u.globals.length (j9 u.globals), .vec u.c4.length (g9 u.c4), .vec u.procs.length (n7 u.procs), .int .i64 u.main], .agg [.int .i64 it.proc, .vec it.l5.length (j9 it.l5)], .int .i64 ((pc : Nat) : Int), .int .i64 m] h (.int .i64 (chI it ((c9 u it).getD pc g5) m)) := by
  refine .bz Tryz.f20 44 ?_
  have w1 := w.lo
  have w2 := w.hi
  have hsz : (c9 u it).length ≤ 1664 := s4 hu w
  refine c57z ?_
  refine c39z ?_
  refine .sb ?_
  refine c252z ?_
  refine .spl 24 rfl rfl (fun e1 => ?_) (fun e1 => ?_)
  ·try simp only [e1]
   have qe1 := fact e1
   refine .k 3 [(3, 24)] ?_
   refine .ca rfl rfl (CN it ((c9 u it).getD pc g5).pl (CV hu w hpc (by omega))) ?_
   refine .m [(3, 24)] ?_
   refine u2z ?_ ?_
   ·intro e2 qe2
    refine c16z ?_
    exact .ret (.ex (hq := t13))
   intro e2 qe2
   refine c252z ?_
   refine .spl 36 rfl rfl (fun e3 => ?_) (fun e3 => ?_)
   ·try simp only [e3]
    have qe3 := fact e3
    refine .k 3 [(3, 36)] ?_
    refine .ca rfl rfl (CN it ((c9 u it).getD pc g5).pl (CV hu w hpc (by omega))) ?_
    refine .m [(3, 36)] ?_
    refine u2z ?_ ?_
    ·intro e4 qe4
     refine c16z ?_
     exact .ret (.ex (hq := t13))
    intro e4 qe4
    refine c3z ?_
    refine c16z ?_
    exact .ret (.ex (hq := t13))
   try simp only [e3]
   have qe3 := fact e3
   refine .m [(3, 36)] ?_
   refine c31z ?_
   refine c16z ?_
   exact .ret (.ex (hq := t13))
  try simp only [e1]
  have qe1 := fact e1
  refine .m [(3, 24)] ?_
  refine .F ?_
  refine c252z ?_
  refine .spl 36 rfl rfl (fun e5 => ?_) (fun e5 => ?_)
  ·try simp only [e5]
   have qe5 := fact e5
   refine .k 3 [(3, 36)] ?_
   refine .ca rfl rfl (CN it ((c9 u it).getD pc g5).pl (CV hu w hpc (by omega))) ?_
   refine .m [(3, 36)] ?_
   refine u2z ?_ ?_
   ·intro e6 qe6
    refine c16z ?_
    exact .ret (.ex (hq := t13))
   intro e6 qe6
   refine c3z ?_
   refine c16z ?_
   exact .ret (.ex (hq := t13))
  try simp only [e5]
  have qe5 := fact e5
  refine .m [(3, 36)] ?_
  refine c31z ?_
  refine c16z ?_
  exact .ret (.ex (hq := t13))
theorem c_rel (hu : WU u) (w : WIt u it) (hpc : pc < (c9 u it).length) {m : Nat} (hm : m < u.c4.length) : CB 46 [.agg [.vec u.globals.length (j9 u.globals), .vec u.c4.length (g9 u.c4), .vec u.procs.length (n7 u.procs), .int .i64 u.main], .agg [.int .i64 it.proc, .vec it.l5.length (j9 it.l5)], .int .i64 ((pc : Nat) : Int), .int .i64 ((m : Nat) : Int)] h (.vec (shI (fC (u.c4.getD m s8)) (chI it ((c9 u it).getD pc g5) ((m : Nat) : Int))).length (j9 (shI (fC (u.c4.getD m s8)) (chI it ((c9 u it).getD pc g5) ((m : Nat) : Int))))) := by
  refine .bz Tryz.f46 31 ?_
  have w1 := w.lo
  have w2 := w.hi
  have hsz : (c9 u it).length ≤ 1664 := s4 hu w
  have hcp := eE (m := (u.c4.getD m s8))
  have hml := hu.ml
  have hch := lC (it := it) (x := ((c9 u it).getD pc g5)) (m := (m : Int))
  refine .z ?_
  refine c27z ?_
  refine .ca rfl rfl (c_cap (u.c4.getD m s8)) ?_
  refine c146z ?_
  refine .c8 [2, 3, 4, 5, 9] ?_
  refine c24z ?_
  refine .ca rfl rfl (KH hu w hpc _) ?_
  refine .nil ?_
  refine .block ?_
  refine .c8 [9, 20] ?_
  refine .z ?_
  refine u2z ?_ ?_
  ·intro e1 qe1
   refine c131z ?_
   refine .ca rfl rfl (c_up _ hcp) ?_
   refine .n ?_
   exact .ret (.ex (hq := t58))
  intro e1 qe1
  refine .z ?_
  refine u2z ?_ ?_
  ·intro e2 qe2
   refine c131z ?_
   refine .ca rfl rfl (c_down _ hcp) ?_
   refine .n ?_
   exact .ret (.ex (hq := t58))
  intro e2 qe2
  refine c3z ?_
  refine c131z ?_
  refine .ca rfl rfl (c_id _ hcp) ?_
  refine .n ?_
  exact .ret (.ex (hq := t58))
theorem c_ended (pc : Nat) : CB 137 [.agg [], .int .i64 ((pc : Nat) : Int)] h (.vec 0 []) := by
  refine .bz Tryz.f137 5 ?_
  refine c172z ?_
  exact .ret (.ex (hq := by rfl))
theorem c_jump (pc : Nat) (t : Int) : CB 138 [.agg [.int .i64 t], .int .i64 ((pc : Nat) : Int)] h (.vec 1 [.int .i64 t]) := by
  refine .bz Tryz.f138 8 ?_
  refine c172z ?_
  exact .ret (.ex (hf := by first | rfl | exact KG) (hq := by rfl))
theorem DE (pc : Nat) (hp : pc < 100000) : CB 140 [.agg [], .int .i64 ((pc : Nat) : Int)] h (.vec 1 [.int .i64 ((pc : Int) + 1)]) := by
  refine .bz Tryz.f140 8 ?_
  refine c172z ?_
  exact .ret (.ex (hf := by first | rfl | exact KG) (hq := by rfl))
theorem M5 (pc : Nat) (t : Int) (hp : pc < 100000) : CB 139 [.agg [.int .i64 t], .int .i64 ((pc : Nat) : Int)] h (if t = (pc : Int) + 1 then AV.vec 1 [AV.int .i64 t] else AV.vec 2 [AV.int .i64 (min t ((pc : Int) + 1)), AV.int .i64 (max t ((pc : Int) + 1))]) := by
  refine .bz Tryz.f139 24 ?_
  refine c58z ?_
  refine u2z ?_ ?_
  ·intro e1 qe1
   refine .c8 [2] ?_
   refine .z ?_
   exact .ret (.ex (hf := by first | rfl | first | exact KG | exact frz_2) (hq := t83))
  intro e1 qe1
  refine .sk ?_
  refine c114z ?_
  exact .ret (.ex (hf := by first | rfl | first | exact KG | exact frz_2) (hq := t83))
def ND (x : Ins) : AV := if x.op = 8 then .iface 192 (.agg []) else if x.op = 7 then .iface 194 (.agg [.int .i64 x.target]) else if x.op = 6 then .iface 195 (.agg [.int .i64 x.target]) else .iface 196 (.agg [])
variable {x : Ins}
theorem NF (h : x.op = 8) : ND x = .iface 192 (.agg []) := if_pos h
theorem NG (h : x.op = 7) : ND x = .iface 194 (.agg [.int .i64 x.target]) := by rw [ND, if_neg (by omega), if_pos h]
theorem DF (h : x.op = 6) : ND x = .iface 195 (.agg [.int .i64 x.target]) := by rw [ND, if_neg (by omega), if_neg (by omega), if_pos h]
theorem NH (h8 : ¬ x.op = 8) (h7 : ¬ x.op = 7) (h6 : ¬ x.op = 6) : ND x = .iface 196 (.agg []) := by rw [ND, if_neg h8, if_neg h7, if_neg h6]
theorem DH (x : Ins) : CB 78 [.agg [.int .i64 x.op, .int .i64 x.target, .bool x.global, .int .i64 x.e.op, .int .i64 x.e.num, .str x.e.name, .vec x.e.args.length (l7 x.e.args), .bool x.pl.param, .int .i64 x.pl.index, .vec x.pl.at'.length (l7 x.pl.at'), .vec x.ints.length (l7 x.ints), .vec x.u9.length (cJ x.u9)]] h (ND x) := by
  refine .bz Tryz.f78 23 ?_
  refine c23z ?_
  refine .z ?_
  refine u2z ?_ ?_
  ·intro e1 qe1
   refine .z ?_
   exact .ret (.ex (hq := t59))
  intro e1 qe1
  refine .z ?_
  refine u2z ?_ ?_
  ·intro e2 qe2
   refine c254z ?_
   exact .ret (.ex (hq := t59))
  intro e2 qe2
  refine .z ?_
  refine u2z ?_ ?_
  ·intro e3 qe3
   refine c254z ?_
   exact .ret (.ex (hq := t59))
  intro e3 qe3
  refine c3z ?_
  refine c16z ?_
  exact .ret (.ex (hq := t59))
theorem c_next8 (hu : WU u) (w : WIt u it) (hpc : pc < (c9 u it).length) (ho : ((c9 u it).getD pc g5).op = 8) : CB 47 [.agg [.vec u.globals.length (j9 u.globals), .vec u.c4.length (g9 u.c4), .vec u.procs.length (n7 u.procs), .int .i64 u.main], .agg [.int .i64 it.proc, .vec it.l5.length (j9 it.l5)], .int .i64 ((pc : Nat) : Int)] h (kJ ((c9 u it).getD pc g5) pc) := by
  refine .bz Tryz.f47 16 ?_
  have w1 := w.lo
  have w2 := w.hi
  have hsz : (c9 u it).length ≤ 1664 := s4 hu w
  refine c258z ?_
  refine .ca rfl rfl ((DH ((c9 u it).getD pc g5)).mono fun y k hq => ⟨hq.1.trans (NF ho), hq.2⟩) ?_
  refine .n ?_
  refine c219z ?_
  refine n4.cq rfl (iX rfl rfl S9) hb137 (c_ended pc) ?_
  refine .n ?_
  exact .ret (.ex (hq := by (exact (CW ho).symm)))
theorem c_next7 (hu : WU u) (w : WIt u it) (hpc : pc < (c9 u it).length) (ho : ((c9 u it).getD pc g5).op = 7) : CB 47 [.agg [.vec u.globals.length (j9 u.globals), .vec u.c4.length (g9 u.c4), .vec u.procs.length (n7 u.procs), .int .i64 u.main], .agg [.int .i64 it.proc, .vec it.l5.length (j9 it.l5)], .int .i64 ((pc : Nat) : Int)] h (kJ ((c9 u it).getD pc g5) pc) := by
  refine .bz Tryz.f47 16 ?_
  have w1 := w.lo
  have w2 := w.hi
  have hsz : (c9 u it).length ≤ 1664 := s4 hu w
  refine c258z ?_
  refine .ca rfl rfl ((DH ((c9 u it).getD pc g5)).mono fun y k hq => ⟨hq.1.trans (NG ho), hq.2⟩) ?_
  refine .n ?_
  refine c219z ?_
  refine n4.cq rfl (iX rfl rfl DB) hb138 (c_jump pc _) ?_
  refine .n ?_
  exact .ret (.ex (hq := by (exact (CX ho).symm)))
theorem KI (hu : WU u) (w : WIt u it) (hpc : pc < (c9 u it).length) (ho : ((c9 u it).getD pc g5).op = 6) (ht : ((c9 u it).getD pc g5).target = (pc : Int) + 1) : CB 47 [.agg [.vec u.globals.length (j9 u.globals), .vec u.c4.length (g9 u.c4), .vec u.procs.length (n7 u.procs), .int .i64 u.main], .agg [.int .i64 it.proc, .vec it.l5.length (j9 it.l5)], .int .i64 ((pc : Nat) : Int)] h (kJ ((c9 u it).getD pc g5) pc) := by
  refine .bz Tryz.f47 16 ?_
  have w1 := w.lo
  have w2 := w.hi
  have hsz : (c9 u it).length ≤ 1664 := s4 hu w
  refine c258z ?_
  refine .ca rfl rfl ((DH ((c9 u it).getD pc g5)).mono fun y k hq => ⟨hq.1.trans (DF ho), hq.2⟩) ?_
  refine .n ?_
  refine c219z ?_
  refine n4.cq rfl (iX rfl rfl sU) hb139 ((M5 pc _ (by omega)).mono fun y k hq => ⟨hq.1.trans (if_pos ht), hq.2⟩) ?_
  refine .n ?_
  exact .ret (.ex (hq := by (exact (M4 ho ht).symm)))
theorem c_next6 (hu : WU u) (w : WIt u it) (hpc : pc < (c9 u it).length) (ho : ((c9 u it).getD pc g5).op = 6) (ht : ¬ ((c9 u it).getD pc g5).target = (pc : Int) + 1) : CB 47 [.agg [.vec u.globals.length (j9 u.globals), .vec u.c4.length (g9 u.c4), .vec u.procs.length (n7 u.procs), .int .i64 u.main], .agg [.int .i64 it.proc, .vec it.l5.length (j9 it.l5)], .int .i64 ((pc : Nat) : Int)] h (kJ ((c9 u it).getD pc g5) pc) := by
  refine .bz Tryz.f47 16 ?_
  have w1 := w.lo
  have w2 := w.hi
  have hsz : (c9 u it).length ≤ 1664 := s4 hu w
  refine c258z ?_
  refine .ca rfl rfl ((DH ((c9 u it).getD pc g5)).mono fun y k hq => ⟨hq.1.trans (DF ho), hq.2⟩) ?_
  refine .n ?_
  refine c219z ?_
  refine n4.cq rfl (iX rfl rfl sU) hb139 ((M5 pc _ (by omega)).mono fun y k hq => ⟨hq.1.trans (if_neg ht), hq.2⟩) ?_
  refine .n ?_
  exact .ret (.ex (hq := by (exact (CY ho ht).symm)))
theorem c_nextn (hu : WU u) (w : WIt u it) (hpc : pc < (c9 u it).length) (h8 : ¬ ((c9 u it).getD pc g5).op = 8) (h7 : ¬ ((c9 u it).getD pc g5).op = 7) (h6 : ¬ ((c9 u it).getD pc g5).op = 6) : CB 47 [.agg [.vec u.globals.length (j9 u.globals), .vec u.c4.length (g9 u.c4), .vec u.procs.length (n7 u.procs), .int .i64 u.main], .agg [.int .i64 it.proc, .vec it.l5.length (j9 it.l5)], .int .i64 ((pc : Nat) : Int)] h (kJ ((c9 u it).getD pc g5) pc) := by
  refine .bz Tryz.f47 16 ?_
  have w1 := w.lo
  have w2 := w.hi
  have hsz : (c9 u it).length ≤ 1664 := s4 hu w
  refine c258z ?_
  refine .ca rfl rfl ((DH ((c9 u it).getD pc g5)).mono fun y k hq => ⟨hq.1.trans (NH h8 h7 h6), hq.2⟩) ?_
  refine .n ?_
  refine c219z ?_
  refine n4.cq rfl (iX rfl rfl zL) hb140 (DE pc (by omega)) ?_
  refine .n ?_
  exact .ret (.ex (hq := by (exact (CZ h8 h7 h6).symm)))
theorem DI (hu : WU u) (w : WIt u it) (hpc : pc < (c9 u it).length) : CB 47 [.agg [.vec u.globals.length (j9 u.globals), .vec u.c4.length (g9 u.c4), .vec u.procs.length (n7 u.procs), .int .i64 u.main], .agg [.int .i64 it.proc, .vec it.l5.length (j9 it.l5)], .int .i64 ((pc : Nat) : Int)] h (kJ ((c9 u it).getD pc g5) pc) := by
  by_cases h8 : ((c9 u it).getD pc g5).op = 8
  · exact c_next8 hu w hpc h8
  by_cases h7 : ((c9 u it).getD pc g5).op = 7
  · exact c_next7 hu w hpc h7
  by_cases h6 : ((c9 u it).getD pc g5).op = 6
  · by_cases ht : ((c9 u it).getD pc g5).target = (pc : Int) + 1
    · exact KI hu w hpc h6 ht
    · exact c_next6 hu w hpc h6 ht
  exact c_nextn hu w hpc h8 h7 h6
variable {t : Int}
theorem kW_1 (h : a < t) : kW [a] t = 1 := by simp [kW, List.takeWhile, h]
theorem kW_0 (h : ¬ a < t) : kW [a] t = 0 := by simp [kW, List.takeWhile, h]
theorem DJ (h : x.op = 6) : AV.vec (iN [(pc : Int) + 1] x.target).length (j9 (iN [(pc : Int) + 1] x.target)) = kJ x pc := by
  by_cases h2 : x.target = (pc : Int) + 1
  · rw [M4 h h2, iN, if_pos (by simp [h2])]; rw [h2]; rfl
  · rw [CY h h2, iN, if_neg t90]
    by_cases h3 : (pc : Int) + 1 < x.target
    · rw [kW_1 h3, show min x.target ((pc : Int) + 1) = (pc : Int) + 1 from by omega, show max x.target ((pc : Int) + 1) = x.target from by omega]; rfl
    · rw [kW_0 h3, show min x.target ((pc : Int) + 1) = x.target from by omega, show max x.target ((pc : Int) + 1) = (pc : Int) + 1 from by omega]; rfl
theorem c_with1 {b1 b2 : Blk} : CH 41 [.own (h.length + 3) g 0 1, .int .i64 t] (h ++ [b0, b1, b2, ⟨g, false, 3, 1, [.int .i64 a], 0⟩]) (.vec (iN [a] t).length (j9 (iN [a] t))) (h ++ [b0, b1, b2, ⟨g, false, 3, 1, [.int .i64 a], 1⟩]) := by
  refine CallA.vF (β := h.length + 3) (off := 0) (len := 1) (b := ⟨g, false, 3, 1, [.int .i64 a], 0⟩) (cs := j9 [a]) (args' := [.vec 1 (j9 [a]), .int .i64 t]) t30 rfl (by simp) rfl ⟨.inr ⟨rfl, rfl⟩, .inl rfl, trivial⟩ ?_
  rw [o8]
  exact CM (h := h ++ [b0, b1, b2, ⟨g, false, 3, 1, [.int .i64 a], 1⟩]) [a] t (by simp)
theorem c_nextR (hu : WU u) (w : WIt u it) (hpc : pc < (c9 u it).length) : CB 32 [.agg [.vec u.globals.length (j9 u.globals), .vec u.c4.length (g9 u.c4), .vec u.procs.length (n7 u.procs), .int .i64 u.main], .agg [.int .i64 it.proc, .vec it.l5.length (j9 it.l5)], .int .i64 ((pc : Nat) : Int)] h (kJ ((c9 u it).getD pc g5) pc) := by
  refine .bz Tryz.f32 38 ?_
  have w1 := w.lo
  have w2 := w.hi
  have hsz : (c9 u it).length ≤ 1664 := s4 hu w
  refine c57z ?_
  refine c39z ?_
  refine .seq ?_
  refine .c8 [2, 7] ?_
  refine c25z ?_
  refine .z ?_
  refine u2z ?_ ?_
  ·intro e1 qe1
   refine .z ?_
   exact .ret (.ex (hf := t159) (hq := t60))
  intro e1 qe1
  refine .z ?_
  refine u2z ?_ ?_
  ·intro e2 qe2
   refine .z ?_
   exact .ret (.ex (hf := t159) (hq := t60))
  intro e2 qe2
  refine .z ?_
  refine u2z ?_ ?_
  ·intro e3 qe3
   refine .c8 [2, 7] ?_
   refine c27z ?_
   refine .ch rfl rfl (c_with1) ?_
   refine .n ?_
   exact .ret (.ex (hf := t159) (hq := t60))
  intro e3 qe3
  refine c3z ?_
  refine .c8 [2] ?_
  refine .z ?_
  exact .ret (.ex (hf := t159) (hq := t60))
end Go.Proofs.YtapdldekgbbomaaGreat
end
section
namespace Go.Un
open Go.Ab
def DK (n : Nat) : AV := .int .i64 (n : Int)
def DL (l : List Nat) : AV := .vec l.length (l.map DK)
variable {i : Nat}
theorem read1N {l : List Nat} (h : i < l.length) : List.take 1 (List.drop i (l.map DK)) = [AV.int .i64 ((l.getD i 0 : Nat) : Int)] := by
 rw [← List.map_drop, ← List.map_take, List.drop_eq_getElem_cons h, List.take_succ_cons, List.take_zero]
 simp [List.getD, h, DK]
theorem i64_63 (n : Int) (h0 : 0 ≤ n) (h1 : n < 2 ^ 63) : IntKind.wrap .i64 n = n := wrap64 (by omega) (by omega)
theorem orN {a b : Nat} (ha : a < 512) (hb : b < 512) : bits .or .i64 (a : Int) (b : Int) = ((a ||| b : Nat) : Int) := (bits_nat .i64 63 (by decide) i64_63 a b (by omega) (by omega)).2
def dhV (k : Nat) (n : Int) (d : Nat) : Nat := if 0 ≤ (d : Int) + n ∧ (d : Int) + n ≤ k then 2 ^ ((d : Int) + n).toNat else 0
def dhN (k : Nat) (n : Int) : List Nat := (List.range (k + 1)).map (dhV k n)
def hasD (s : Nat) (d : Int) : Bool := decide (0 ≤ d ∧ d ≤ 8) && s.testBit d.toNat
theorem testAll : ((List.range 9).all fun m => (List.range 512).all fun s => (bits .and .i64 ((s : Int).fdiv (2 ^ (min m 64))) 1 == 1) == s.testBit m) = true := by kernel_rfl
variable {s : Nat}
theorem testN {m : Nat} (hm : m ≤ 8) (hs : s < 512) : (bits .and .i64 ((s : Int).fdiv (2 ^ (min m 64))) 1 == 1) = s.testBit m := by
 have h1 := List.all_eq_true.1 testAll m (List.mem_range.2 (by omega))
 have h2 := List.all_eq_true.1 h1 s (List.mem_range.2 hs)
 simpa using h2
theorem hasN (hi : i ≤ 8) : hasD s (i : Int) = s.testBit i := by
 have : 0 ≤ (i : Int) ∧ (i : Int) ≤ 8 := by omega
 simp [hasD, this]
def eY (r : List Nat) (s : Nat) : Nat → Nat
 | 0 => 0
 | i + 1 => if s.testBit i then eY r s i ||| r.getD i 0 else eY r s i
def applyN (r : List Nat) (s : Nat) : Nat := eY r s r.length
variable {r : List Nat}
theorem DM (hr : ∀ x ∈ r, x < 512) (i : Nat) : r.getD i 0 < 512 := by
 rw [List.getD_eq_getElem?_getD]
 cases h : r[i]? with
 | none => simp
 | some x => exact hr x (List.mem_of_getElem? h)
theorem or_lt {a b : Nat} (ha : a < 512) (hb : b < 512) : a ||| b < 512 := Nat.or_lt_two_pow (n := 9) ha hb
theorem lT {r : List Nat} (hr : ∀ x ∈ r, x < 512) (s : Nat) : ∀ i, eY r s i < 512
 | 0 => by simp [eY]
 | i + 1 => by
  unfold eY
  split
  ·exact or_lt (lT hr s i) (DM hr i)
  ·exact lT hr s i
theorem applyT (h : s.testBit i = true) : eY r s (i + 1) = eY r s i ||| r.getD i 0 := by rw [eY, if_pos h]
theorem applyF (h : s.testBit i = false) : eY r s (i + 1) = eY r s i := by rw [eY, if_neg (by simp [h])]
def withinN (x m : Int) : Nat := (within x m).toNat
def relV (l : List Int) (k d : Nat) : Nat := if d < l.length then withinN (l.getD d 0) ((2 ^ (k + 1) : Nat) : Int) else 0
def UM (l : List Int) (k : Nat) : List Nat := (List.range (k + 1)).map (relV l k)
theorem KJ {n d : Nat} {f : Nat → Nat} (hd : d < n) : ((List.range n).map f).getD d 0 = f d := by simp [List.getD, hd]
theorem rel_len (l : List Int) (k : Nat) : (UM l k).length = k + 1 := by simp [UM]
theorem sh_len (k : Nat) (n : Int) : (dhN k n).length = k + 1 := by simp [dhN]
theorem sh_lt {k : Nat} {n : Int} (hk : k ≤ 8) : ∀ x ∈ dhN k n, x < 512 := by
 intro x hx
 obtain ⟨d, hd, rfl⟩ := List.mem_map.1 hx
 unfold dhV
 split
 ·rename_i h
  have : ((d : Int) + n).toNat ≤ 8 := by omega
  exact Nat.lt_of_le_of_lt (Nat.pow_le_pow_right (by decide) this) (by decide)
 ·decide
theorem map_ext {n : Nat} {f g : Nat → Nat} (h : ∀ d, d < n → f d = g d) : (List.range n).map f = (List.range n).map g := dS fun d hd => h d (List.mem_range.1 hd)
theorem pY (l : List Int) (k : Nat) : UM l k = (List.range (UM l k).length).map fun d => (UM l k).getD d 0 := by
 rw [rel_len]
 exact map_ext fun d hd => by rw [UM, KJ hd]
section
variable (u : Un) (c : Clo) (m : Nat)
end
section
variable {u : Un} {c : Clo} {m : Nat}
end
section
variable (u : Un) (c : Clo) (m : Nat)
end
section
variable {u : Un} {c : Clo} {m : Nat}
end
end Go.Un
end
section
namespace Go.Proofs.YtapdldekgbbomaaGreat
open Go.Ab Go.Un
theorem cellN_I (l : List Nat) : l.map DK = j9 (l.map fun n : Nat => (n : Int)) := by simp [j9, DK, Function.comp_def]
theorem vecN_I (l : List Nat) : DL l = .vec (l.map fun n : Nat => (n : Int)).length (j9 (l.map fun n : Nat => (n : Int))) := by simp [DL, cellN_I]
theorem vec_sh (k : Nat) (n : Int) : AV.vec (shI k n).length (j9 (shI k n)) = DL (dhN k n) := by
  have : shI k n = (dhN k n).map fun n : Nat => (n : Int) := by
    unfold shI dhN
    rw [List.map_map]
    refine List.map_congr_left fun d _ => ?_
    unfold shV dhV
    simp only [Function.comp_apply]
    split <;> simp
  rw [vecN_I, this]
attribute [local go_sem] rd DL n5 Int.natCast_nonneg Int.natCast_inj read1N testN hasN orN List.length_set List.length_replicate Int.toNat_natCast_add_one kV List.length_map wrap64 pU max2 kA
variable {h : c7}
theorem c_has8 (s : Nat) (d : Int) (hs : s < 512) : CB 80 [.int .i64 ((s : Nat) : Int), .int .i64 d] h (.bool (hasD s d)) := by
  refine .bz Tryz.f80 18 ?_
  refine .z ?_
  refine c20z ?_
  refine .spl 7 rfl rfl (fun e1 => ?_) (fun e1 => ?_)
  ·try simp only [e1]
   have qe1 := fact e1
   refine .k 4 [(2, 7)] ?_
   refine .spl 11 rfl rfl (fun e2 => ?_) (fun e2 => ?_)
   ·try simp only [e2]
    have qe2 := fact e2
    refine .m [(6, 11)] ?_
    refine c4z ?_
    exact ⟨[], _, (List.append_nil _).symm, t46, t66⟩
   try simp only [e2]
   have qe2 := fact e2
   refine .m [(6, 11)] ?_
   refine c4z ?_
   exact ⟨[], _, (List.append_nil _).symm, t46, t66⟩
  try simp only [e1]
  have qe1 := fact e1
  refine .k 8 [(2, 7), (6, 11)] ?_
  refine .m [(6, 11)] ?_
  refine c4z ?_
  exact ⟨[], _, (List.append_nil _).symm, t46, t66⟩
theorem c_appM (r : List Nat) (s : Nat) (hr : ∀ x ∈ r, x < 512) (hs : s < 512) (hl : r.length ≤ 9) : CB 81 [DL r, .int .i64 ((s : Nat) : Int)] h (.int .i64 ((applyN r s : Nat) : Int)) := by
  refine .bz Tryz.f81 25 ?_
  refine c72z ?_
  refine .gC (fun m st => ∃ (i : Nat), (m = r.length - i ∧ i ≤ r.length) ∧ st = ⟨mkS 25 [(1, AV.int .i64 ((s : Nat) : Int)), (5, AV.int .i64 ((eY r s i : Nat) : Int)), (8, DL r), (9, AV.int .i64 ((r.length : Nat) : Int)), (10, AV.int .i64 ((i : Nat) : Int))], h⟩) _ (.v ⟨0, ⟨rfl, by omega⟩, rfl⟩ (hs := t77)) ?_
  rintro m sl h' ⟨i, ⟨hm, hi⟩, hst⟩
  obtain ⟨rfl, rfl⟩ := St.mk.inj hst
  have hacc := lT hr s i; have hgi := DM hr i
  refine c13z ?_
  refine u2z ?_ ?_
  ·intro e1 qe1
   refine c5z ?_
   refine c172z ?_
   refine u2z ?_ ?_
   ·intro e2 qe2
    refine .c8 [1, 5, 7, 8, 9, 10] ?_
    refine c64z ?_
    exact ⟨_, by omega, .v ⟨(i + 1), ⟨rfl, by omega⟩, rfl⟩ (hs := t77)⟩
   intro e2 qe2
   refine c3z ?_
   refine .c8 [1, 5, 8, 9, 10] ?_
   refine .rz ?_
   exact ⟨_, by omega, .v ⟨(i + 1), ⟨rfl, by omega⟩, rfl⟩ (hs := t77)⟩
  intro e1 qe1
  refine c202z ?_
  exact ⟨[], _, (List.append_nil _).symm, t46, by (show AV.int .i64 _ = _; rw [applyN, show i = r.length from by omega])⟩
theorem KK (r : List Nat) (s : Nat) (hr : ∀ x ∈ r, x < 512) (hs : s < 512) (hl : r.length ≤ 9) : CB 49 [DL r, .int .i64 ((s : Nat) : Int)] h (.int .i64 ((applyN r s : Nat) : Int)) := by
  refine .bz Tryz.f49 8 ?_
  refine .z ?_
  refine c38z ?_
  refine .ca rfl rfl (c_appM _ _ hr hs hl) ?_
  refine c158z ?_
  exact ⟨[], _, (List.append_nil _).symm, t46, by rfl⟩
end Go.Proofs.YtapdldekgbbomaaGreat
end
section
namespace Go.Un
open Go.Ab
def encPt (p : Int × Int) : List AV := [.int .i64 p.1, .int .i64 p.2]
def g8 (l : List (Int × Int)) : List AV := l.flatMap encPt
theorem q9 (l : List (Int × Int)) : (g8 l).length = 2 * l.length := bS _ 2 (fun _ => rfl) l
variable {i : Nat}
theorem lD {l : List (Int × Int)} (h : i < l.length) : List.take 2 (List.drop (i * 2) (g8 l)) = [.int .i64 (l.getD i (0, 0)).1, .int .i64 (l.getD i (0, 0)).2] := aR encPt 2 (fun _ => rfl) (0, 0) h
structure Cf where
 d : Int
 st : List (Int × Int)
deriving DecidableEq
def pW : Cf := ⟨0, []⟩
def wU (x : Cf) : List AV := [.int .i64 x.d, .vec x.st.length (g8 x.st)]
def o2 (l : List Cf) : List AV := l.flatMap wU
theorem bL (l : List Cf) : (o2 l).length = 2 * l.length := bS _ 2 (fun _ => rfl) l
theorem pC {l : List Cf} (h : i < l.length) : List.take 2 (List.drop (i * 2) (o2 l)) = [.int .i64 (l.getD i pW).d, .vec (l.getD i pW).st.length (g8 (l.getD i pW).st)] := aR wU 2 (fun _ => rfl) pW h
def ptI (c : Clo) (p : Int × Int) : v5 := c.insts.getD p.1.toNat c6
def ptX (u : Un) (c : Clo) (p : Int × Int) : Ins := (c9 u (ptI c p)).getD p.2.toNat g5
def ptC (c : Clo) (p : Int × Int) : Int := (c.calls.getD p.1.toNat []).getD p.2.toNat 0
def z1 (u : Un) (c : Clo) (m : Nat) (d : Int) (b : List (Int × Int)) (p : Int × Int) : List Cf :=
 if (ptX u c p).op = 8 then [⟨d, b⟩]
 else if (ptX u c p).op = 2 then [⟨d, b ++ [(p.1, p.2 + 1), (ptC c p, 0)]⟩]
 else if 0 ≤ d + chI (ptI c p) (ptX u c p) m ∧ d + chI (ptI c p) (ptX u c p) m ≤ (fC (u.c4.getD m s8) : Int) then (bO (ptX u c p) p.2.toNat).map fun k => ⟨d + chI (ptI c p) (ptX u c p) m, b ++ [(p.1, k)]⟩ else []
def eL (u : Un) (c : Clo) (m : Nat) (x : Cf) : List Cf := match x.st.getLast? with
 | none => []
 | some p => z1 u c m x.d x.st.dropLast p
variable {u : Un} {c : Clo} {m : Nat} {d : Int}
theorem T0 : eL u c m ⟨d, []⟩ = [] := rfl
variable {b : List (Int × Int)} {p : Int × Int}
theorem gX : eL u c m ⟨d, b ++ [p]⟩ = z1 u c m d b p := by
 simp [eL]
structure WPt (u : Un) (c : Clo) (p : Int × Int) : Prop where
 i0 : 0 ≤ p.1
 i1 : p.1 < c.insts.length
 p0 : 0 ≤ p.2
 p1 : p.2 < (c9 u (ptI c p)).length
structure WCf (u : Un) (c : Clo) (m n : Nat) (x : Cf) : Prop where
 d0 : 0 ≤ x.d
 d1 : x.d ≤ (fC (u.c4.getD m s8) : Int)
 pt : ∀ p ∈ x.st, WPt u c p
 len : x.st.length ≤ n
variable {n : Nat} {x : Cf}
theorem WCf.mono {k : Nat} (h : WCf u c m n x) (hk : n ≤ k) : WCf u c m k x := ⟨h.d0, h.d1, h.pt, Nat.le_trans h.len hk⟩
theorem WPt.nat (h : WPt u c p) : ∃ i pc : Nat, p = ((i : Int), (pc : Int)) ∧ i < c.insts.length ∧ pc < (c9 u (c.insts.getD i c6)).length := by
 obtain ⟨a, b⟩ := p
 obtain ⟨h1, h2, h3, h4⟩ := h
 obtain ⟨i, rfl⟩ := Int.eq_ofNat_of_zero_le h1
 obtain ⟨pc, rfl⟩ := Int.eq_ofNat_of_zero_le h3
 simp only [ptI, Int.toNat_natCast] at h4
 exact ⟨i, pc, rfl, t90, by simpa using h4⟩
variable {pc : Nat}
theorem WPt.of (h1 : i < c.insts.length) (h2 : pc < (c9 u (c.insts.getD i c6)).length) : WPt u c ((i : Int), (pc : Int)) := ⟨by simp, t114, by simp, by simpa [ptI] using h2⟩
theorem WCf.snoc (h : WCf u c m n x) (hn : 0 < x.st.length) : ∃ (b : List (Int × Int)) (i pc : Nat), x = ⟨x.d, b ++ [((i : Int), (pc : Int))]⟩ ∧ i < c.insts.length ∧ pc < (c9 u (c.insts.getD i c6)).length ∧ b.length + 1 = x.st.length := by
 obtain ⟨d, st⟩ := x
 have hne : st ≠ [] := fun e => by subst e; simp at hn
 obtain ⟨i, pc, he, h1, h2⟩ := (h.pt (st.getLast hne) (List.getLast_mem hne)).nat
 refine ⟨st.dropLast, i, pc, ?_, h1, h2, ?_⟩
 ·rw [← he, List.dropLast_concat_getLast]
 ·simp only [List.length_dropLast]
  simp only at hn
  omega
theorem op_next (hu : WU u) {it : v5} (w : WIt u it) (hpc : pc < (c9 u it).length) (h8 : ¬ ((c9 u it).getD pc g5).op = 8) : pc + 1 < (c9 u it).length := by
 obtain ⟨_, h2, _⟩ := kT hu w
 by_cases e : pc = (c9 u it).length - 1
 ·rw [← e] at h2; exact absurd h2 h8
 ·omega
theorem KL (hu : WU u) (wc : WC u c) (hd0 : 0 ≤ d) (hd1 : d ≤ (fC (u.c4.getD m s8) : Int)) (hb : ∀ p ∈ b, WPt u c p) (hn : b.length + 1 ≤ n) (hi : i < c.insts.length) (hpc : pc < (c9 u (c.insts.getD i c6)).length) :
  ∀ y ∈ z1 u c m d b ((i : Int), (pc : Int)), WCf u c m (n + 1) y := by
 have w : WIt u (c.insts.getD i c6) := wc.wi _ (j8 hi)
 have eX : ptX u c ((i : Int), (pc : Int)) = (c9 u (c.insts.getD i c6)).getD pc g5 := rfl
 have eI : ptI c ((i : Int), (pc : Int)) = c.insts.getD i c6 := rfl
 have eC : ptC c ((i : Int), (pc : Int)) = (c.calls.getD i []).getD pc 0 := rfl
 intro y hy
 unfold z1 at hy
 rw [eX, eI, eC] at hy
 simp only [Int.toNat_natCast] at hy
 split at hy
 ·replace hy := s6z hy
  subst hy
  exact ⟨hd0, hd1, hb, t79⟩
 ·rename_i h8
  split at hy
  ·rename_i h2
   replace hy := s6z hy
   subst hy
   have hnx := op_next hu w hpc h8
   obtain ⟨c1, c2, c3⟩ := (wc.call i hi pc hpc).1 (.inl h2)
   refine ⟨hd0, hd1, fun p hp => ?_, t76⟩
   simp only [List.mem_append, List.mem_cons, List.not_mem_nil, or_false] at hp
   rcases hp with hp | rfl | rfl
   ·exact hb p hp
   ·have := WPt.of (u := u) hi hnx
    simpa using this
   ·have w2 : WIt u (c.insts.getD ((c.calls.getD i []).getD pc 0).toNat c6) := wc.wi _ (j8 (by omega))
    exact ⟨c1, c2, Int.le_refl _, by have := (kT hu w2).1; show (0 : Int) < ((c9 u (c.insts.getD ((c.calls.getD i []).getD pc 0).toNat c6)).length : Int); omega⟩
  ·split at hy
   ·rename_i hr
    obtain ⟨k, hk, rfl⟩ := List.mem_map.1 hy
    refine ⟨hr.1, hr.2, fun p hp => ?_, t76⟩
    simp only [List.mem_append, List.mem_cons, List.not_mem_nil, or_false] at hp
    rcases hp with hp | rfl
    ·exact hb p hp
    ·obtain ⟨j, hj, rfl⟩ := List.mem_iff_getElem.1 hk
     have := next_in hu w hpc j hj
     rw [List.getD_eq_getElem?_getD, List.getElem?_eq_getElem hj, Option.getD_some] at this
     exact ⟨by simp, by simpa using hi, this.1, this.2⟩
   ·simp at hy
theorem zM (hu : WU u) (wc : WC u c) (h : WCf u c m n x) : ∀ y ∈ eL u c m x, WCf u c m (n + 1) y := by
 by_cases hn : 0 < x.st.length
 ·obtain ⟨b, i, pc, he, hi, hpc, hl⟩ := h.snoc hn
  have hb : ∀ p ∈ b, WPt u c p := fun p hp => h.pt p (by rw [he]; exact List.mem_append.2 (.inl hp))
  have h1 := h.d0; have h2 := h.d1; have h3 := h.len
  rw [he, gX]
  exact KL hu wc h1 h2 hb (by omega) hi hpc
 ·obtain ⟨d, st⟩ := x
  have : st = [] := List.length_eq_zero_iff.1 (by simp only at hn; omega)
  subst this
  intro y hy
  simp [T0] at hy
theorem KM (hu : WU u) (wc : WC u c) {r : Int} (hr : r ∈ c.roots) : WCf u c m 1 ⟨0, [(r, 0)]⟩ := by
 obtain ⟨h0, h1⟩ := wc.rr r hr
 have w : WIt u (c.insts.getD r.toNat c6) := wc.wi _ (j8 (by omega))
 refine ⟨Int.le_refl _, by simp, fun p hp => ?_, by simp⟩
 replace hp := s6z hp
 subst hp
 exact ⟨h0, h1, Int.le_refl _, by have := (kT hu w).1; show (0 : Int) < ((c9 u (c.insts.getD r.toNat c6)).length : Int); omega⟩
theorem zN : (z1 u c m d b p).length ≤ 2 := by
 unfold z1
 split
 ·simp
 ·split
  ·simp
  ·split
   ·rw [List.length_map]; exact eF
   ·simp
theorem uC : (eL u c m x).length ≤ 2 := by
 unfold eL
 split
 ·simp
 ·exact zN
theorem mP : ∀ y ∈ z1 u c m d b p,
  y.st.length = (if (ptX u c p).op = 2 then b.length + 2 else if (ptX u c p).op = 8 then b.length else b.length + 1) ∧ (∀ j, j < b.length → y.st.getD j (0, 0) = b.getD j (0, 0)) ∧
  (-1 ≤ y.d - d ∧ y.d - d ≤ 1) ∧ (y.d - d ≠ 0 → (ptX u c p).op = 4 ∨ (ptX u c p).op = 5) := by
 intro y hy
 have app : ∀ (l : List (Int × Int)) (j : Nat), j < b.length → (b ++ l).getD j (0, 0) = b.getD j (0, 0) := fun l j hj => by
  simp [List.getD, List.getElem?_append_left hj]
 unfold z1 at hy
 split at hy
 ·rename_i h8
  replace hy := s6z hy
  subst hy
  refine ⟨by rw [if_neg (by omega), if_pos h8], fun j hj => rfl, ⟨?_, ?_⟩, fun h => ?_⟩ <;> simp only at * <;> omega
 ·rename_i h8
  split at hy
  ·rename_i h2
   replace hy := s6z hy
   subst hy
   refine ⟨by rw [if_pos h2]; simp, app _, ⟨?_, ?_⟩, fun h => ?_⟩ <;> simp only at * <;> omega
  ·rename_i h2
   split at hy
   ·obtain ⟨k, hk, rfl⟩ := List.mem_map.1 hy
    have hr := lC (it := ptI c p) (x := ptX u c p) (m := (m : Int))
    refine ⟨by rw [if_neg h2, if_neg h8]; simp, app _, ⟨?_, ?_⟩, fun h => ?_⟩ <;> simp only at *
    ·omega
    ·omega
    ·have hne : chI (ptI c p) (ptX u c p) (m : Int) ≠ 0 := by omega
     unfold chI at hne
     split at hne
     ·rename_i h4; exact .inl h4.1
     ·split at hne
      ·rename_i h5; exact .inr h5.1
      ·exact absurd rfl hne
   ·simp at hy
theorem zO (hd0 : 0 ≤ d) (hd1 : d ≤ (fC (u.c4.getD m s8) : Int)) (h : z1 u c m d b p = []) :
  (chI (ptI c p) (ptX u c p) m = 1 ∧ d = (fC (u.c4.getD m s8) : Int) ∨ chI (ptI c p) (ptX u c p) m = -1 ∧ d = 0) ∧ ((ptX u c p).op = 4 ∨ (ptX u c p).op = 5) := by
 unfold z1 at h
 split at h
 ·simp at h
 ·rename_i h8
  split at h
  ·simp at h
  ·split at h
   ·have h1 := DA (pc := p.2.toNat) h8
    have h2 := congrArg List.length h
    rw [List.length_map, List.length_nil] at h2
    omega
   ·rename_i hr
    have hc := lC (it := ptI c p) (x := ptX u c p) (m := (m : Int))
    have key : chI (ptI c p) (ptX u c p) m = 1 ∧ d = (fC (u.c4.getD m s8) : Int) ∨ chI (ptI c p) (ptX u c p) m = -1 ∧ d = 0 := by omega
    refine ⟨key, ?_⟩
    have hne : chI (ptI c p) (ptX u c p) (m : Int) ≠ 0 := by omega
    unfold chI at hne
    split at hne
    ·rename_i h4; exact .inl h4.1
    ·split at hne
     ·rename_i h5; exact .inr h5.1
     ·exact absurd rfl hne
end Go.Un
end
section
namespace Go.Proofs.YtapdldekgbbomaaGreat
open Go.Ab Go.Un
attribute [local go_sem] n5 z7 r9 aD n6 Int.natCast_nonneg Int.natCast_inj List.length_map bQ hB_1 hB_2 hB_5 QJ QK QL QM eB wJ eK C5
variable {c : Core} {e : Frame} {left I : Int}
theorem NI {l : c7} (hc : OkC c) (hI : OkI c.L I) (hL : c.L.length < 4611686018427387904) (vars : List BA) (hN : vars.length < 1000) (f : Fu) (hp : f.params.length ≤ 2) : CH 60 [.ptr 5 0 0, .agg (dF f), .vec vars.length (z5 vars)] (hB c e I left ++ l) (.agg (I6 (s5 c f.params vars I).1)) (hB c e (s5 c f.params vars I).2 left ++ l) := c_ref (e := ⟨e.b0, e.b1, e.b2, e.z, e.m, e.g, e.rest ++ l⟩) hc hI hL vars hN f hp
variable {n : Nat}
theorem M6 {c : Core} {e : Frame} {I left : Int} {fb rb : Blk} {g : Nat} {zs : List AV} {x1 x2 x3 x4 x5 x6 x7 : AV} (hz : zs.length = n * 7) (hn : n < 1000) :
    j6 cfg 178 (hB c e I left ++ [fb, rb, p6 178 7 g zs, ⟨0, false, 178, 7, [x1, x2, x3, x4, x5, x6, x7], 0⟩]) (.own (e.n + 2) g 0 n) (.own (e.n + 3) 0 0 1) = some (.own (e.n + 2) (g + 1) 0 (n + 1), hB c e I left ++ [fb, rb, p6 178 7 (g + 1) (zs ++ [x1, x2, x3, x4, x5, x6, x7]), ⟨0, false, 178, 7, [x1, x2, x3, x4, x5, x6, x7], 0⟩]) := by
  have hb : (hB c e I left ++ [fb, rb, p6 178 7 g zs, ⟨0, false, 178, 7, [x1, x2, x3, x4, x5, x6, x7], 0⟩])[e.n + 2]? = some (p6 178 7 g zs) := eB
  rw [w9 (C := cfg) (K := 7) (m := 1) (new := [x1, x2, x3, x4, x5, x6, x7]) hb rfl (by omega) hz rfl (by omega) t120 rfl (by decide) (by omega), eK]
  rfl
theorem DN {c : Core} {e : Frame} {I left : Int} {fb rb : Blk} {g : Nat} {zs : List AV} {x1 x2 x3 : AV} {x : Ex} (hz : zs.length = n * 7) (hn : n < 1000) :
    j6 cfg 178 (hB c e I left ++ [fb, rb, p6 178 7 g zs, ⟨0, false, 178, 7, x1 :: x2 :: x3 :: r8 x, 0⟩]) (.own (e.n + 2) g 0 n) (.own (e.n + 3) 0 0 1) = some (.own (e.n + 2) (g + 1) 0 (n + 1), hB c e I left ++ [fb, rb, p6 178 7 (g + 1) (zs ++ x1 :: x2 :: x3 :: r8 x), ⟨0, false, 178, 7, x1 :: x2 :: x3 :: r8 x, 0⟩]) := by
  rw [aY]
  exact M6 hz hn
variable {ps l : List Pm} {vars : List BA} {j : Nat} {J : Int}
theorem args_t (h : j < l.length) (hm : (l.getD j gG).mu = true) : v9 c ps vars (l.drop j) J = (⟨true, (s5 c ps vars J).1, l4⟩ :: (v9 c ps vars (l.drop (j + 1)) (s5 c ps vars J).2).1, (v9 c ps vars (l.drop (j + 1)) (s5 c ps vars J).2).2) := by
  rw [List.drop_eq_getElem_cons h, v9, if_pos (by simpa [List.getD, h] using hm)]
theorem args_f (h : j < l.length) (hm : (l.getD j gG).mu = false) : v9 c ps vars (l.drop j) J = (⟨false, l8, (j0 c vars J).1⟩ :: (v9 c ps vars (l.drop (j + 1)) (j0 c vars J).2).1, (v9 c ps vars (l.drop (j + 1)) (j0 c vars J).2).2) := by
  rw [List.drop_eq_getElem_cons h, v9, if_neg (by rw [show l[j].mu = (l.getD j gG).mu from by simp [List.getD, h], hm]; decide)]
theorem uD {l : List Ar} {a : Ar} : aT (l ++ [a]) = aT l ++ T7 a := by simp [aT]
theorem refs_A {l : List Ar} : ∀ x ∈ aT l, Refs n x := by
  intro x hx
  obtain ⟨a, _, hx⟩ := List.mem_flatMap.1 hx
  simp only [T7, aY, List.mem_cons, List.not_mem_nil, or_false] at hx
  rcases hx with rfl | rfl | rfl | rfl | rfl | rfl | rfl
  · exact .bool _
  · exact .str _
  · exact .vec _ _
  · exact .int _ _
  · exact .int _ _
  · exact .str _
  · exact .vec _ _
theorem zP {J' : Int} {xs : List Ar} {a : Ar} (h : v9 c ps vars l I = (xs ++ (v9 c ps vars (l.drop j) J).1, (v9 c ps vars (l.drop j) J).2)) (hs : v9 c ps vars (l.drop j) J = (a :: (v9 c ps vars (l.drop (j + 1)) J').1, (v9 c ps vars (l.drop (j + 1)) J').2)) : v9 c ps vars l I = ((xs ++ [a]) ++ (v9 c ps vars (l.drop (j + 1)) J').1, (v9 c ps vars (l.drop (j + 1)) J').2) := by
  rw [h, hs]
  simp only [List.append_assoc, List.cons_append, List.nil_append]
section
attribute [local go_sem] eT wrap64 dF I6 M6 DN jQ yT pU
theorem c_args (hc : OkC c) (hI : OkI c.L I) (hL : c.L.length < 4611686018427387904) (vars : List BA) (hN : vars.length < 1000) (f g : Fu) (hp : f.params.length ≤ 2) (hq : g.params.length ≤ 2) : CH 62 [.ptr 5 0 0, .agg (dF f), .agg (dF g), .vec vars.length (z5 vars)] (hB c e I left) (.vec (v9 c f.params vars g.params I).1.length (aT (v9 c f.params vars g.params I).1)) (hB c e (v9 c f.params vars g.params I).2 left) := by
  refine .wz Tryz.f62 40 ?_
  refine c72z ?_
  refine g6.tF 9 rfl ?_
  refine .bX (fun m st => ∃ (j : Nat) (J : Int) (xs : List Ar), (m = g.params.length - j ∧ (j ≤ g.params.length ∧ OkI c.L J ∧ xs.length = j ∧ v9 c f.params vars g.params I = (xs ++ (v9 c f.params vars (g.params.drop j) J).1, (v9 c f.params vars (g.params.drop j) J).2))) ∧ st = ⟨mkS 40 [(0, AV.ptr 5 0 0), (3, AV.vec vars.length (z5 vars)), (5, AV.ptr e.n 0 0), (6, AV.ptr (e.n + 1) 0 0), (9, AV.own (e.n + 2) j 0 j), (10, AV.int .i64 ((j : Nat) : Int))], hB c e J left ++ [⟨0, false, 106, 3, [.str f.name, .vec f.params.length (u3 f.params), .vec f.body.len (o3 f.body)], 0⟩, ⟨0, false, 106, 3, [.str g.name, .vec g.params.length (u3 g.params), .vec g.body.len (o3 g.body)], 0⟩, p6 178 7 j (aT xs)]⟩) (.v ⟨0, I, [], ⟨rfl, ⟨by omega, hI, rfl, rfl⟩⟩, rfl⟩ (hs := t33) (hr := t1)) ?_
  rintro m sl h' ⟨j, J, xs, ⟨hm, ⟨hj, hJ, hal, hA⟩⟩, hst⟩
  obtain ⟨rfl, rfl⟩ := St.mk.inj hst; clear hst
  have hz7 : (aT xs).length = j * 7 := by rw [bY, hal]; omega
  refine c0z ?_
  refine u2z ?_ ?_
  ·intro e1 qe1
   refine c193z ?_
   refine u2z ?_ ?_
   ·intro e2 qe2
    refine .c8 [0, 3, 5, 6, 9, 10] ?_
    refine c164z ?_
    refine .ch rfl rfl (NI hc hJ hL vars hN f hp) ?_
    refine c92z ?_
    refine .c8 [0, 3, 5, 6, 9, 10] ?_
    refine g6.nilsO (β := e.n + 2) (aT (xs ++ [(⟨true, (s5 c f.params vars J).1, l4⟩ : Ar)])) t61 (by rw [uD]; exact (mK.refl _).app IS) ?_
    simp only [eK, List.set_cons_succ, List.set_cons_zero]
    refine .rz ?_
    exact ⟨_, by omega, .v ⟨(j + 1), (s5 c f.params vars J).2, (xs ++ [(⟨true, (s5 c f.params vars J).1, l4⟩ : Ar)]), ⟨rfl, ⟨by omega, (nR hc hJ).2, by simp [hal], zP hA (args_t (by omega) (by assumption))⟩⟩, rfl⟩ (he := t130) (hl := t24) (hk := t150) (hs := t33) (hr := t1)⟩
   intro e2 qe2
   refine .c8 [0, 3, 5, 6, 9, 10] ?_
   refine .r ?_
   refine .e 3 ?_
   refine .ch rfl rfl (K7 hc hJ hL vars hN) ?_
   refine c92z ?_
   refine g6.nilsO (β := e.n + 2) (aT (xs ++ [(⟨false, l8, (j0 c vars J).1⟩ : Ar)])) t61 (by rw [uD]; exact (mK.refl _).app BL) ?_
   simp only [eK, List.set_cons_succ, List.set_cons_zero]
   refine .rz ?_
   exact ⟨_, by omega, .v ⟨(j + 1), (j0 c vars J).2, (xs ++ [(⟨false, l8, (j0 c vars J).1⟩ : Ar)]), ⟨rfl, ⟨by omega, (iC hJ).2, by simp [hal], zP hA (args_f (by omega) (by assumption))⟩⟩, rfl⟩ (he := t130) (hl := t24) (hk := t150) (hs := t33) (hr := t1)⟩
  intro e1 qe1
  refine c8z ?_
  refine .c8 [9] ?_
  refine c43z ?_
  exact ⟨hB _ _ _ _, _, .vec xs.length (aT xs), rfl, t65, fW, by (show gL _ (hB c e J left ++ _) 6 (.own (e.n + 2) j 0 j) = _; rw [bQ, bT, if_neg (by omega), hal]; exact fK eB (by omega) (by rw [bY, hal]; omega) (by omega) frz_A), by refine ⟨?_, ?_⟩ <;> (rw [hA, List.drop_of_length_le (by omega)]; simp only [v9, List.append_nil])⟩
end
end Go.Proofs.YtapdldekgbbomaaGreat
end
section
namespace Go.Proofs.YtapdldekgbbomaaGreat
open Go.Ab Go.Un
theorem c_argsA {c : Core} {e : Frame} {left I : Int} {l : c7} (hc : OkC c) (hI : OkI c.L I) (hL : c.L.length < 4611686018427387904) (vars : List BA) (hN : vars.length < 1000) (f g : Fu) (hp : f.params.length ≤ 2) (hq : g.params.length ≤ 2) : CH 62 [.ptr 5 0 0, .agg (dF f), .agg (dF g), .vec vars.length (z5 vars)] (hB c e I left ++ l) (.vec (v9 c f.params vars g.params I).1.length (aT (v9 c f.params vars g.params I).1)) (hB c e (v9 c f.params vars g.params I).2 left ++ l) := c_args (e := ⟨e.b0, e.b1, e.b2, e.z, e.m, e.g, e.rest ++ l⟩) hc hI hL vars hN f g hp hq
theorem sealC_n {l : List BA} : o6 nB (z5 l) = some (z5 l) := by
 induction l with
 | nil => rfl
 | cons x l ih =>
  have e : nB (.str x) = some (.str x) := rfl
  simp only [z5, List.map_cons, o6, e] at ih ⊢
  rw [ih]
variable {β : Nat}
theorem KN {H : c7} {b : Blk} (h : H[β]? = some b) : H.set β b = H := by
 obtain ⟨h1, h2⟩ := List.getElem?_eq_some_iff.1 h
 rw [← h2]
 exact List.set_getElem_self h1
variable {g : Nat}
theorem A6 {f : FuncId} {args args' : List AV} {H : c7} {Q : AV → c7 → Prop} {vs : List BA} (hb : H[β]? = some ⟨g, false, 9, 1, z5 vs, vs.length⟩) (ha : P1 β g 0 vs.length (z5 vs) args' args) (r : CallA Tryz.prog cfg f args' H Q) : CallA Tryz.prog cfg f args H Q := by
 have e : H.set β (cP ⟨g, false, 9, 1, z5 vs, vs.length⟩ (0 + vs.length * 1)) = H := by
  rw [show cP ⟨g, false, 9, 1, z5 vs, vs.length⟩ (0 + vs.length * 1) = ⟨g, false, 9, 1, z5 vs, vs.length⟩ from by simp [cP]]
  exact KN hb
 refine CallA.vF (β := β) (off := 0) (len := vs.length) (cs := z5 vs) hb rfl (by simp [z7]) ?_ ha (by rw [e]; exact r)
 simp only [List.drop_zero, Nat.mul_one]
 rw [List.take_of_length_le t143]
 exact sealC_n
theorem raise {c : Code} {sl : List AV} {h : c7} {Q : Exit → St → Prop} {k : Nat} {b : Blk} (hb : h[β]? = some b) (hk : b.frz ≤ k) (r : g6 Tryz.prog cfg c ⟨sl, h.set β ⟨b.gen, b.bN, b.elem, b.esz, b.cells, k⟩⟩ Q) : g6 Tryz.prog cfg c ⟨sl, h⟩ Q := by
 refine g6.step _ (fun B φ w i => ?_) r
 have := nE k i hb
 have e : cP b k = ⟨b.gen, b.bN, b.elem, b.esz, b.cells, k⟩ := by
  simp only [cP, Nat.max_eq_right hk]
 rw [e] at this
 exact this
section
variable {c : Core} {e : Frame} {I left : Int} {l : c7} {fb : Blk} {gv : Nat} {vs : List BA}
theorem hB_v : (hB c e I left ++ (fb :: ⟨gv, false, 9, 1, z5 vs, vs.length⟩ :: l))[e.n + 1]? = some ⟨gv, false, 9, 1, z5 vs, vs.length⟩ := eB
theorem lU (hc : OkC c) (hI : OkI c.L I) (hL : c.L.length < 4611686018427387904) (hN : vs.length < 1000) : CH 61 [.ptr 5 0 0, .own (e.n + 1) gv 0 vs.length] (hB c e I left ++ (fb :: ⟨gv, false, 9, 1, z5 vs, vs.length⟩ :: l)) (.agg (r8 (j0 c vs I).1)) (hB c e (j0 c vs I).2 left ++ (fb :: ⟨gv, false, 9, 1, z5 vs, vs.length⟩ :: l)) :=
 A6 (args' := [.ptr 5 0 0, .vec vs.length (z5 vs)]) hB_v ⟨.inl rfl, .inr ⟨rfl, rfl⟩, trivial⟩ (K7 hc hI hL vs hN)
theorem NJ (hc : OkC c) (hI : OkI c.L I) (hL : c.L.length < 4611686018427387904) (hN : vs.length < 1000) (f : Fu) (hp : f.params.length ≤ 2) : CH 60 [.ptr 5 0 0, .agg (dF f), .own (e.n + 1) gv 0 vs.length] (hB c e I left ++ (fb :: ⟨gv, false, 9, 1, z5 vs, vs.length⟩ :: l)) (.agg (I6 (s5 c f.params vs I).1)) (hB c e (s5 c f.params vs I).2 left ++ (fb :: ⟨gv, false, 9, 1, z5 vs, vs.length⟩ :: l)) :=
 A6 (args' := [.ptr 5 0 0, .agg (dF f), .vec vs.length (z5 vs)]) hB_v ⟨.inl rfl, .inl rfl, .inr ⟨rfl, rfl⟩, trivial⟩ (NI hc hI hL vs hN f hp)
theorem DO (hc : OkC c) (hI : OkI c.L I) (hL : c.L.length < 4611686018427387904) (hN : vs.length < 1000) (f g : Fu) (hp : f.params.length ≤ 2) (hq : g.params.length ≤ 2) : CH 62 [.ptr 5 0 0, .agg (dF f), .agg (dF g), .own (e.n + 1) gv 0 vs.length] (hB c e I left ++ (fb :: ⟨gv, false, 9, 1, z5 vs, vs.length⟩ :: l)) (.vec (v9 c f.params vs g.params I).1.length (aT (v9 c f.params vs g.params I).1)) (hB c e (v9 c f.params vs g.params I).2 left ++ (fb :: ⟨gv, false, 9, 1, z5 vs, vs.length⟩ :: l)) :=
 A6 (args' := [.ptr 5 0 0, .agg (dF f), .agg (dF g), .vec vs.length (z5 vs)]) hB_v ⟨.inl rfl, .inl rfl, .inl rfl, .inr ⟨rfl, rfl⟩, trivial⟩ (c_argsA hc hI hL vs hN f g hp hq)
def zQ (c : Core) (f : Fu) (fu : Nat) (left : Int) : Prop := ∀ {e : Frame} (I l' : Int) (vs all : List BA) (d m : Int), OkI c.L I → 0 ≤ l' → l' < left → 0 ≤ d → d ≤ 100 → 0 ≤ m → m ≤ 100 → (∀ x ∈ vs, x ∈ all) → Fr l'.toNat all → vs.length + l'.toNat ≤ 500 →
 CallA Tryz.prog cfg 34 [.ptr 5 0 0, .agg (dF f), .vec vs.length (z5 vs), .int .i64 d, .int .i64 m] (hB c e I l') (fun y' h' => y' = .vec (g7 c f.params fu vs d m I l').1.len (o3 (g7 c f.params fu vs d m I l').1) ∧ h' = hB c e (g7 c f.params fu vs d m I l').2.1 (g7 c f.params fu vs d m I l').2.2)
theorem zQ.V {f : Fu} {fu : Nat} {left0 : Int} (h : zQ c f fu left0) (l' : Int) (all : List BA) (d m : Int) (hI : OkI c.L I) (h1 : 0 ≤ l') (h2 : l' < left0) (h3 : 0 ≤ d) (h4 : d ≤ 100) (h5 : 0 ≤ m) (h6 : m ≤ 100) (h7 : ∀ x ∈ vs, x ∈ all) (h8 : Fr l'.toNat all) (h9 : vs.length + l'.toNat ≤ 500) :
  CallA Tryz.prog cfg 34 [.ptr 5 0 0, .agg (dF f), .own (e.n + 1) gv 0 vs.length, .int .i64 d, .int .i64 m] (hB c e I l' ++ (fb :: ⟨gv, false, 9, 1, z5 vs, vs.length⟩ :: l)) (fun y' h' => y' = .vec (g7 c f.params fu vs d m I l').1.len (o3 (g7 c f.params fu vs d m I l').1) ∧ h' = hB c e (g7 c f.params fu vs d m I l').2.1 (g7 c f.params fu vs d m I l').2.2 ++ (fb :: ⟨gv, false, 9, 1, z5 vs, vs.length⟩ :: l)) :=
 A6 (args' := [.ptr 5 0 0, .agg (dF f), .vec vs.length (z5 vs), .int .i64 d, .int .i64 m]) hB_v ⟨.inl rfl, .inl rfl, .inr ⟨rfl, rfl⟩, .inl rfl, .inl rfl, trivial⟩ (h (e := ⟨e.b0, e.b1, e.b2, e.z, e.m, e.g, e.rest ++ (fb :: ⟨gv, false, 9, 1, z5 vs, vs.length⟩ :: l)⟩) I l' vs all d m hI h1 h2 h3 h4 h5 h6 h7 h8 h9)
def gO (g n : Nat) : Nat := if n = 0 then g else g + 1
theorem KO (hn : vs.length < 1000) : j6 cfg 9 (hB c e I left ++ [fb, ⟨0, false, 9, 1, [], 0⟩]) (.own (e.n + 1) 0 0 0) (.vec vs.length (z5 vs)) = some (.own (e.n + 1) (gO 0 vs.length) 0 vs.length, hB c e I left ++ [fb, ⟨gO 0 vs.length, false, 9, 1, z5 vs, 0⟩]) := by
 have e1 : cfg.sz 9 = 1 := rfl
 have e2 : (cfg.ti 9).bytes = 16 := rfl
 have hm : vs.length ≤ maxLen := by
  have : (1000 : Nat) ≤ maxLen := by decide
  omega
 have hb : vs.length * 16 ≤ 140737488355328 := by omega
 cases vs with
 | nil => simp [j6, rd, lenOf, e1, e2, eB, gO, z5]
 | cons x vs =>
  have h0 : (z5 (x :: vs)).length = vs.length + 1 := by simp [z5]
  simp only [List.length_cons] at hm hb
  simp [j6, rd, lenOf, e1, e2, eB, gO, h0, hm, hb, eK]
variable {t : Blk}
theorem app_vs {O p : Blk} {x : BA} (hn : vs.length < 1000) : j6 cfg 9 (hB c e I left ++ [fb, ⟨gv, false, 9, 1, z5 vs, vs.length⟩, O, t, p, ⟨0, false, 9, 1, [.str x], 0⟩]) (.own (e.n + 1) gv 0 vs.length) (.own (e.n + 5) 0 0 1) = some (.own (e.n + 1) (gv + 1) 0 (vs.length + 1), hB c e I left ++ [fb, ⟨gv + 1, false, 9, 1, z5 (vs ++ [x]), vs.length⟩, O, t, p, ⟨0, false, 9, 1, [.str x], 0⟩]) := by
 have e1 : cfg.sz 9 = 1 := rfl
 have e2 : (cfg.ti 9).bytes = 16 := rfl
 have hm : vs.length + 1 ≤ maxLen := by
  have : (1001 : Nat) ≤ maxLen := by decide
  omega
 have hb : (vs.length + 1) * 16 ≤ 140737488355328 := by omega
 have ht : List.take vs.length (z5 vs) = z5 vs := List.take_of_length_le t143
 have hnl : ¬ vs.length + 1 ≤ vs.length := by omega
 simp [j6, rd, lenOf, e1, e2, eB, z7, hm, hb, eK, ht, hnl, iT]
variable {n : Nat} {zs : List AV}
theorem KP {vb t : Blk} {g : Nat} {x1 x2 x3 x4 x5 x6 x7 x8 x9 x10 x11 : AV} (hz : zs.length = n * 11) (hn : n < 1000) :
  j6 cfg 149 (hB c e I left ++ [fb, vb, p6 149 11 g zs, t, ⟨0, false, 149, 11, [x1, x2, x3, x4, x5, x6, x7, x8, x9, x10, x11], 0⟩]) (.own (e.n + 2) g 0 n) (.own (e.n + 4) 0 0 1) = some (.own (e.n + 2) (g + 1) 0 (n + 1), hB c e I left ++ [fb, vb, p6 149 11 (g + 1) (zs ++ [x1, x2, x3, x4, x5, x6, x7, x8, x9, x10, x11]), t, ⟨0, false, 149, 11, [x1, x2, x3, x4, x5, x6, x7, x8, x9, x10, x11], 0⟩]) := by
 have hb : (hB c e I left ++ [fb, vb, p6 149 11 g zs, t, ⟨0, false, 149, 11, [x1, x2, x3, x4, x5, x6, x7, x8, x9, x10, x11], 0⟩])[e.n + 2]? = some (p6 149 11 g zs) := eB
 rw [w9 (C := cfg) (K := 11) (m := 1) (new := [x1, x2, x3, x4, x5, x6, x7, x8, x9, x10, x11]) hb rfl (by omega) hz rfl (by omega) t120 rfl (by decide) (by omega), eK]
 rfl
theorem KQ {vb t u : Blk} {g : Nat} {x1 x2 x3 x4 x5 x6 x7 x8 x9 x10 x11 : AV} (hz : zs.length = n * 11) (hn : n < 1000) :
  j6 cfg 149 (hB c e I left ++ [fb, vb, p6 149 11 g zs, t, u, ⟨0, false, 149, 11, [x1, x2, x3, x4, x5, x6, x7, x8, x9, x10, x11], 0⟩]) (.own (e.n + 2) g 0 n) (.own (e.n + 5) 0 0 1) = some (.own (e.n + 2) (g + 1) 0 (n + 1), hB c e I left ++ [fb, vb, p6 149 11 (g + 1) (zs ++ [x1, x2, x3, x4, x5, x6, x7, x8, x9, x10, x11]), t, u, ⟨0, false, 149, 11, [x1, x2, x3, x4, x5, x6, x7, x8, x9, x10, x11], 0⟩]) := by
 have hb : (hB c e I left ++ [fb, vb, p6 149 11 g zs, t, u, ⟨0, false, 149, 11, [x1, x2, x3, x4, x5, x6, x7, x8, x9, x10, x11], 0⟩])[e.n + 2]? = some (p6 149 11 g zs) := eB
 rw [w9 (C := cfg) (K := 11) (m := 1) (new := [x1, x2, x3, x4, x5, x6, x7, x8, x9, x10, x11]) hb rfl (by omega) hz rfl (by omega) t120 rfl (by decide) (by omega), eK]
 rfl
theorem M7 {vb t u v : Blk} {g : Nat} {x1 x2 x3 x4 x5 x6 x7 x8 x9 x10 x11 : AV} (hz : zs.length = n * 11) (hn : n < 1000) :
  j6 cfg 149 (hB c e I left ++ [fb, vb, p6 149 11 g zs, t, u, v, ⟨0, false, 149, 11, [x1, x2, x3, x4, x5, x6, x7, x8, x9, x10, x11], 0⟩]) (.own (e.n + 2) g 0 n) (.own (e.n + 6) 0 0 1) = some (.own (e.n + 2) (g + 1) 0 (n + 1), hB c e I left ++ [fb, vb, p6 149 11 (g + 1) (zs ++ [x1, x2, x3, x4, x5, x6, x7, x8, x9, x10, x11]), t, u, v, ⟨0, false, 149, 11, [x1, x2, x3, x4, x5, x6, x7, x8, x9, x10, x11], 0⟩]) := by
 have hb : (hB c e I left ++ [fb, vb, p6 149 11 g zs, t, u, v, ⟨0, false, 149, 11, [x1, x2, x3, x4, x5, x6, x7, x8, x9, x10, x11], 0⟩])[e.n + 2]? = some (p6 149 11 g zs) := eB
 rw [w9 (C := cfg) (K := 11) (m := 1) (new := [x1, x2, x3, x4, x5, x6, x7, x8, x9, x10, x11]) hb rfl (by omega) hz rfl (by omega) t120 rfl (by decide) (by omega), eK]
 rfl
variable {m : Nat} {cs : List AV}
theorem DP {vb t u s : Blk} {g : Nat} (hz : zs.length = n * 11) (hcs : cs.length = m * 11) (hn : n < 1000) (hm : m < 1000) :
  j6 cfg 149 (hB c e I left ++ [fb, vb, p6 149 11 g zs, t, u, s]) (.own (e.n + 2) g 0 n) (.vec m cs) = some (.own (e.n + 2) (gO g m) 0 (n + m), hB c e I left ++ [fb, vb, p6 149 11 (gO g m) (zs ++ cs), t, u, s]) := by
 have hb : (hB c e I left ++ [fb, vb, p6 149 11 g zs, t, u, s])[e.n + 2]? = some (p6 149 11 g zs) := eB
 by_cases h0 : m = 0
 ·subst h0
  obtain rfl : cs = [] := List.length_eq_zero_iff.1 (by simpa using hcs)
  have e1 : cfg.sz 149 = 11 := rfl
  have e2 : (cfg.ti 149).bytes = 192 := rfl
  have hmx : n ≤ maxLen := by
   have : (1000 : Nat) ≤ maxLen := by decide
   omega
  have hbd : n * 192 ≤ 140737488355328 := by omega
  simp [j6, rd, lenOf, e1, e2, hb, G9, gO, hmx, hbd]
 ·rw [w9 (C := cfg) (K := 11) (m := m) (new := cs) hb rfl (by omega) hz hcs (by omega) rfl rfl (by decide) (by omega), eK]
  simp only [gO, h0, if_false]
  rfl
theorem KR {vb t u s : Blk} {g : Nat} {y1 y2 y3 y4 y5 y6 y7 y8 y9 y10 y11 : AV} (hz : zs.length = n * 11) (hcs : cs.length = m * 11) (hn : n < 900) (hm : m < 1000) :
  j6 cfg 149 (hB c e I left ++ [fb, vb, p6 149 11 g (zs ++ [y1, y2, y3, y4, y5, y6, y7, y8, y9, y10, y11]), t, u, s]) (.own (e.n + 2) g 0 (n + 1)) (.vec m cs) = some (.own (e.n + 2) (gO g m) 0 (n + 1 + m), hB c e I left ++ [fb, vb, p6 149 11 (gO g m) ((zs ++ [y1, y2, y3, y4, y5, y6, y7, y8, y9, y10, y11]) ++ cs), t, u, s]) :=
 DP (by rw [List.length_append, hz]; simp; omega) hcs (by omega) hm
theorem KS {vb t u v : Blk} {g : Nat} {y1 y2 y3 y4 y5 y6 y7 y8 y9 y10 y11 x1 x2 x3 x4 x5 x6 x7 x8 x9 x10 x11 : AV} (hz : zs.length = n * 11) (hcs : cs.length = m * 11) (hn : n < 400) (hm : m < 400) :
  j6 cfg 149 (hB c e I left ++ [fb, vb, p6 149 11 g (zs ++ y1 :: y2 :: y3 :: y4 :: y5 :: y6 :: y7 :: y8 :: y9 :: y10 :: y11 :: cs), t, u, v, ⟨0, false, 149, 11, [x1, x2, x3, x4, x5, x6, x7, x8, x9, x10, x11], 0⟩]) (.own (e.n + 2) g 0 (n + 1 + m)) (.own (e.n + 6) 0 0 1) = some (.own (e.n + 2) (g + 1) 0 (n + 1 + m + 1), hB c e I left ++ [fb, vb, p6 149 11 (g + 1) ((zs ++ y1 :: y2 :: y3 :: y4 :: y5 :: y6 :: y7 :: y8 :: y9 :: y10 :: y11 :: cs) ++ [x1, x2, x3, x4, x5, x6, x7, x8, x9, x10, x11]), t, u, v, ⟨0, false, 149, 11, [x1, x2, x3, x4, x5, x6, x7, x8, x9, x10, x11], 0⟩]) :=
 M7 (by rw [List.length_append, hz]; simp only [List.length_cons, hcs]; omega) (by omega)
end
theorem NK {n : Nat} : ∀ (s : Sl), ∀ x ∈ o3 s, Refs n x
 | .nil, x, hx => by simp [o3] at hx
 | .cons k nm e r as' th el rest, x, hx => by
  simp only [o3, aY, List.cons_append, List.nil_append, List.mem_cons] at hx
  rcases hx with rfl | rfl | rfl | rfl | rfl | rfl | rfl | rfl | rfl | rfl | rfl | hx
  ·exact .int _ _
  ·exact .str _
  ·exact .int _ _
  ·exact .int _ _
  ·exact .str _
  ·exact .vec _ _
  ·exact .str _
  ·exact .vec _ _
  ·exact .vec _ _
  ·exact .vec _ _
  ·exact .vec _ _
  ·exact NK rest x hx
theorem frz_S {n d : Nat} {H : c7} : ∀ (s : Sl), o6 (jD n H (d + 1)) (o3 s) = some (o3 s)
 | .nil => rfl
 | .cons k nm e r as' th el rest => by
  have ih := frz_S (n := n) (d := d) (H := H) rest
  simp only [o3, aY, List.cons_append, List.nil_append, o6, nL, nM, lL, ih]
theorem aJ {k : Int} {nm : BA} {x : Ex} {r : Rf} {xs : List Ar} {th el : Sl} {a b c d f : AV} (ha : a = .vec x.args.length (l7 x.args) ∨ (a = .j7 ∧ x.args = [])) (hb : b = .vec r.idx.length (l7 r.idx) ∨ (b = .j7 ∧ r.idx = [])) (hc : c = .vec xs.length (aT xs) ∨ (c = .j7 ∧ xs = []))
  (hd : d = .vec th.len (o3 th) ∨ (d = .j7 ∧ th = .nil)) (hf : f = .vec el.len (o3 el) ∨ (f = .j7 ∧ el = .nil)) :
  mK (o3 (row k nm x r xs th el)) [.int .i64 k, .str nm, .int .i64 x.op, .int .i64 x.num, .str x.name, a, .str r.name, b, c, d, f] := by
 simp only [row, o3, aY, List.cons_append, List.nil_append]
 refine ⟨.inl rfl, .inl rfl, .inl rfl, .inl rfl, .inl rfl, ?_, .inl rfl, ?_, ?_, ?_, ?_, trivial⟩
 ·rcases ha with rfl | ⟨rfl, h⟩
  ·exact .inl rfl
  ·rw [h]; exact .inr ⟨rfl, rfl⟩
 ·rcases hb with rfl | ⟨rfl, h⟩
  ·exact .inl rfl
  ·rw [h]; exact .inr ⟨rfl, rfl⟩
 ·rcases hc with rfl | ⟨rfl, h⟩
  ·exact .inl rfl
  ·rw [h]; exact .inr ⟨rfl, rfl⟩
 ·rcases hd with rfl | ⟨rfl, h⟩
  ·exact .inl rfl
  ·rw [h]; exact .inr ⟨rfl, rfl⟩
 ·rcases hf with rfl | ⟨rfl, h⟩
  ·exact .inl rfl
  ·rw [h]; exact .inr ⟨rfl, rfl⟩
theorem iY {k : Int} {nm : BA} {x : Ex} {r : Rf} {xs : List Ar} {th el : Sl} : o3 (row k nm x r xs th el) = [.int .i64 k, .str nm, .int .i64 x.op, .int .i64 x.num, .str x.name, .vec x.args.length (l7 x.args), .str r.name, .vec r.idx.length (l7 r.idx), .vec xs.length (aT xs), .vec th.len (o3 th), .vec el.len (o3 el)] := by
 simp only [row, o3, aY, List.cons_append, List.nil_append]
theorem wrap8 {n : Int} (h1 : 0 ≤ n) (h2 : n < 256) : IntKind.wrap .u8 n = n := by
 unfold IntKind.wrap
 have e1 : (2 : Int) ^ IntKind.bits .u8 = 256 := rfl
 have e3 : IntKind.signed .u8 = false := rfl
 simp only [e1, e3, Bool.false_and, Bool.false_eq_true, if_false]
 omega
theorem vnm_eq {l : Int} (h0 : 0 ≤ l) (h1 : l < 24) : (⟨#[118]⟩ : BA) ++ (⟨#[UInt8.ofNat (97 + l.tmod 26).toNat, UInt8.ofNat (97 + (l.tdiv 26).tmod 26).toNat]⟩ : BA) = vnm l.toNat := by
 obtain ⟨n, rfl⟩ := Int.eq_ofNat_of_zero_le h0
 have key : ∀ n : Fin 24, (⟨#[118]⟩ : BA) ++ (⟨#[UInt8.ofNat (97 + ((n.1 : Nat) : Int).tmod 26).toNat, UInt8.ofNat (97 + (((n.1 : Nat) : Int).tdiv 26).tmod 26).toNat]⟩ : BA) = vnm n.1 := by decide +kernel
 exact key ⟨n, by omega⟩
theorem tm26 {l : Int} (h0 : 0 ≤ l) : 0 ≤ l.tmod 26 ∧ l.tmod 26 < 26 := ⟨Int.tmod_nonneg _ h0, Int.tmod_lt_of_pos _ (by omega)⟩
theorem td26 {l : Int} (h0 : 0 ≤ l) (h1 : l < 24) : l.tdiv 26 = 0 := by
 obtain ⟨n, rfl⟩ := Int.eq_ofNat_of_zero_le h0
 have key : ∀ n : Fin 24, (((n.1 : Nat) : Int).tdiv 26) = 0 := by decide
 exact key ⟨n, by omega⟩
end Go.Proofs.YtapdldekgbbomaaGreat
end
