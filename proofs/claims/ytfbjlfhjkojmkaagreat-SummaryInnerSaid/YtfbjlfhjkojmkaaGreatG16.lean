/- My own texts, put together by a program of mine. -/
import Derived.Laws.BitsLemmas
import Derived.Test.YtfbjlfhjkojmkaaGreatG15
set_option linter.unusedSimpArgs false
set_option linter.unusedVariables false
set_option maxRecDepth 100000
set_option maxHeartbeats 4000000
section
namespace Go.Proofs.YtfbjlfhjkojmkaaGreat
open Go.Ab Go.Un
variable {p : Go.Un.Pg} {f : Fu}
theorem DP (h : GH p) (hf : f ∈ p.funcs) : ∀ x ∈ f.params, qW x.name = false := by
  obtain ⟨i, hi, rfl⟩ := bA (d := g7) hf
  intro x hx
  have hm : x.name ∈ (p.funcs.getD i g7).params.map (·.name) := List.mem_map.2 ⟨x, hx, rfl⟩
  rcases (h.fn i hi).2.2 with e | e | e <;> rw [e] at hm <;> simp at hm
  · rw [hm]; exact E2 1 (by omega)
  · rcases hm with e | e <;> rw [e]
    · exact E2 2 (by omega)
    · exact E2 1 (by omega)
variable {i : Nat}
theorem lK {α : Type} (f : α → List AV) (K j : Nat) (hK : ∀ a, (f a).length = K) (hj : j < K) (d : α) {l : List α} (h : i < l.length) : List.take 1 (List.drop (i * K + j) (l.flatMap f)) = List.take 1 (List.drop j (f (l.getD i d))) := by
  rw [← bO f K hK d h, List.drop_take, List.take_take, List.drop_drop, Nat.min_eq_left (by omega)]
theorem KX {l : List Gl} (h : i < l.length) : List.take 1 (List.drop (i * 2) (o5 l)) = [.str (l.getD i jV).name] := lK S5 2 0 (fun _ => rfl) (by omega) jV h
theorem KY {l : List Gl} (h : i < l.length) : List.take 1 (List.drop (i * 2 + 1) (o5 l)) = [.int .i64 (l.getD i jV).init] := lK S5 2 1 (fun _ => rfl) (by omega) jV h
variable {l : List Pm}
theorem KZ (h : i < l.length) : List.take 1 (List.drop (i * 2) (r7 l)) = [.str (l.getD i fP).name] := lK S4 2 0 (fun _ => rfl) (by omega) fP h
theorem LA (h : i < l.length) : List.take 1 (List.drop (i * 2 + 1) (r7 l)) = [.bool (l.getD i fP).mu] := lK S4 2 1 (fun _ => rfl) (by omega) fP h
theorem txtGl_0 {l : List Gl} (h : (l.getD i jV).init = 0) : jB l (i + 1) = jB l i ++ zD ++ (l.getD i jV).name ++ oQ := by rw [jB, if_pos h]
theorem txtGl_1 {l : List Gl} (h : ¬ (l.getD i jV).init = 0) : jB l (i + 1) = jB l i ++ zD ++ (l.getD i jV).name ++ IN ++ S8 (l.getD i jV).init ++ oQ := by rw [jB, if_neg h]
variable {out : BA}
theorem LB {l : List Mx} (h1 : (l.getD i z6).re = false) (h : ¬ 0 < (l.getD i z6).size) : cZ l out (i + 1) = cZ l out i ++ aS ++ (l.getD i z6).name ++ oQ := by rw [cZ, if_neg h, if_neg (by rw [h1]; decide)]
theorem LC {l : List Mx} (h1 : (l.getD i z6).re = true) (h : ¬ 0 < (l.getD i z6).size) : cZ l out (i + 1) = cZ l out i ++ t_r ++ aS ++ (l.getD i z6).name ++ oQ := by rw [cZ, if_neg h, if_pos h1]
theorem LD {l : List Mx} (h1 : (l.getD i z6).re = false) (h : 0 < (l.getD i z6).size) : cZ l out (i + 1) = cZ l out i ++ aS ++ (l.getD i z6).name ++ GO ++ S8 (l.getD i z6).size ++ GQ ++ oQ := by rw [cZ, if_pos h, if_neg (by rw [h1]; decide)]
theorem LF {l : List Mx} (h1 : (l.getD i z6).re = true) (h : 0 < (l.getD i z6).size) : cZ l out (i + 1) = cZ l out i ++ t_r ++ aS ++ (l.getD i z6).name ++ GO ++ S8 (l.getD i z6).size ++ GQ ++ oQ := by rw [cZ, if_pos h, if_pos h1]
theorem LG (h1 : (l.getD i fP).mu = false) (h : ¬ 0 < i) : dZ l out (i + 1) = dZ l out i ++ (l.getD i fP).name := by rw [dZ, if_neg h, if_neg (by rw [h1]; decide)]
theorem LH (h1 : (l.getD i fP).mu = true) (h : ¬ 0 < i) : dZ l out (i + 1) = dZ l out i ++ aS ++ (l.getD i fP).name := by rw [dZ, if_neg h, if_pos h1]
theorem LJ (h1 : (l.getD i fP).mu = false) (h : 0 < i) : dZ l out (i + 1) = dZ l out i ++ kC ++ (l.getD i fP).name := by rw [dZ, if_pos h, if_neg (by rw [h1]; decide)]
theorem LK (h1 : (l.getD i fP).mu = true) (h : 0 < i) : dZ l out (i + 1) = dZ l out i ++ kC ++ aS ++ (l.getD i fP).name := by rw [dZ, if_pos h, if_pos h1]
theorem GHgres (h : GH p) (hf : f ∈ p.funcs) : oZ (IU p f) := by
  refine ⟨⟨fun m hm => ?_, fun x hx => ?_⟩, fun x hx => ?_⟩
  · obtain ⟨i, hi, rfl⟩ := bA (d := z6) hm
    show qW (p.c4.getD i z6).name = false
    rw [(h.mn i hi).1]
    exact CX i (by have := h.ml; have hi2 : i < p.c4.length := hi; omega)
  · exact DP h hf x hx
  · obtain ⟨g, hg, rfl⟩ := List.mem_map.1 hx
    obtain ⟨i, hi, rfl⟩ := bA (d := g7) hg
    show qW (p.funcs.getD i g7).name = false
    rw [(h.fn i hi).1]
    exact CY i (by have := h.fl; omega)
theorem DQ (h : GH p) (hf : f ∈ p.funcs) : u6 (IV p f) := by
  intro x hx
  refine ⟨h.QV hf x hx, ?_⟩
  rcases List.mem_append.1 hx with hx | hx
  · obtain ⟨g, hg, rfl⟩ := List.mem_map.1 hx
    obtain ⟨i, hi, rfl⟩ := bA (d := jV) hg
    rw [(h.gn i hi).1]
    exact CW i (by have := h.gl; omega)
  · obtain ⟨g, hg, rfl⟩ := List.mem_map.1 hx
    exact DP h hf g (List.mem_filter.1 hg).1
theorem F1 {l : List Fu} (h : i < l.length) : (l.getD i g7).body.wt ≤ pX l l.length := by
  have key : ∀ n, i < n → (l.getD i g7).body.wt ≤ pX l n := by
    intro n hn
    induction n with
    | zero => omega
    | succ n ih =>
      rw [pX]
      by_cases e : i = n
      · rw [e]; omega
      · have := ih (by omega); omega
  exact key _ h
variable {h : c6}
theorem c_lexF {L : Bs} (hx : LX L 4000) (hl : L.length ≤ 262144) : CB 57 [.vec L.length (qV L)] h (.tup [.any, .int .i64 L.length, .int .i64 0]) :=
  zM rfl ((c_lex0 L 4000 hx (Nat.le_refl _) hl).mono fun _ _ h => h.1) h
theorem encB_8 {b : BA} : b.toList.map (fun c => AV.int .u8 ((c.toNat : Nat) : Int)) = qV (L8 b) := by rw [ByteArray.toList_eq]; rfl
theorem c_lexB {b : BA} (hx : LX (L8 b) 4000) (hl : b.size ≤ 262144) : CB 57 [.vec b.size (b.toList.map fun c => AV.int .u8 ((c.toNat : Nat) : Int))] h (.tup [.any, .int .i64 b.size, .int .i64 0]) := by
  rw [encB_8, jA]
  exact c_lexF hx (by rw [← jA]; exact hl)
attribute [local go_sem] lI w6 l9 aL bP aN l7 cE m9 aG z4 Int.natCast_nonneg Int.natCast_inj List.length_map wrap64 T9 kF wV w5 kT eq_mk kU Nat.reduceMul KX KY KZ LA wG sB cY
theorem O0 {l : List Pm} (hn : ∀ x ∈ l, isName (L8 x.name)) (out : BA) : ∀ i, i ≤ l.length → (dZ l out i).size ≤ out.size + 30 * i
  | 0, _ => Nat.le_refl _
  | i + 1, hi => by
    have ih := O0 hn out i (by omega)
    have hs := s9 (hn _ (j9 (d := fP) (show i < l.length from by omega)))
    have e1 : aS.size = 6 := rfl
    have e2 : kC.size = 2 := rfl
    unfold dZ
    repeat' split
    all_goals simp only [w5]
    all_goals omega
theorem DR {l : List Fu} : ∀ {a b : Nat}, a ≤ b → pX l a ≤ pX l b := by
  intro a b h
  induction h with
  | refl => exact Nat.le_refl _
  | step _ ih => rw [pX]; omega
theorem c_progT (hp : GP p) : CB 80 [.agg [.vec p.globals.length (o5 p.globals), .vec p.c4.length (g9 p.c4), .vec p.funcs.length (n4 p.funcs)]] h (.str (txtP p)) := by
  refine .bz Tryz.f80 131 ?_
  have hgl := qQ hp.toGH p.globals.length (Nat.le_refl _)
  have hmx := qR hp.toGH hgl.1 p.c4.length (Nat.le_refl _)
  have hgl0 := hp.gl
  have hml0 := hp.ml
  have hfl0 := hp.fl
  have htot := hp.wt
  have hwm : ∀ i, i ≤ p.funcs.length → pX p.funcs i ≤ 48 := fun i hi => Nat.le_trans (DR hi) htot
  refine c54z ?_
  refine .dR (fun m st => ∃ (i : Nat), (m = p.globals.length - i ∧ i ≤ p.globals.length) ∧ st = ⟨mkS 131 [(1, AV.ptr h.length 0 0), (3, AV.str (jB p.globals i)), (4, AV.int .i64 ((i : Nat) : Int))], h ++ [⟨0, false, 27, 3, [.vec p.globals.length (o5 p.globals), .vec p.c4.length (g9 p.c4), .vec p.funcs.length (n4 p.funcs)], 0⟩]⟩) _ (.v ⟨0, ⟨rfl, by omega⟩, rfl⟩ (hs := t55)) ?_
  rintro m sl h' ⟨i, ⟨hm, hi⟩, hst⟩
  obtain ⟨rfl, rfl⟩ := St.mk.inj hst
  have hsz := (qQ hp.toGH i hi).2
  refine c0z ?_
  refine u2z ?_ ?_
  ·intro e1 qe1
   refine c7z ?_
   have hgn := dK (hp.toGH.BL (j9 (d := jV) (l := p.globals) (i := i) (by omega)))
   have hgi := (hp.gn i (by omega)).2
   refine c69z ?_
   refine c41z ?_
   refine .c7 [1, 3, 4] ?_
   refine .z ?_
   refine u2z ?_ ?_
   ·intro e2 qe2
    have hns := (sE hgi.1 hgi.2).2
    refine c115z ?_
    refine c190z ?_
    refine .c7 [1, 3, 4] ?_
    refine c56z ?_
    exact ⟨_, by omega, .v ⟨(i + 1), ⟨rfl, by omega⟩, rfl⟩ (hs := t55)⟩
   intro e2 qe2
   refine .sk ?_
   refine c88z ?_
   exact ⟨_, by omega, .v ⟨(i + 1), ⟨rfl, by omega⟩, rfl⟩ (hs := t55)⟩
  intro e1 qe1
  refine .exit ?_
  obtain rfl : i = p.globals.length := by omega
  change c9 ..
  refine c5z ?_
  refine .aW (fun m st => ∃ (i : Nat), (m = p.c4.length - i ∧ i ≤ p.c4.length) ∧ st = ⟨mkS 131 [(1, AV.ptr h.length 0 0), (3, AV.str (cZ p.c4 (jB p.globals p.globals.length) i)), (5, AV.int .i64 ((i : Nat) : Int))], h ++ [⟨0, false, 27, 3, [.vec p.globals.length (o5 p.globals), .vec p.c4.length (g9 p.c4), .vec p.funcs.length (n4 p.funcs)], 0⟩]⟩) (.v ⟨0, ⟨rfl, by omega⟩, rfl⟩ (hs := t19)) ?_
  rintro m sl h' ⟨i, ⟨hm, hi⟩, hst⟩
  obtain ⟨rfl, rfl⟩ := St.mk.inj hst; clear hst
  have hsz := (qR hp.toGH hgl.1 i hi).2
  refine c0z ?_
  refine u2z ?_ ?_
  ·intro e3 qe3
   refine c7z ?_
   have hmn := dK (hp.toGH.IZ (j9 (d := z6) (l := p.c4) (i := i) (by omega)))
   have hmi := (hp.mn i (by omega)).2
   refine c28z ?_
   refine .c7 [1, 3, 5, 6] ?_
   refine .z ?_
   refine u2z ?_ ?_
   ·intro e4 qe4
    refine c1z ?_
    refine c28z ?_
    refine .c7 [1, 3, 5, 6] ?_
    refine .z ?_
    refine u2z ?_ ?_
    ·intro e5 qe5
     have hns := (sE (n := (p.c4.getD i z6).size) (by omega) (by omega)).2
     refine c148z ?_
     refine c190z ?_
     refine .c7 [1, 3, 5] ?_
     refine c56z ?_
     exact ⟨_, by omega, .v ⟨(i + 1), ⟨rfl, by omega⟩, rfl⟩ (he := t40) (hs := t19)⟩
    intro e5 qe5
    refine .sk ?_
    refine c56z ?_
    exact ⟨_, by omega, .v ⟨(i + 1), ⟨rfl, by omega⟩, rfl⟩ (he := t40) (hs := t19)⟩
   intro e4 qe4
   refine .sk ?_
   refine c85z ?_
   refine u2z ?_ ?_
   ·intro e6 qe6
    refine .c7 [1, 3, 5, 6] ?_
    have hns := (sE (n := (p.c4.getD i z6).size) (by omega) (by omega)).2
    refine c148z ?_
    refine c190z ?_
    refine .c7 [1, 3, 5] ?_
    refine c56z ?_
    exact ⟨_, by omega, .v ⟨(i + 1), ⟨rfl, by omega⟩, rfl⟩ (he := t40) (hs := t19)⟩
   intro e6 qe6
   refine .sk ?_
   refine .c7 [1, 3, 5] ?_
   refine c56z ?_
   exact ⟨_, by omega, .v ⟨(i + 1), ⟨rfl, by omega⟩, rfl⟩ (he := t40) (hs := t19)⟩
  intro e3 qe3
  refine .exit ?_
  obtain rfl : i = p.c4.length := by omega
  change c9 ..
  refine c5z ?_
  refine .aW (fun m st => ∃ (i : Nat), (m = p.funcs.length - i ∧ i ≤ p.funcs.length) ∧ st = ⟨mkS 131 [(1, AV.ptr h.length 0 0), (3, AV.str (pW p.funcs (cZ p.c4 (jB p.globals p.globals.length) p.c4.length) i)), (7, AV.int .i64 ((i : Nat) : Int))], h ++ [⟨0, false, 27, 3, [.vec p.globals.length (o5 p.globals), .vec p.c4.length (g9 p.c4), .vec p.funcs.length (n4 p.funcs)], 0⟩]⟩) (.v ⟨0, ⟨rfl, by omega⟩, rfl⟩) ?_
  rintro m sl h' ⟨i, ⟨hm, hi⟩, hst⟩
  obtain ⟨rfl, rfl⟩ := St.mk.inj hst; clear hst
  have hsz := (wN hp hmx.1 i hi).2
  have hwi := hwm i hi
  refine c0z ?_
  refine u2z ?_ ?_
  ·intro e7 qe7
   refine c7z ?_
   have hfm := j9 (d := g7) (l := p.funcs) (i := i) (by omega)
   have hfn := dK (hp.toGH.BM hfm)
   have hpn := hp.toGH.nH hfm
   have hbd := hp.body i (by omega)
   have hwt := F1 (l := p.funcs) (i := i) (by omega)
   have hww := hp.wt
   have hlw := cA (p.funcs.getD i g7).body
   refine .z ?_
   refine .c7 [1, 3, 7, 8] ?_
   refine c55z ?_
   refine .dR (fun m st => ∃ (j : Nat), (m = (p.funcs.getD i g7).params.length - j ∧ j ≤ (p.funcs.getD i g7).params.length) ∧ st = ⟨mkS 131 [(1, AV.ptr h.length 0 0), (3, AV.str (dZ (p.funcs.getD i g7).params (pW p.funcs (cZ p.c4 (jB p.globals p.globals.length) p.c4.length) i ++ pM ++ (p.funcs.getD i g7).name ++ tY) j)), (7, AV.int .i64 ((i : Nat) : Int)), (8, AV.ptr (h.length + 1) 0 0), (9, AV.int .i64 ((j : Nat) : Int))], h ++ [⟨0, false, 27, 3, [.vec p.globals.length (o5 p.globals), .vec p.c4.length (g9 p.c4), .vec p.funcs.length (n4 p.funcs)], 0⟩, ⟨0, false, 101, 3, [.str (p.funcs.getD i g7).name, .vec (p.funcs.getD i g7).params.length (r7 (p.funcs.getD i g7).params), .vec (p.funcs.getD i g7).body.len (n6 (p.funcs.getD i g7).body)], 0⟩]⟩) _ (.v ⟨0, ⟨rfl, by omega⟩, rfl⟩ (hs := t26)) ?_
   rintro m sl h' ⟨j, ⟨hm, hj⟩, hst⟩
   obtain ⟨rfl, rfl⟩ := St.mk.inj hst
   have hsp := O0 (l := (p.funcs.getD i g7).params) hpn.2 (pW p.funcs (cZ p.c4 (jB p.globals p.globals.length) p.c4.length) i ++ pM ++ (p.funcs.getD i g7).name ++ tY) j hj
   have hs0 : (pW p.funcs (cZ p.c4 (jB p.globals p.globals.length) p.c4.length) i ++ pM ++ (p.funcs.getD i g7).name ++ tY).size ≤ (pW p.funcs (cZ p.c4 (jB p.globals p.globals.length) p.c4.length) i).size + 30 := by simp only [w5]; have e1 : pM.size = 5 := rfl; have e2 : tY.size = 1 := rfl; omega
   refine c0z ?_
   refine u2z ?_ ?_
   ·intro e8 qe8
    refine c7z ?_
    refine c0z ?_
    refine u2z ?_ ?_
    ·intro e9 qe9
     refine c1z ?_
     refine .seq ?_
     refine .c7 [1, 3, 7, 8, 9] ?_
     have hpj := dK (hpn.2 _ (j9 (d := fP) (l := (p.funcs.getD i g7).params) (i := j) (by omega)))
     refine .z ?_
     refine u2z ?_ ?_
     ·intro e10 qe10
      refine c1z ?_
      refine .c7 [1, 3, 7, 8, 9] ?_
      refine c195z ?_
      refine .rz ?_
      exact ⟨_, by omega, .v ⟨(j + 1), ⟨rfl, by omega⟩, rfl⟩ (hs := t26)⟩
     intro e10 qe10
     refine .sk ?_
     refine c195z ?_
     refine .rz ?_
     exact ⟨_, by omega, .v ⟨(j + 1), ⟨rfl, by omega⟩, rfl⟩ (hs := t26)⟩
    intro e9 qe9
    refine c183z ?_
    have hpj := dK (hpn.2 _ (j9 (d := fP) (l := (p.funcs.getD i g7).params) (i := j) (by omega)))
    refine .z ?_
    refine u2z ?_ ?_
    ·intro e11 qe11
     refine .c7 [1, 3, 7, 8, 9] ?_
     refine c1z ?_
     refine c195z ?_
     refine .rz ?_
     exact ⟨_, by omega, .v ⟨(j + 1), ⟨rfl, by omega⟩, rfl⟩ (hs := t26)⟩
    intro e11 qe11
    refine .sk ?_
    refine .c7 [1, 3, 7, 8, 9] ?_
    refine c195z ?_
    refine .rz ?_
    exact ⟨_, by omega, .v ⟨(j + 1), ⟨rfl, by omega⟩, rfl⟩ (hs := t26)⟩
   intro e8 qe8
   refine .exit ?_
   obtain rfl : j = (p.funcs.getD i g7).params.length := by omega
   change c9 ..
   have htab : eZ.size = 1 := rfl
   have hbs := (hY (hp.toGH.genv hfm) (p.funcs.getD i g7).body _ eZ ByteArray.empty 0 (hp.toGH.QV hfm) hbd.1 (by omega) zE Cl.nil).2
   have he0 : ByteArray.empty.size = 0 := rfl
   refine c148z ?_
   refine .ca rfl rfl (CZ (hp.toGH.genv hfm) 1000 _ (by omega) (Nat.le_refl _) _ eZ (DQ hp.toGH hfm) hbd.1 (by omega) zE _) ?_
   refine c34z ?_
   refine .c7 [1, 3, 7] ?_
   refine .rz ?_
   exact ⟨_, by omega, .v ⟨(i + 1), ⟨rfl, by omega⟩, rfl⟩ (he := t40)⟩
  intro e7 qe7
  refine .exit ?_
  obtain rfl : i = p.funcs.length := by omega
  change c9 ..
  refine .z ?_
  exact .ret (.ex (hq := by rfl))
theorem c_valid (hp : GP p) : CB 49 [.agg [.vec p.globals.length (o5 p.globals), .vec p.c4.length (g9 p.c4), .vec p.funcs.length (n4 p.funcs)]] h (.bool true) := by
  refine .bz Tryz.f49 140 ?_
  have hgl0 := hp.gl
  have hml0 := hp.ml
  have hfl0 := hp.fl
  refine c28z ?_
  refine c24z ?_
  refine .spl 16 rfl rfl (fun e1 => by exfalso; have q := fact e1; omega) (fun e1 => ?_)
  try simp only [e1]
  have qe1 := fact e1
  refine .k 6 [(4, 16)] ?_
  refine .spl 22 rfl rfl (fun e2 => by exfalso; have q := fact e2; omega) (fun e2 => ?_)
  try simp only [e2]
  have qe2 := fact e2
  refine .m [(10, 22)] ?_
  refine uFbz ?_
  intro e3 qe3
  refine c183z ?_
  refine .c7 [1] ?_
  refine c22z ?_
  refine .dR (fun m st => ∃ (i : Nat), (m = p.globals.length - i ∧ i ≤ p.globals.length) ∧ st = ⟨mkS 140 [(1, AV.ptr h.length 0 0), (3, AV.int .i64 ((i : Nat) : Int))], h ++ [⟨0, false, 27, 3, [.vec p.globals.length (o5 p.globals), .vec p.c4.length (g9 p.c4), .vec p.funcs.length (n4 p.funcs)], 0⟩]⟩) _ (.v ⟨0, ⟨rfl, by omega⟩, rfl⟩) ?_
  rintro m sl h' ⟨i, ⟨hm, hi⟩, hst⟩
  obtain ⟨rfl, rfl⟩ := St.mk.inj hst
  refine c0z ?_
  refine u2z ?_ ?_
  ·intro e4 qe4
   refine c7z ?_
   have hgi := (hp.gn i (by omega)).2
   have hgr : qW (p.globals.getD i jV).name = false := by rw [(hp.gn i (by omega)).1]; exact CW i (by omega)
   refine c119z ?_
   refine .ca rfl rfl (kS _ (hp.toGH.BL (j9 (d := jV) (l := p.globals) (i := i) (by omega))) hgr) ?_
   refine .k 8 [(8, 43)] ?_
   refine .m [(8, 43)] ?_
   refine uFbz ?_
   intro e5 qe5
   refine c6z ?_
   refine .c7 [1, 3] ?_
   refine .rz ?_
   exact ⟨_, by omega, .v ⟨(i + 1), ⟨rfl, by omega⟩, rfl⟩⟩
  intro e4 qe4
  refine c9z ?_
  refine c5z ?_
  refine .aW (fun m st => ∃ (i : Nat), (m = p.c4.length - i ∧ i ≤ p.c4.length) ∧ st = ⟨mkS 140 [(1, AV.ptr h.length 0 0), (4, AV.int .i64 ((i : Nat) : Int))], h ++ [⟨0, false, 27, 3, [.vec p.globals.length (o5 p.globals), .vec p.c4.length (g9 p.c4), .vec p.funcs.length (n4 p.funcs)], 0⟩]⟩) (.v ⟨0, ⟨rfl, by omega⟩, rfl⟩) ?_
  rintro m sl h' ⟨i, ⟨hm, hi⟩, hst⟩
  obtain ⟨rfl, rfl⟩ := St.mk.inj hst; clear hst
  refine c0z ?_
  refine u2z ?_ ?_
  ·intro e6 qe6
   refine c7z ?_
   have hmi := (hp.mn i (by omega)).2
   have hmr : qW (p.c4.getD i z6).name = false := by rw [(hp.mn i (by omega)).1]; exact CX i (by omega)
   refine .z ?_
   refine .c7 [1, 4, 5] ?_
   refine c36z ?_
   refine .ca rfl rfl (kS _ (hp.toGH.IZ (j9 (d := z6) (l := p.c4) (i := i) (by omega))) hmr) ?_
   refine .k 7 [(4, 68)] ?_
   refine .spl 73 rfl rfl (fun e7 => by exfalso; have q := fact e7; omega) (fun e7 => ?_)
   try simp only [e7]
   have qe7 := fact e7
   refine .k 5 [(9, 73)] ?_
   refine .spl 78 rfl rfl (fun e8 => by exfalso; have q := fact e8; omega) (fun e8 => ?_)
   try simp only [e8]
   have qe8 := fact e8
   refine .k 3 [(14, 78)] ?_
   refine .spl 81 rfl rfl (fun e9 => ?_) (fun e9 => ?_)
   ·try simp only [e9]
    have qe9 := fact e9
    refine .m [(14, 78), (17, 81)] ?_
    refine .spl 86 rfl rfl (fun e10 => by exfalso; have q := fact e10; have := hmi.2.2 (by assumption); omega) (fun e10 => ?_)
    try simp only [e10]
    have qe10 := fact e10
    refine c44z ?_
    refine .c7 [1, 4] ?_
    refine .rz ?_
    exact ⟨_, by omega, .v ⟨(i + 1), ⟨rfl, by omega⟩, rfl⟩ (he := t40)⟩
   try simp only [e9]
   have qe9 := fact e9
   refine .m [(14, 78), (17, 81)] ?_
   refine c44z ?_
   refine .c7 [1, 4] ?_
   refine .rz ?_
   exact ⟨_, by omega, .v ⟨(i + 1), ⟨rfl, by omega⟩, rfl⟩ (he := t40)⟩
  intro e6 qe6
  refine c9z ?_
  refine c5z ?_
  refine .aW (fun m st => ∃ (i : Nat), (m = p.funcs.length - i ∧ i ≤ p.funcs.length) ∧ st = ⟨mkS 140 [(1, AV.ptr h.length 0 0), (6, AV.int .i64 ((i : Nat) : Int))], h ++ [⟨0, false, 27, 3, [.vec p.globals.length (o5 p.globals), .vec p.c4.length (g9 p.c4), .vec p.funcs.length (n4 p.funcs)], 0⟩]⟩) (.v ⟨0, ⟨rfl, by omega⟩, rfl⟩) ?_
  rintro m sl h' ⟨i, ⟨hm, hi⟩, hst⟩
  obtain ⟨rfl, rfl⟩ := St.mk.inj hst; clear hst
  refine c0z ?_
  refine u2z ?_ ?_
  ·intro e11 qe11
   refine c7z ?_
   have hfm := j9 (d := g7) (l := p.funcs) (i := i) (by omega)
   have hfn := dK (hp.toGH.BM hfm)
   have hpn := hp.toGH.nH hfm
   have hbd := hp.body i (by omega)
   have hwt := F1 (l := p.funcs) (i := i) (by omega)
   have hww := hp.wt
   have hlw := cA (p.funcs.getD i g7).body
   have hfr : qW (p.funcs.getD i g7).name = false := by rw [(hp.fn i (by omega)).1]; exact CY i (by omega)
   refine c28z ?_
   refine .c7 [1, 6, 7] ?_
   refine c36z ?_
   refine .ca rfl rfl (kS _ (hp.toGH.BM hfm) hfr) ?_
   refine .k 8 [(4, 103)] ?_
   refine .spl 109 rfl rfl (fun e12 => by exfalso; have q := fact e12; omega) (fun e12 => ?_)
   try simp only [e12]
   have qe12 := fact e12
   refine .k 2 [(10, 109)] ?_
   refine .ca rfl rfl (c_okS (hp.toGH.genv hfm) (GHgres hp.toGH hfm) 1000 _ (by omega) (Nat.le_refl _) _ 0 (DQ hp.toGH hfm) hbd.1 (by omega) (by omega) _) ?_
   refine .m [(10, 109)] ?_
   refine c16z ?_
   refine .c7 [1, 6, 7] ?_
   refine c22z ?_
   refine .dR (fun m st => ∃ (j : Nat), (m = (p.funcs.getD i g7).params.length - j ∧ j ≤ (p.funcs.getD i g7).params.length) ∧ st = ⟨mkS 140 [(1, AV.ptr h.length 0 0), (6, AV.int .i64 ((i : Nat) : Int)), (7, AV.ptr (h.length + 1) 0 0), (8, AV.int .i64 ((j : Nat) : Int))], h ++ [⟨0, false, 27, 3, [.vec p.globals.length (o5 p.globals), .vec p.c4.length (g9 p.c4), .vec p.funcs.length (n4 p.funcs)], 0⟩, ⟨0, false, 101, 3, [.str (p.funcs.getD i g7).name, .vec (p.funcs.getD i g7).params.length (r7 (p.funcs.getD i g7).params), .vec (p.funcs.getD i g7).body.len (n6 (p.funcs.getD i g7).body)], 0⟩]⟩) _ (.v ⟨0, ⟨rfl, by omega⟩, rfl⟩) ?_
   rintro m sl h' ⟨j, ⟨hm, hj⟩, hst⟩
   obtain ⟨rfl, rfl⟩ := St.mk.inj hst
   refine c0z ?_
   refine u2z ?_ ?_
   ·intro e13 qe13
    refine c7z ?_
    refine c119z ?_
    refine .ca rfl rfl (kS _ (hpn.2 _ (j9 (d := fP) (l := (p.funcs.getD i g7).params) (i := j) (by omega))) (DP hp.toGH hfm _ (j9 (d := fP) (l := (p.funcs.getD i g7).params) (i := j) (by omega)))) ?_
    refine .n ?_
    refine c44z ?_
    refine .c7 [1, 6, 7, 8] ?_
    refine .rz ?_
    exact ⟨_, by omega, .v ⟨(j + 1), ⟨rfl, by omega⟩, rfl⟩⟩
   intro e13 qe13
   refine c9z ?_
   refine .rz ?_
   exact ⟨_, by omega, .v ⟨(i + 1), ⟨rfl, by omega⟩, rfl⟩ (he := t40)⟩
  intro e11 qe11
  refine c9z ?_
  have htx := txtP_ok hp
  refine c79z ?_
  refine .ca rfl rfl (c_progT hp) ?_
  refine .e 1 ?_
  refine .ca rfl rfl (c_lexB htx.1 htx.2) ?_
  refine .n ?_
  refine .c7 [11] ?_
  refine .z ?_
  exact .ret (.ex (hq := by rfl))
end Go.Proofs.YtfbjlfhjkojmkaaGreat
end
section
namespace Go.Proofs.YtfbjlfhjkojmkaaGreat
open Go.Ab Go.Un
def sc1 : AV → AV
  | .bool b => .bool b
  | .int k n => .int k n
  | .str s => .str s
  | _ => .any
def sc2 : AV → AV
  | .agg cs => .agg (cs.map sc1)
  | x => sc1 x
def TK : AV → AV
  | .tup xs => .tup (xs.map sc2)
  | x => sc2 x
section
variable {h1 h2 : c6} {φ1 φ2 : Map} {w : World} {v : Value} {x : AV}
theorem DS (r : Rel h1 φ1 w v x) : Rel h2 φ2 w v (sc1 x) := by
  unfold sc1
  split
  · cases r.aB; exact .aF _
  · cases r.r6; exact .aV _ _
  · cases r.cO; exact .mM _
  · exact .gJ _
theorem DT (r : Rel h1 φ1 w v x) : Rel h2 φ2 w v (sc2 x) := by
  unfold sc2
  split
  · rename_i cs
    obtain ⟨a, rfl, ha, hc, hr⟩ := r.gX
    refine .agg a _ (by simp [ha]) hc fun j u z hu hz => ?_
    rw [List.getElem?_map] at hz
    obtain ⟨y, hy, rfl⟩ := Option.map_eq_some_iff.1 hz
    exact DS (hr j u y hu hy)
  · exact DS r
theorem DU (r : Rel h1 φ1 w v x) : Rel h2 φ2 w v (TK x) := by
  unfold TK
  split
  · rename_i xs
    obtain ⟨a, rfl, ha, hr⟩ := r.kH
    refine .tup a _ (by simp [ha]) fun j u z hu hz => ?_
    rw [List.getElem?_map] at hz
    obtain ⟨y, hy, rfl⟩ := Option.map_eq_some_iff.1 hz
    exact DT (hr j u y hu hy)
  · exact DT r
end
variable {h : c6}
theorem borrowD {f : FuncId} {args args' : List AV} {x : AV} (ha : IA 0 h args' args) (r : CallA Tryz.prog cfg f args' (aX 0 h) fun y _ => y = x) : CallA Tryz.prog cfg f args h fun y k => y = TK x ∧ k = h := by
  intro B φ w cargs i hs hr
  obtain ⟨i', _⟩ := J2 0 i
  obtain ⟨k1, k2⟩ := ha.get
  refine (r B φ w cargs i' (by rw [k1]; exact hs) fun j v y h1 h2 => ?_).mono fun e w' hp => ?_
  · have hj : j < args.length := by rw [← k1]; exact (List.getElem?_eq_some_iff.1 h2).1
    have e1 : args'.getD j .any = y := by simp [List.getD, h2]
    have e2 : args.getD j .any = args[j] := by simp [List.getD, hj]
    rcases k2 j with h | h
    · rw [e1] at h
      rw [h]; exact .gJ _
    · rw [e1, e2] at h
      exact J3 i 0 h (hr j v _ h1 (List.getElem?_eq_getElem hj))
  · obtain ⟨v, y, h', φ', rfl, h1, h2, h3, rfl⟩ := hp
    have hfree : ∀ k, k < w.heap.size → G6 (aX 0 h) φ w k := fun k hk => ⟨hk, fun β b hb hv => by
      rcases bY hb with ⟨hn, _⟩ | ⟨_, b', _, rfl⟩
      · omega
      · cases hv⟩
    have hk : ∀ k, k < w.heap.size → w'.heap[k]? = w.heap[k]? := fun k hk => (h2.iT k (hfree k hk)).1
    have ev : Ev h φ w h φ w' := ⟨h2.os, h2.tape, h2.output, h2.size, fun k hs => ⟨hk k hs.1, Nat.lt_of_lt_of_le hs.1 h2.size, hs.2⟩, fun k j hs => ⟨World.cell?_of_block (hk k hs.1), Nat.lt_of_lt_of_le hs.1 h2.size, hs.2⟩, Nat.le_refl _, fun β b b' e1 e2 => by rw [e1] at e2; cases e2; exact ⟨Nat.le_refl _, fun _ => ⟨rfl, rfl, rfl⟩⟩⟩
    refine ⟨v, _, h, φ, rfl, ⟨fun β b hb hv => ?_, i.inj, i.base, i.bG, Nat.le_trans i.room h2.size, fun g => ev.A8 (i.cV g)⟩, ev, DU h3, rfl, rfl⟩
    obtain ⟨cur, q1, q2, q3, q4⟩ := i.blk β b hb hv
    exact ⟨cur, (hk _ (Array.getElem?_eq_some_iff.1 q1).1).trans q1, q2, q3, fun j v x a d => ⟨(q4 j v x a d).1, ev.rel (q4 j v x a d).2⟩⟩
variable {g n : Nat}
theorem xI {H : c6} {β : Nat} {l : List Ent} {x : BA} (hb : H[β]? = some (o8 110 3 g (g8 l))) (hn : l.length = n) (hl : l.length < 1000000) (hf : aT l x = none) : CB 51 [.own β g 0 n, .str x] H (.tup [.agg [.str ByteArray.empty, .int .i64 0, .int .i64 0], .bool false]) := by
  subst hn
  have e : NL 0 H (.own β g 0 l.length) = some (.vec l.length (g8 l)) := iH hb (Nat.zero_le _) (by rw [o9]; omega) (by omega) ((oY l).frz _ _ _)
  have ha : IA 0 H [.vec l.length (g8 l), .str x] [.own β g 0 l.length, .str x] := And.intro (.inr e) (And.intro (.inr rfl) trivial)
  exact borrowD ha ((DF hf hl).mono fun _ _ h => h.1)
variable {p : Go.Un.Pg}
theorem nS : (z5 p).length = p.globals.length + (p.c4.length + p.funcs.length) := by simp [z5]
variable {i : Nat}
theorem LL (h : i < (z5 p).length) : (z5 p).getD i hU = if i < p.globals.length then ⟨(p.globals.getD i jV).name, 1, (i : Int)⟩ else if i - p.globals.length < p.c4.length then ⟨(p.c4.getD (i - p.globals.length) z6).name, 2, ((i - p.globals.length : Nat) : Int)⟩ else ⟨(p.funcs.getD (i - p.globals.length - p.c4.length) g7).name, 3, ((i - p.globals.length - p.c4.length : Nat) : Int)⟩ := by
  rw [nS] at h
  unfold z5
  rw [List.getD_eq_getElem?_getD]
  by_cases h1 : i < p.globals.length
  · rw [if_pos h1, List.getElem?_append_left t123]
    simp [h1]
  · rw [if_neg h1, List.getElem?_append_right (by simpa using Nat.le_of_not_lt h1)]
    simp only [List.length_map, List.length_range]
    by_cases h2 : i - p.globals.length < p.c4.length
    · rw [if_pos h2, List.getElem?_append_left t93]
      simp [h2]
    · rw [if_neg h2, List.getElem?_append_right (by simpa using Nat.le_of_not_lt h2)]
      simp only [List.length_map, List.length_range]
      have h3 : i - p.globals.length - p.c4.length < p.funcs.length := by omega
      simp [h3]
theorem DV (h : i < (z5 p).length) : (z5 p).getD i hU = if i < p.globals.length then ⟨(p.globals.getD i jV).name, 1, (i : Int)⟩ else if (i : Int) - p.globals.length < p.c4.length then ⟨(p.c4.getD ((i : Int) - p.globals.length).toNat z6).name, 2, (i : Int) - p.globals.length⟩ else ⟨(p.funcs.getD ((i : Int) - p.globals.length - p.c4.length).toNat g7).name, 3, (i : Int) - p.globals.length - p.c4.length⟩ := by
  rw [LL h]
  by_cases h1 : i < p.globals.length
  · rw [if_pos h1, if_pos h1]
  · rw [if_neg h1, if_neg h1, show ((i : Int) - p.globals.length).toNat = i - p.globals.length from by omega, show ((i : Int) - p.globals.length - p.c4.length).toNat = i - p.globals.length - p.c4.length from by omega]
    by_cases h2 : i - p.globals.length < p.c4.length
    · rw [if_pos h2, if_pos (by omega), show ((i - p.globals.length : Nat) : Int) = (i : Int) - p.globals.length from by omega]
    · rw [if_neg h2, if_neg (by omega), show ((i - p.globals.length - p.c4.length : Nat) : Int) = (i : Int) - p.globals.length - p.c4.length from by omega]
theorem DW {l : List Ent} (hn : (l.map (·.name)).Nodup) (hi : i < l.length) : aT (l.take i) (l.getD i hU).name = none := by
  refine sF fun h => ?_
  obtain ⟨e, he, hx⟩ := List.mem_map.1 h
  obtain ⟨j, hj, rfl⟩ := List.mem_iff_getElem.1 he
  simp only [List.length_take] at hj
  have hjl : j < l.length := by omega
  simp only [List.getElem_take] at hx
  have e1 : l.getD i hU = l[i] := by simp [List.getD, hi]
  rw [e1] at hx
  have := (List.pairwise_iff_getElem.1 hn) j i (by simpa using hjl) (by simpa using hi) (by omega)
  simp only [List.getElem_map] at this
  exact this hx
theorem uR (h : GP p) : ((z5 p).map (·.name)).Nodup := by
  have h1 := (sH h.toGH (i := 0) (by have := h.fl; omega)).nodup sG
  rw [List.map_append] at h1
  exact (List.nodup_append.1 h1).1
theorem takeD {l : List Ent} (h : i < l.length) : l.take (i + 1) = l.take i ++ [l.getD i hU] := by
  rw [List.take_add_one]
  simp [List.getD, h]
theorem zX {l : List Ent} {x : Ent} : g8 (l ++ [x]) = g8 l ++ [.str x.name, .int .i64 x.kind, .int .i64 x.n] := by simp [g8, gC]
variable {b0 b2 b3 : Blk} {es : List Ent}
theorem app_ent {l : c6} {x : BA} {k m : Int} (hn : es.length = n) (hl : n < 100000) : j5 cfg 110 (h ++ (b0 :: o8 110 3 g (g8 es) :: b2 :: b3 :: ⟨0, false, 110, 3, [.str x, .int .i64 k, .int .i64 m], 0⟩ :: l)) (.own (h.length + 1) g 0 n) (.own (h.length + 4) 0 0 1) = some (.own (h.length + 1) (g + 1) 0 (n + 1), h ++ (b0 :: o8 110 3 (g + 1) (g8 (es ++ [⟨x, k, m⟩])) :: b2 :: b3 :: ⟨0, false, 110, 3, [.str x, .int .i64 k, .int .i64 m], 0⟩ :: l)) := by
  subst hn
  rw [y0 (C := cfg) (K := 3) (m := 1) (new := [.str x, .int .i64 k, .int .i64 m]) (zs := g8 es) t36 rfl (by omega) (by rw [o9]; omega) rfl (by omega) t173 rfl (by decide) (by omega), zX, p9]
  rfl
theorem LM {l : List Gl} (h : i < l.length) : List.take 1 (List.drop (i * 2) (o5 l)) = [.str (l.getD i jV).name] := U5 S5 2 0 (fun _ => rfl) (by omega) jV h
theorem LN {l : List Mx} (h : i < l.length) : List.take 1 (List.drop (i * 3) (g9 l)) = [.str (l.getD i z6).name] := U5 IJ 3 0 (fun _ => rfl) (by omega) z6 h
theorem LO {l : List Fu} (h : i < l.length) : List.take 1 (List.drop (i * 3) (n4 l)) = [.str (l.getD i g7).name] := U5 cY 3 0 (fun _ => rfl) (by omega) g7 h
attribute [local go_sem] rd o9 l9 aL bP r8 z8 eC cE m9 aG z4 l7 aN Int.natCast_nonneg Int.natCast_inj List.length_map wrap64 eH gT gU L7 zH D5 L9 wP max2 dT bS aO Nat.reduceMul lH iJ u7 gC nO jJ sU LM LN LO app_ent
theorem c_decl (hp : GP p) : CB 50 [.agg [.vec p.globals.length (o5 p.globals), .vec p.c4.length (g9 p.c4), .vec p.funcs.length (n4 p.funcs)]] h (.tup [.vec (z5 p).length (g8 (z5 p)), .int .i64 (-1)]) := by
  refine .bz Tryz.f50 94 ?_
  have hdl := nS (p := p)
  have hnd := uR hp
  have hgl := hp.gl
  have hml := hp.ml
  have hfl := hp.fl
  refine c18z ?_
  refine .z ?_
  refine c69z ?_
  refine c41z ?_
  refine .c7 [1, 4, 5, 6] ?_
  refine c22z ?_
  refine c9.C5 4 rfl ?_
  refine .aW (fun m st => ∃ (i : Nat), (m = (z5 p).length - i ∧ i ≤ (z5 p).length) ∧ st = ⟨mkS 94 [(1, AV.ptr h.length 0 0), (4, AV.own (h.length + 1) i 0 i), (5, AV.int .i64 (-1)), (6, AV.int .i64 ((z5 p).length : Int)), (7, AV.int .i64 ((i : Nat) : Int))], h ++ [⟨0, false, 27, 3, [.vec p.globals.length (o5 p.globals), .vec p.c4.length (g9 p.c4), .vec p.funcs.length (n4 p.funcs)], 0⟩, o8 110 3 i (g8 ((z5 p).take i))]⟩) (.v ⟨0, ⟨rfl, by omega⟩, rfl⟩ (hs := t45)) ?_
  rintro m sl h' ⟨i, ⟨hm, hi⟩, hst⟩
  obtain ⟨rfl, rfl⟩ := St.mk.inj hst; clear hst
  have htl : ((z5 p).take i).length = i := by simp; omega
  refine c0z ?_
  refine u2z ?_ ?_
  ·intro e1 qe1
   refine c7z ?_
   refine c28z ?_
   have hat := DV (p := p) (i := i) (by omega)
   have hfn := DW hnd (i := i) (by omega)
   refine c22z ?_
   refine .c7 [1, 4, 5, 6, 7, 8, 9] ?_
   refine .z ?_
   refine u2z ?_ ?_
   ·intro e2 qe2
    refine c122z ?_
    refine .seq ?_
    refine .c7 [1, 4, 5, 6, 7, 8] ?_
    rw [if_pos (by omega)] at hat
    rw [hat] at hfn
    refine c186z ?_
    refine .n ?_
    refine c205z ?_
    refine c16z ?_
    refine c1z ?_
    refine .c7 [1, 4, 5, 6, 7] ?_
    refine .rz ?_
    exact ⟨_, by omega, .v ⟨(i + 1), ⟨rfl, by omega⟩, rfl⟩ (he := t97) (hk := t94) (hs := t45)⟩
   intro e2 qe2
   refine .z ?_
   refine u2z ?_ ?_
   ·intro e3 qe3
    refine .c7 [1, 4, 5, 6, 7, 8, 9] ?_
    refine c122z ?_
    refine .seq ?_
    refine .c7 [1, 4, 5, 6, 7, 8] ?_
    rw [if_neg (by omega), if_pos (by omega)] at hat
    rw [hat] at hfn
    refine c186z ?_
    refine .n ?_
    refine c205z ?_
    refine c16z ?_
    refine c1z ?_
    refine .c7 [1, 4, 5, 6, 7] ?_
    refine .rz ?_
    exact ⟨_, by omega, .v ⟨(i + 1), ⟨rfl, by omega⟩, rfl⟩ (he := t97) (hk := t94) (hs := t45)⟩
   intro e3 qe3
   refine .c7 [1, 4, 5, 6, 7, 8, 9] ?_
   refine .so s7 (mkP 17 [0, 1, 0, 0, 8, 24, 60, 127, 255, 511, 0, 0, 2048, 6144, 15360, 32767, 65535] [16]) ?_
   refine .k 8 [] ?_
   refine c120z ?_
   change c9 ..
   refine .seq ?_
   refine .c7 [1, 4, 5, 6, 7, 8] ?_
   rw [if_neg (by omega), if_neg (by omega)] at hat
   rw [hat] at hfn
   refine c186z ?_
   refine .n ?_
   refine c205z ?_
   refine c16z ?_
   refine c1z ?_
   refine .c7 [1, 4, 5, 6, 7] ?_
   refine .rz ?_
   exact ⟨_, by omega, .v ⟨(i + 1), ⟨rfl, by omega⟩, rfl⟩ (he := t97) (hk := t94) (hs := t45)⟩
  intro e1 qe1
  refine .exit ?_
  obtain rfl : i = (z5 p).length := by omega
  rw [List.take_length]
  refine c9.AO (t := 4) (γ := h.length + 1) (len := (z5 p).length) t36 (by rw [o9]; omega) (by omega) (oY _) (C6 (by decide) rfl) ?_
  rw [cI]; simp only [p9, List.set_cons_succ, List.set_cons_zero]
  change c9 ..
  refine .z ?_
  exact .ret (.ex (hq := by rfl))
def s0F (p : Go.Un.Pg) (f : Fu) : Sco := ⟨p, z5 p ++ jW f.params 0 0, (eF f.params : Int), 0, [], []⟩
def s1F (p : Go.Un.Pg) (f : Fu) : Sco := bQ (s0F p f).l (s0F p f) f.body
def s2F (p : Go.Un.Pg) (f : Fu) : Sco := m6 (s1F p f) ⟨8, 0, false, j8, aZ, [], []⟩ (s1F p f).st
variable {a b c d : Blk} {s : Sco} {r : c6}
theorem LP : (h ++ (a :: b :: c :: d :: u7 (h.length + 4) s :: o8 77 12 (s).code.length (n9 (s).code) :: o8 3 1 (s).sites.length (j4 (s).sites) :: r)) = hT ⟨h ++ [a, b, c, d], r⟩ (u7 (h.length + 4) s) s.code s.sites := by simp [hT]
theorem hF_k : Frm.k ⟨h ++ [a, b, c, d], r⟩ = h.length + 4 := by simp [Frm.k]
theorem LQ {E : Env} {cx : Ctx} {S : Sl} (hw : S.wt ≤ 1000) {vars : List BA} (sc : SC E cx vars s.l) (hG : GS E S vars) (bd : Bd E cx s.p) (B : Bnd s S.wt) : CH 81 [.ptr (h.length + 4) 0 0, .vec S.len (n6 S)] (h ++ (a :: b :: c :: d :: u7 (h.length + 4) s :: o8 77 12 (s).code.length (n9 (s).code) :: o8 3 1 (s).sites.length (j4 (s).sites) :: r)) (.tup []) (h ++ (a :: b :: c :: d :: u7 (h.length + 4) (bQ s.l s S) :: o8 77 12 ((bQ s.l s S)).code.length (n9 ((bQ s.l s S)).code) :: o8 3 1 ((bQ s.l s S)).sites.length (j4 ((bQ s.l s S)).sites) :: r)) := by
  have := N9 1000 S hw (Nat.le_refl _) vars s sc hG bd B ⟨h ++ [a, b, c, d], r⟩
  rw [hF_k, ← LP, ← LP] at this
  exact this
theorem c_putF (hc : s.code.length < 10000) (hs : s.sites.length < 10000) (i : Ins) (t : Int) {zs : List AV} (hz : mK (dH i) zs) : CH 82 [.ptr (h.length + 4) 0 0, .agg zs, .int .i64 t] (h ++ (a :: b :: c :: d :: u7 (h.length + 4) s :: o8 77 12 (s).code.length (n9 (s).code) :: o8 3 1 (s).sites.length (j4 (s).sites) :: r)) (.int .i64 ((s.code.length : Nat) : Int)) (h ++ (a :: b :: c :: d :: u7 (h.length + 4) (m6 s i t) :: o8 77 12 ((m6 s i t)).code.length (n9 ((m6 s i t)).code) :: o8 3 1 ((m6 s i t)).sites.length (j4 ((m6 s i t)).sites) :: r)) := by
  have := kV (e := ⟨h ++ [a, b, c, d], r⟩) hc hs i t hz
  rw [hF_k, ← LP, ← LP] at this
  exact this
variable {b1 : Blk}
theorem app_cpF {l : c6} (hz : es.length = n) (h0 : 0 < n) (hn : n < 1000) : j5 cfg 110 (h ++ (b0 :: b1 :: b2 :: ⟨0, false, 110, 3, [], 0⟩ :: l)) (.own (h.length + 3) 0 0 0) (.vec n (g8 es)) = some (.own (h.length + 3) 1 0 n, h ++ (b0 :: b1 :: b2 :: ⟨1, false, 110, 3, g8 es, 0⟩ :: l)) := by
  subst hz
  have e1 : cfg.sz 110 = 3 := rfl
  have e2 : (cfg.ti 110).bytes = 32 := rfl
  have hm : es.length ≤ maxLen := by
    have : (1000 : Nat) ≤ maxLen := by decide
    omega
  have hb : es.length * 32 ≤ 140737488355328 := by omega
  have h1 : (g8 es).length = es.length * 3 := by rw [o9]; omega
  have h2 : ¬ es.length = 0 := by omega
  have h3 : ¬ es.length * 3 = 0 := by omega
  simp [j5, rd, lenOf, e1, e2, h1, hm, hb, p5, p9, h0, h2, h3]
variable {b4 : Blk}
theorem app_onF {b5 b6 b7 b8 : Blk} {l : c6} {x : BA} {k m : Int} (hz : es.length = n) (hn : n < 1000) : j5 cfg 110 (h ++ (b0 :: b1 :: b2 :: ⟨g, false, 110, 3, g8 es, 0⟩ :: b4 :: b5 :: b6 :: b7 :: b8 :: ⟨0, false, 110, 3, [.str x, .int .i64 k, .int .i64 m], 0⟩ :: l)) (.own (h.length + 3) g 0 n) (.own (h.length + 9) 0 0 1) = some (.own (h.length + 3) (g + 1) 0 (n + 1), h ++ (b0 :: b1 :: b2 :: ⟨g + 1, false, 110, 3, g8 (es ++ [⟨x, k, m⟩]), 0⟩ :: b4 :: b5 :: b6 :: b7 :: b8 :: ⟨0, false, 110, 3, [.str x, .int .i64 k, .int .i64 m], 0⟩ :: l)) := by
  subst hz
  have e1 : cfg.sz 110 = 3 := rfl
  have e2 : (cfg.ti 110).bytes = 32 := rfl
  have hm : es.length + 1 ≤ maxLen := by
    have : (1001 : Nat) ≤ maxLen := by decide
    omega
  have hb : (es.length + 1) * 32 ≤ 140737488355328 := by omega
  have h1 : (g8 es).length = es.length * 3 := by rw [o9]; omega
  have ht : List.take (es.length * 3) (g8 es) = g8 es := List.take_of_length_le (by omega)
  have hnl : ¬ (es.length + 1) * 3 ≤ es.length * 3 := by omega
  have hs : g8 (es ++ [⟨x, k, m⟩]) = g8 es ++ [.str x, .int .i64 k, .int .i64 m] := by simp [g8, gC]
  simp [j5, rd, lenOf, e1, e2, h1, hm, hb, ht, hnl, p5, p9, hs]
theorem nT : ∀ {l : List Pm} {x : Pm} {a b : Nat}, jW (l ++ [x]) a b = jW l a b ++ [if x.mu then ⟨x.name, 5, ((b + aE l : Nat) : Int)⟩ else ⟨x.name, 4, ((a + eF l : Nat) : Int)⟩]
  | [], x, a, b => by simp [jW, aE, eF]; split <;> rfl
  | y :: l, x, a, b => by
    simp only [List.cons_append, jW]
    cases hy : y.mu with
    | true =>
      simp only [if_true, nT (l := l), List.cons_append, aE, eF, List.filter_cons, hy, Bool.not_true, Bool.false_eq_true, if_false, List.length_cons]
      rw [show b + 1 + (l.filter fun x => x.mu).length = b + ((l.filter fun x => x.mu).length + 1) from by omega]
    | false =>
      simp only [Bool.false_eq_true, if_false, nT (l := l), List.cons_append, aE, eF, List.filter_cons, hy, Bool.not_false, if_true, List.length_cons]
      rw [show a + 1 + (l.filter fun x => !x.mu).length = a + ((l.filter fun x => !x.mu).length + 1) from by omega]
variable {l : List Pm}
theorem O1 {a b : Nat} : (jW l a b).length = l.length := by
  have := congrArg List.length (fW l a b)
  simpa using this
theorem O2 : eF l ≤ l.length := List.length_filter_le _ _
theorem pA (h : i < l.length) : l.take (i + 1) = l.take i ++ [l.getD i fP] := by
  rw [List.take_add_one]
  simp [List.getD, h]
theorem uS {x : Pm} : eF (l ++ [x]) = eF l + (if x.mu then 0 else 1) := by
  simp only [eF, List.filter_append, List.length_append]
  cases h : x.mu <;> simp [h]
theorem sZ {x : Pm} : aE (l ++ [x]) = aE l + (if x.mu then 1 else 0) := by
  simp only [aE, List.filter_append, List.length_append]
  cases h : x.mu <;> simp [h]
theorem drop_pm (hi : i < l.length) : l.drop i = l.getD i fP :: l.drop (i + 1) := by
  rw [List.drop_eq_getElem_cons hi]
  simp [List.getD, hi]
theorem findP (hp : GP p) {j : Nat} (hj : j < p.funcs.length) (hi : i < (p.funcs.getD j g7).params.length) : aT (z5 p ++ jW ((p.funcs.getD j g7).params.take i) 0 0) ((p.funcs.getD j g7).params.getD i fP).name = none := by
  have hn := (sH hp.toGH hj).nodup sG
  rw [List.map_append, fW] at hn
  have hs : ((p.funcs.getD j g7).params.map (·.name)) = (((p.funcs.getD j g7).params.take i).map (·.name)) ++ ((p.funcs.getD j g7).params.getD i fP).name :: (((p.funcs.getD j g7).params.drop (i + 1)).map (·.name)) := by
    have h1 : (p.funcs.getD j g7).params = (p.funcs.getD j g7).params.take i ++ ((p.funcs.getD j g7).params.getD i fP :: (p.funcs.getD j g7).params.drop (i + 1)) := by
      have h2 := drop_pm hi
      rw [← h2, List.take_append_drop]
    have h3 := congrArg (List.map (fun x : Pm => x.name)) h1
    rw [List.map_append, List.map_cons] at h3
    exact h3
  rw [hs, ← List.append_assoc] at hn
  refine sF fun hm => ?_
  rw [List.map_append, fW] at hm
  exact (List.nodup_append.1 hn).2.2 _ hm _ (by simp) rfl
theorem bd_of (hp : GP p) {f : Fu} : Bd (IU p f) (ctxP p f) p := ⟨rfl, rfl, rfl, fun x hx => by
  obtain ⟨g, hg, rfl⟩ := List.mem_map.1 hx
  exact (hp.toGH.nH hg).1⟩
theorem LR (h : i < l.length) : List.take 1 (List.drop (i * 2) (r7 l)) = [.str (l.getD i fP).name] := U5 S4 2 0 (fun _ => rfl) (by omega) fP h
section
attribute [local go_sem] app_cpF app_onF xF sV sW xG xH oW lJ LR
theorem c_func (hp : GP p) {j : Nat} (hj : j < p.funcs.length) : CB 52 [.agg [.vec p.globals.length (o5 p.globals), .vec p.c4.length (g9 p.c4), .vec p.funcs.length (n4 p.funcs)], .vec (z5 p).length (g8 (z5 p)), .agg (cY (p.funcs.getD j g7))] h (.tup [.agg (sC (lS p (p.funcs.getD j g7))), .vec (s2F p (p.funcs.getD j g7)).sites.length (j4 (s2F p (p.funcs.getD j g7)).sites), .int .i64 0, .int .i64 0]) := by
  unfold cY
  refine .bz Tryz.f52 136 ?_
  have hdl := nS (p := p)
  have hgl := hp.gl
  have hml := hp.ml
  have hfl := hp.fl
  have hpn := (hp.toGH.nH (j9 (d := g7) hj)).1
  have hbd := hp.body j hj
  have hwt := F1 (l := p.funcs) hj
  have hww := hp.wt
  refine .z ?_
  refine .sg s7 (mkH 7 [0, 0, 0, 6, 15, 31, 63] [1, 3, 5] [] [0, 2, 10, 42] [0]) 0 ?_
  refine .rm [true] ?_
  refine .en [true] [2, 0] [_] ?_
  refine .p 1 ?_
  refine .en [true, false] [10, 2, 0] [_] ?_
  refine .p 1 ?_
  refine .en [true, false, false] [42, 10, 2, 0] [_] ?_
  refine .p 1 ?_
  refine .po [false, true, true, true] ?_
  refine s4.nil rfl ?_
  refine .c7 [5, 6, 10] ?_
  refine c9.lR (β := h.length + 4) (k := 8) t36 rfl ?_
  simp only [List.append_assoc, List.cons_append, List.nil_append, p5, p9, List.set_cons_succ, List.set_cons_zero, List.length_append, List.length_cons, List.length_nil, Nat.reduceAdd, Nat.zero_add]
  refine c9.lR (β := h.length + 4) (k := 9) t36 rfl ?_
  simp only [List.append_assoc, List.cons_append, List.nil_append, p5, p9, List.set_cons_succ, List.set_cons_zero, List.length_append, List.length_cons, List.length_nil, Nat.reduceAdd, Nat.zero_add]
  refine c55z ?_
  refine .aW (fun m st => ∃ (i : Nat), (m = (p.funcs.getD j g7).params.length - i ∧ i ≤ (p.funcs.getD j g7).params.length) ∧ st = ⟨mkS 136 [(5, AV.ptr (h.length + 1) 0 0), (6, AV.ptr (h.length + 2) 0 0), (10, AV.ptr (h.length + 4) 0 0), (11, AV.ptr (h.length + 7) 0 0), (12, AV.int .i64 ((i : Nat) : Int))], h ++ [⟨0, false, 27, 3, [.vec p.globals.length (o5 p.globals), .vec p.c4.length (g9 p.c4), .vec p.funcs.length (n4 p.funcs)], 0⟩, ⟨0, false, 101, 3, [.str (p.funcs.getD j g7).name, .vec (p.funcs.getD j g7).params.length (r7 (p.funcs.getD j g7).params), .vec (p.funcs.getD j g7).body.len (n6 (p.funcs.getD j g7).body)], 0⟩, ⟨0, false, 80, 5, [.str ByteArray.empty, .int .i64 0, .int .i64 0, .int .i64 0, .j6], 0⟩, ⟨1 + i, false, 110, 3, g8 (z5 p ++ jW ((p.funcs.getD j g7).params.take i) 0 0), 0⟩, ⟨0, false, 148, 10, [.vec p.globals.length (o5 p.globals), .vec p.c4.length (g9 p.c4), .vec p.funcs.length (n4 p.funcs), .own (h.length + 3) (1 + i) 0 ((z5 p).length + i), .int .i64 0, .int .i64 0, .int .i64 0, .int .i64 0, .own (h.length + 5) 0 0 0, .own (h.length + 6) 0 0 0], 0⟩, ⟨0, true, 0, 0, [], 0⟩, ⟨0, true, 0, 0, [], 0⟩, ⟨0, false, 80, 5, [.str (p.funcs.getD j g7).name, .int .i64 ((eF ((p.funcs.getD j g7).params.take i) : Nat) : Int), .int .i64 ((aE ((p.funcs.getD j g7).params.take i) : Nat) : Int), .int .i64 0, .j6], 0⟩]⟩) (.v ⟨0, ⟨rfl, by omega⟩, rfl⟩) ?_ (he := by (simp [jW, eF, aE]))
  rintro m sl h' ⟨i, ⟨hm, hi⟩, hst⟩
  obtain ⟨rfl, rfl⟩ := St.mk.inj hst; clear hst
  have hLl : (z5 p ++ jW ((p.funcs.getD j g7).params.take i) 0 0).length = (z5 p).length + i := by simp only [List.length_append, O1, List.length_take]; omega
  have hpl : (jW ((p.funcs.getD j g7).params.take i) 0 0).length = i := by simp only [O1, List.length_take]; omega
  have hne : g8 (z5 p ++ jW ((p.funcs.getD j g7).params.take i) 0 0) ≠ [] := by intro h0; have := congrArg List.length h0; rw [o9] at this; simp only [List.length_nil] at this; omega
  have hni := O2 (l := (p.funcs.getD j g7).params.take i); have hnl := zG (l := (p.funcs.getD j g7).params.take i); rw [List.length_take] at hni hnl
  refine c0z ?_
  refine u2z ?_ ?_
  ·intro e1 qe1
   refine c7z ?_
   refine .seq ?_
   have hfn := findP hp hj (i := i) (by omega)
   refine .sg s7 (mkH 17 [0, 1, 3, 7, 0, 16, 0, 112, 240, 496, 1023, 2047, 4095, 4095, 0, 24575, 65535] [10, 14, 15] [(14, 0)] [0, 1024, 16384, 17408, 50176] [0, 1, 2, 3, 4, 5, 6, 7, 8, 9, 10, 11, 12, 13]) 1 ?_
   refine s4.v9 t22 ?_
   refine .p 3 ?_
   refine c102z ?_
   refine c153z ?_
   refine .cm [true] [1024, 0] [_] rfl rfl (by simp only [iS, and_true, List.cons_append, List.nil_append]; exact xI t183 hLl (by omega) hfn) ?_
   refine .p 3 ?_
   refine .en [true, true] [17408, 16384, 1024, 0] [_, _] ?_
   refine .en [true, false, false, false] [50176, 17408, 16384, 1024, 0] [_] ?_
   refine .p 1 ?_
   refine s4.pop [false, false, true, false, true] (by kernel_rfl) (by simp only [pJ, and_true, List.cons_append, List.nil_append]; exact ⟨bV.o7 rfl rfl rfl rfl hb51 (xI t183 hLl (by omega) hfn) rfl, bV.o7 rfl rfl rfl rfl hb51 (xI t183 hLl (by omega) hfn) rfl⟩) ?_
   refine c128z ?_
   refine .po [false, false, true, false, true] ?_
   refine s4.nil rfl ?_
   refine .c7 [5, 6, 10, 11, 12, 14] ?_
   refine c8z ?_
   refine .sk ?_
   refine .z ?_
   refine u2z ?_ ?_
   ·intro e2 qe2
    refine .c7 [5, 6, 10, 11, 12] ?_
    refine .sg s7 (mkH 19 [0, 0, 2, 6, 14, 0, 32, 0, 224, 480, 992, 0, 2048, 8160, 16352, 32766, 65535, 131071, 262143] [14, 15, 18] [] [0, 16384, 49152, 311296] [0, 1, 2, 3, 4]) 0 ?_
    refine c181z ?_
    refine c154z ?_
    refine c86z ?_
    refine c154z ?_
    refine .p 1 ?_
    refine .en [true] [16384, 0] [_] ?_
    refine .en [true, false] [49152, 16384, 0] [_] ?_
    refine .p 2 ?_
    refine .en [true, false, false] [311296, 49152, 16384, 0] [_] ?_
    refine c23z ?_
    refine .c7 [5, 6, 10, 11, 12] ?_
    refine c56z ?_
    have hmu : ((p.funcs.getD j g7).params.getD i fP).mu = true := by simp_all
    have hs1 : jW ((p.funcs.getD j g7).params.take (i + 1)) 0 0 = jW ((p.funcs.getD j g7).params.take i) 0 0 ++ [⟨((p.funcs.getD j g7).params.getD i fP).name, 5, ((aE ((p.funcs.getD j g7).params.take i) : Nat) : Int)⟩] := by rw [pA (by omega), nT, hmu]; simp
    have hs2 : eF ((p.funcs.getD j g7).params.take (i + 1)) = eF ((p.funcs.getD j g7).params.take i) + 0 := by rw [pA (by omega), uS, hmu]; rfl
    have hs3 : aE ((p.funcs.getD j g7).params.take (i + 1)) = aE ((p.funcs.getD j g7).params.take i) + 1 := by rw [pA (by omega), sZ, hmu]; rfl
    exact ⟨_, by omega, .v ⟨(i + 1), ⟨rfl, by omega⟩, rfl⟩ (he := t118) (hk := t69)⟩
   intro e2 qe2
   refine .c7 [5, 6, 10, 11, 12] ?_
   refine .sg s7 (mkH 19 [0, 0, 2, 6, 14, 0, 32, 0, 224, 480, 992, 0, 2048, 8160, 16352, 32766, 65535, 131071, 262143] [14, 15, 18] [] [0, 16384, 49152, 311296] [0, 1, 2, 3, 4]) 0 ?_
   refine c181z ?_
   refine c154z ?_
   refine c86z ?_
   refine c154z ?_
   refine .p 1 ?_
   refine .en [true] [16384, 0] [_] ?_
   refine .en [true, false] [49152, 16384, 0] [_] ?_
   refine .p 2 ?_
   refine .en [true, false, false] [311296, 49152, 16384, 0] [_] ?_
   refine c23z ?_
   refine .c7 [5, 6, 10, 11, 12, 80] ?_
   refine c56z ?_
   have hmu : ((p.funcs.getD j g7).params.getD i fP).mu = false := by simp_all
   have hs1 : jW ((p.funcs.getD j g7).params.take (i + 1)) 0 0 = jW ((p.funcs.getD j g7).params.take i) 0 0 ++ [⟨((p.funcs.getD j g7).params.getD i fP).name, 4, ((eF ((p.funcs.getD j g7).params.take i) : Nat) : Int)⟩] := by rw [pA (by omega), nT, hmu]; simp
   have hs2 : eF ((p.funcs.getD j g7).params.take (i + 1)) = eF ((p.funcs.getD j g7).params.take i) + 1 := by rw [pA (by omega), uS, hmu]; rfl
   have hs3 : aE ((p.funcs.getD j g7).params.take (i + 1)) = aE ((p.funcs.getD j g7).params.take i) + 0 := by rw [pA (by omega), sZ, hmu]; rfl
   exact ⟨_, by omega, .v ⟨(i + 1), ⟨rfl, by omega⟩, rfl⟩ (he := t118) (hk := t69)⟩
  intro e1 qe1
  refine .exit ?_
  obtain rfl : i = (p.funcs.getD j g7).params.length := by omega
  rw [List.take_length] at hLl hne ⊢
  rw [← hLl]
  refine c9.C2 (γ := h.length + 3) (β := h.length + 4) (k := 3) (off := 0) (len := (z5 p ++ jW (p.funcs.getD j g7).params 0 0).length) (cs := g8 (z5 p ++ jW (p.funcs.getD j g7).params 0 0)) t36 rfl (by simp only [o9]; omega) (by rw [List.drop_zero, List.take_of_length_le (by simp only [o9]; omega)]; exact (oY _).QD) t36 (by omega) rfl ?_
  refine c15z ?_
  refine .z ?_
  refine .c7 [5, 6, 10, 11] ?_
  refine c9.v9 (h ++ [⟨0, false, 27, 3, [.vec p.globals.length (o5 p.globals), .vec p.c4.length (g9 p.c4), .vec p.funcs.length (n4 p.funcs)], 0⟩, ⟨0, false, 101, 3, [.str (p.funcs.getD j g7).name, .vec (p.funcs.getD j g7).params.length (r7 (p.funcs.getD j g7).params), .vec (p.funcs.getD j g7).body.len (n6 (p.funcs.getD j g7).body)], 0⟩, ⟨0, false, 80, 5, [.str ByteArray.empty, .int .i64 0, .int .i64 0, .int .i64 0, .j6], 0⟩, dG ⟨1 + (p.funcs.getD j g7).params.length, false, 110, 3, g8 (z5 p ++ jW (p.funcs.getD j g7).params 0 0), 0⟩ (0 + (z5 p ++ jW (p.funcs.getD j g7).params 0 0).length * 3), u7 (h.length + 4) (s0F p (p.funcs.getD j g7)), o8 77 12 (s0F p (p.funcs.getD j g7)).code.length (n9 (s0F p (p.funcs.getD j g7)).code), o8 3 1 (s0F p (p.funcs.getD j g7)).sites.length (j4 (s0F p (p.funcs.getD j g7)).sites), ⟨0, false, 80, 5, [.str (p.funcs.getD j g7).name, .int .i64 ((eF (p.funcs.getD j g7).params : Nat) : Int), .int .i64 ((aE (p.funcs.getD j g7).params : Nat) : Int), .int .i64 0, .j6], 0⟩]) (by simp only [s0F, u7, List.length_append, Nat.zero_add]; rfl) ?_
  generalize dG ⟨1 + (p.funcs.getD j g7).params.length, false, 110, 3, g8 (z5 p ++ jW (p.funcs.getD j g7).params 0 0), 0⟩ (0 + (z5 p ++ jW (p.funcs.getD j g7).params 0 0).length * 3) = Lb
  have hni2 := O2 (l := (p.funcs.getD j g7).params)
  have hB0 : Bnd (s0F p (p.funcs.getD j g7)) (p.funcs.getD j g7).body.wt := ⟨by show 0 < (z5 p ++ jW (p.funcs.getD j g7).params 0 0).length; omega, by show (z5 p ++ jW (p.funcs.getD j g7).params 0 0).length + _ ≤ _; omega, by show 0 + _ ≤ _; omega, by show 0 + _ ≤ _; omega, by show 0 ≤ ((eF (p.funcs.getD j g7).params : Nat) : Int); omega, by show ((eF (p.funcs.getD j g7).params : Nat) : Int) + _ ≤ _; omega, Int.le_refl _, by show 0 + _ ≤ _; omega⟩
  refine c19z ?_
  refine .ch rfl rfl (LQ (s := (s0F p (p.funcs.getD j g7))) (by omega) (sc_of hp.toGH hj) hbd.1 (bd_of hp) hB0) ?_
  refine .nil ?_
  have hc1 := gE (l0 := (s0F p (p.funcs.getD j g7)).l) (s := (s0F p (p.funcs.getD j g7))) (S := (p.funcs.getD j g7).body)
  have hc2 := fZ (l0 := (s0F p (p.funcs.getD j g7)).l) (s := (s0F p (p.funcs.getD j g7))) (S := (p.funcs.getD j g7).body)
  change _ ≤ (s1F p (p.funcs.getD j g7)).code.length ∧ (s1F p (p.funcs.getD j g7)).code.length ≤ 0 + _ at hc1
  change _ ≤ (s1F p (p.funcs.getD j g7)).sites.length ∧ (s1F p (p.funcs.getD j g7)).sites.length ≤ 0 + _ at hc2
  refine c9.v9 (h ++ [⟨0, false, 27, 3, [.vec p.globals.length (o5 p.globals), .vec p.c4.length (g9 p.c4), .vec p.funcs.length (n4 p.funcs)], 0⟩, ⟨0, false, 101, 3, [.str (p.funcs.getD j g7).name, .vec (p.funcs.getD j g7).params.length (r7 (p.funcs.getD j g7).params), .vec (p.funcs.getD j g7).body.len (n6 (p.funcs.getD j g7).body)], 0⟩, ⟨0, false, 80, 5, [.str ByteArray.empty, .int .i64 0, .int .i64 0, .int .i64 0, .j6], 0⟩, Lb, u7 (h.length + 4) (s1F p (p.funcs.getD j g7)), o8 77 12 (s1F p (p.funcs.getD j g7)).code.length (n9 (s1F p (p.funcs.getD j g7)).code), o8 3 1 (s1F p (p.funcs.getD j g7)).sites.length (j4 (s1F p (p.funcs.getD j g7)).sites), ⟨0, false, 80, 5, [.str (p.funcs.getD j g7).name, .int .i64 ((eF (p.funcs.getD j g7).params : Nat) : Int), .int .i64 ((aE (p.funcs.getD j g7).params : Nat) : Int), .int .i64 0, .j6], 0⟩]) rfl ?_
  refine c119z ?_
  refine .ch rfl rfl (c_putF (s := (s1F p (p.funcs.getD j g7))) (by omega) (by omega) ⟨8, 0, false, j8, aZ, [], []⟩ _ (by repeat' (first | exact trivial | exact mK.refl _ | exact .inl rfl | exact .inr ⟨rfl, rfl⟩ | refine ⟨?_, ?_⟩))) ?_
  refine .nil ?_
  refine .c7 [6, 10, 11] ?_
  refine c9.v9 (h ++ [⟨0, false, 27, 3, [.vec p.globals.length (o5 p.globals), .vec p.c4.length (g9 p.c4), .vec p.funcs.length (n4 p.funcs)], 0⟩, ⟨0, false, 101, 3, [.str (p.funcs.getD j g7).name, .vec (p.funcs.getD j g7).params.length (r7 (p.funcs.getD j g7).params), .vec (p.funcs.getD j g7).body.len (n6 (p.funcs.getD j g7).body)], 0⟩, ⟨0, false, 80, 5, [.str ByteArray.empty, .int .i64 0, .int .i64 0, .int .i64 0, .j6], 0⟩, Lb, u7 (h.length + 4) (s2F p (p.funcs.getD j g7)), o8 77 12 (s2F p (p.funcs.getD j g7)).code.length (n9 (s2F p (p.funcs.getD j g7)).code), o8 3 1 (s2F p (p.funcs.getD j g7)).sites.length (j4 (s2F p (p.funcs.getD j g7)).sites), ⟨0, false, 80, 5, [.str (p.funcs.getD j g7).name, .int .i64 ((eF (p.funcs.getD j g7).params : Nat) : Int), .int .i64 ((aE (p.funcs.getD j g7).params : Nat) : Int), .int .i64 0, .j6], 0⟩]) rfl ?_
  refine c9.nE (γ := h.length + 5) (β := h.length + 4) (k := 8) (len := (s2F p (p.funcs.getD j g7)).code.length) t36 (by rw [r8]; omega) (by omega) (OQ _) t36 (by omega) rfl ?_
  simp only [xF, sV, sW, xG, xH, oW, List.append_assoc, List.cons_append, List.nil_append, p5, p9, List.set_cons_succ, List.set_cons_zero, List.length_append, List.length_cons, List.length_nil, Nat.reduceAdd, Nat.zero_add]
  generalize gH 77 12 (s2F p (p.funcs.getD j g7)).code.length (n9 (s2F p (p.funcs.getD j g7)).code) ((s2F p (p.funcs.getD j g7)).code.length * 12) = Cb
  refine c9.nE (γ := h.length + 6) (β := h.length + 4) (k := 9) (len := (s2F p (p.funcs.getD j g7)).sites.length) t36 (by rw [l7]; omega) (by omega) (tZ _) t36 (by omega) rfl ?_
  simp only [List.append_assoc, List.cons_append, List.nil_append, p5, p9, List.set_cons_succ, List.set_cons_zero, List.length_append, List.length_cons, List.length_nil, Nat.reduceAdd, Nat.zero_add]
  generalize gH 3 1 (s2F p (p.funcs.getD j g7)).sites.length (j4 (s2F p (p.funcs.getD j g7)).sites) ((s2F p (p.funcs.getD j g7)).sites.length * 1) = Sb
  refine .sg s7 (mkH 12 [0, 1, 3, 7, 0, 16, 48, 112, 15, 271, 1023, 2047] [9, 11] [] [0, 512, 2560] [4, 5, 6, 7]) 0 ?_
  refine c86z ?_
  refine c153z ?_
  refine .p 1 ?_
  refine .en [true] [512, 0] [_] ?_
  refine .p 1 ?_
  refine .en [true, false] [2560, 512, 0] [_] ?_
  refine c163z ?_
  refine .c7 [6, 10, 11] ?_
  refine .sg s7 (mkH 17 [0, 0, 2, 6, 14, 0, 32, 96, 224, 0, 512, 1536, 3584, 1, 8223, 25087, 65535] [13] [] [0, 8192] [1, 2, 3, 4, 5, 6, 7, 8, 9, 10, 11, 12]) 0 ?_
  refine .rn [true] ?_
  refine c153z ?_
  refine c153z ?_
  refine c153z ?_
  refine .en [true] [8192, 0] [_] ?_
  refine .p 3 ?_
  refine .po [true, true] ?_
  refine .po [true, true] ?_
  refine .po [true, true] ?_
  refine s4.nil rfl ?_
  exact .ret (.ex (hq := by rfl))
end
theorem plnMx (l : List Mx) : z7 (g9 l) := z7.flat fun _ => z7.cons .str (z7.cons .bool (z7.cons .int .nil))
theorem plnPr (l : List Pr) : z7 (m7 l) := z7.flat fun _ => z7.cons .str (z7.cons .int (z7.cons .int (z7.cons .int (z7.cons .vec .nil))))
theorem F2 {l : List Pr} {x : Pr} : m7 (l ++ [x]) = m7 l ++ sC x := by simp [m7]
theorem U8 {l : List Gl} (h : i < l.length) : List.take 1 (List.drop (i * 2 + 1) (o5 l)) = [.int .i64 (l.getD i jV).init] := U5 S5 2 1 (fun _ => rfl) (by omega) jV h
theorem app_cpM {l : c6} {ms : List Mx} (hz : ms.length = n) (h0 : 0 < n) (hn : n < 1000) : j5 cfg 66 (h ++ (b0 :: b1 :: b2 :: ⟨1, false, 66, 3, [], 0⟩ :: l)) (.own (h.length + 3) 1 0 0) (.vec n (g9 ms)) = some (.own (h.length + 3) 2 0 n, h ++ (b0 :: b1 :: b2 :: ⟨2, false, 66, 3, g9 ms, 0⟩ :: l)) := by
  subst hz
  have e1 : cfg.sz 66 = 3 := rfl
  have e2 : (cfg.ti 66).bytes = 32 := rfl
  have hm : ms.length ≤ maxLen := by
    have : (1000 : Nat) ≤ maxLen := by decide
    omega
  have hb : ms.length * 32 ≤ 140737488355328 := by omega
  have h1 : (g9 ms).length = ms.length * 3 := by rw [m9]; omega
  have h2 : ¬ ms.length = 0 := by omega
  have h3 : ¬ ms.length * 3 = 0 := by omega
  simp [j5, rd, lenOf, e1, e2, h1, hm, hb, p5, p9, h0, h2, h3]
theorem app_gi {l : c6} {is : List Int} {x : Int} (hn : is.length = n) (hl : n < 100000) : j5 cfg 3 (h ++ (b0 :: b1 :: b2 :: b3 :: b4 :: o8 3 1 g (j4 is) :: ⟨0, false, 3, 1, [.int .i64 x], 0⟩ :: l)) (.own (h.length + 5) g 0 n) (.own (h.length + 6) 0 0 1) = some (.own (h.length + 5) (g + 1) 0 (n + 1), h ++ (b0 :: b1 :: b2 :: b3 :: b4 :: o8 3 1 (g + 1) (j4 (is ++ [x])) :: ⟨0, false, 3, 1, [.int .i64 x], 0⟩ :: l)) := by
  subst hn
  rw [y0 (C := cfg) (K := 1) (m := 1) (new := [.int .i64 x]) (zs := j4 is) t36 rfl (by omega) (by rw [l7, Nat.mul_one]) rfl (by omega) t173 rfl (by decide) (by omega), ← nP, p9]
  rfl
theorem app_pr {b5 b7 : Blk} {l : c6} {ps : List Pr} {x : Pr} (hn : ps.length = n) (hl : n < 100000) : j5 cfg 80 (h ++ (b0 :: b1 :: b2 :: b3 :: b4 :: b5 :: o8 80 5 g (m7 ps) :: b7 :: ⟨0, false, 80, 5, sC x, 0⟩ :: l)) (.own (h.length + 6) g 0 n) (.own (h.length + 8) 0 0 1) = some (.own (h.length + 6) (g + 1) 0 (n + 1), h ++ (b0 :: b1 :: b2 :: b3 :: b4 :: b5 :: o8 80 5 (g + 1) (m7 (ps ++ [x])) :: b7 :: ⟨0, false, 80, 5, sC x, 0⟩ :: l)) := by
  subst hn
  rw [y0 (C := cfg) (K := 5) (m := 1) (new := sC x) (zs := m7 ps) t36 rfl (by omega) (by rw [aH, Nat.mul_comm]) rfl (by omega) (by simp [rd, p5, sC]) rfl (by decide) (by omega), ← F2, p9]
  rfl
theorem LS {l : List Fu} (h : 0 < l.length) : List.take 1 (List.drop 1 (n4 l)) = [AV.vec (l.getD 0 g7).params.length (r7 (l.getD 0 g7).params)] := lJ (i := 0) h
theorem DX (hp : GP p) : aT (z5 p) ⟨#[109, 97, 105, 110]⟩ = some ⟨⟨#[109, 97, 105, 110]⟩, 3, 0⟩ := by
  have hf := hp.fl.1
  have hn : (p.funcs.getD 0 g7).name = ⟨#[109, 97, 105, 110]⟩ := (hp.fn 0 (by omega)).1
  have := oS (uR hp) (e := ⟨(p.funcs.getD 0 g7).name, 3, ((0 : Nat) : Int)⟩) (List.mem_append.2 (.inr (List.mem_append.2 (.inr (List.mem_map.2 ⟨0, List.mem_range.2 (by omega), rfl⟩)))))
  rw [hn] at this
  exact this
theorem taken {α : Type} {l : List α} {d : α} (h : i < l.length) : l.take (i + 1) = l.take i ++ [l.getD i d] := by
  rw [List.take_add_one]
  simp [List.getD, h]
theorem DY {x : Pr} : (sC x).length = 5 := rfl
theorem takePr {x : Pr} : List.take 5 (sC x) = sC x := rfl
section
attribute [local go_sem] app_cpM app_gi app_pr lJ LS U8 sB DY takePr
theorem c_lower (hp : GP p) : CB 28 [.agg [.vec p.globals.length (o5 p.globals), .vec p.c4.length (g9 p.c4), .vec p.funcs.length (n4 p.funcs)]] h (.tup [.agg (encUn (bZ p)), .int .i64 0, .int .i64 0, .int .i64 0]) := by
  refine .bz Tryz.f28 112 ?_
  have hdl := nS (p := p)
  have hgl := hp.gl
  have hml := hp.ml
  have hfl := hp.fl
  have hmain := DX hp
  have hz0 : (p.funcs.getD 0 g7).params.length = 0 := by rw [(hp.fn 0 (by omega)).2.1 rfl]; rfl
  refine c28z ?_
  refine c79z ?_
  refine .ca rfl rfl (c_valid hp) ?_
  refine .n ?_
  refine c16z ?_
  refine c79z ?_
  refine .ca rfl rfl (c_decl hp) ?_
  refine c41z ?_
  refine .c7 [1, 2, 6, 7] ?_
  refine c8z ?_
  refine .sk ?_
  refine c79z ?_
  refine .ca rfl rfl (E8 hmain (by omega)) ?_
  refine c41z ?_
  refine .s ?_
  refine .k 8 [(2, 37)] ?_
  refine .k 8 [(7, 42)] ?_
  refine .m [(7, 42)] ?_
  refine uFbz ?_
  intro e1 qe1
  refine .sk ?_
  refine .c7 [1, 2, 6, 8, 30] ?_
  refine .sg s7 (mkH 9 [0, 1, 0, 0, 8, 28, 63, 0, 255] [2, 5, 7, 8] [(2, 0), (7, 1)] [0, 4, 36, 128, 132, 164, 420] [0, 1, 2, 3, 4, 5, 6]) 2 ?_
  refine c30z ?_
  refine .em [true] [4, 0] [_] ?_
  refine .p 1 ?_
  refine .rm [true, true] ?_
  refine .em [true, false] [36, 4, 0] [_] ?_
  refine .p 1 ?_
  refine .en [true, true, true] [164, 132, 128, 36, 4, 0] [_, _, _] ?_
  refine .en [true, false, false, false, false, false] [420, 164, 132, 128, 36, 4, 0] [_] ?_
  refine .po [false, false, true, false, false, true, false] ?_
  refine .po [false, false, true, true, false, true, true] ?_
  refine .po [false, false, false, true, false, false, true] ?_
  refine .po [false, true, true, true, true, true, true] ?_
  refine s4.nil rfl ?_
  refine .seq ?_
  refine .c7 [1, 2, 6, 10, 30] ?_
  refine c22z ?_
  refine c9.lR (β := h.length + 4) (k := 0) t36 rfl ?_
  simp only [List.append_assoc, List.cons_append, List.nil_append, p5, p9, List.set_cons_succ, List.set_cons_zero, List.length_append, List.length_cons, List.length_nil, Nat.reduceAdd, Nat.zero_add]
  refine .aW (fun m st => ∃ (i : Nat), (m = p.globals.length - i ∧ i ≤ p.globals.length) ∧ st = ⟨mkS 112 [(1, AV.ptr h.length 0 0), (2, AV.ptr (h.length + 1) 0 0), (6, AV.vec (z5 p).length (g8 (z5 p))), (10, AV.ptr (h.length + 4) 1 0), (11, AV.int .i64 ((i : Nat) : Int))], h ++ [⟨0, false, 27, 3, [.vec p.globals.length (o5 p.globals), .vec p.c4.length (g9 p.c4), .vec p.funcs.length (n4 p.funcs)], 0⟩, ⟨0, false, 30, 4, [.j6, .j6, .j6, .int .i64 0], 0⟩, ⟨0, false, 110, 3, [.str ⟨#[109, 97, 105, 110]⟩, .int .i64 3, .int .i64 0], 0⟩, ⟨2, false, 66, 3, g9 p.c4, 0⟩, ⟨1, false, 30, 4, [.own (h.length + 5) i 0 i, .own (h.length + 3) 2 0 p.c4.length, .j6, .int .i64 0], 0⟩, o8 3 1 i (j4 ((bZ p).globals.take i))]⟩) (.v ⟨0, ⟨rfl, by omega⟩, rfl⟩) ?_
  rintro m sl h' ⟨i, ⟨hm, hi⟩, hst⟩
  obtain ⟨rfl, rfl⟩ := St.mk.inj hst; clear hst
  have htl : ((bZ p).globals.take i).length = i := by simp [bZ]; omega
  refine c0z ?_
  refine u2z ?_ ?_
  ·intro e2 qe2
   refine c7z ?_
   refine .og s7 (mkH 12 [0, 1, 0, 4, 0, 28, 60, 124, 252, 511, 1023, 2047] [8, 9, 11] [] [0, 256, 768, 2816] [0, 1]) 0 ?_
   refine c30z ?_
   refine c154z ?_
   refine c86z ?_
   refine .en [true] [256, 0] [_] ?_
   refine .en [true, false] [768, 256, 0] [_] ?_
   refine .p 1 ?_
   refine .en [true, false, false] [2816, 768, 256, 0] [_] ?_
   refine c132z ?_
   refine .c7 [1, 2, 6, 10, 11] ?_
   refine .rz ?_
   exact ⟨_, by omega, .v ⟨(i + 1), ⟨rfl, by omega⟩, rfl⟩ (he := by (rw [taken (d := 0) (l := (bZ p).globals) (by simp [bZ]; omega), show (bZ p).globals.getD i 0 = (p.globals.getD i jV).init from getD_map (by omega)]; simp only [List.append_assoc, List.cons_append, List.nil_append]; rfl)) (hk := by exact (aK.refl _).app rfl ⟨.inl rfl, .inl rfl, .inl rfl, .inl rfl, .inr (eV.get ⟨.own _ _ _ _ (by simp), .own _ _ _ _ (by simp), .j6, .int _ _, trivial⟩), .inr (by rw [o4]; exact (tZ _).refs _), trivial⟩)⟩
  intro e2 qe2
  refine .exit ?_
  obtain rfl : i = p.globals.length := by omega
  change c9 ..
  refine c5z ?_
  refine c9.lR (β := h.length + 4) (k := 2) t36 rfl ?_
  simp only [List.append_assoc, List.cons_append, List.nil_append, p5, p9, List.set_cons_succ, List.set_cons_zero, List.length_append, List.length_cons, List.length_nil, Nat.reduceAdd, Nat.zero_add]
  refine .aW (fun m st => ∃ (i : Nat), (m = p.funcs.length - i ∧ i ≤ p.funcs.length) ∧ st = ⟨mkS 112 [(1, AV.ptr h.length 0 0), (2, AV.ptr (h.length + 1) 0 0), (6, AV.vec (z5 p).length (g8 (z5 p))), (10, AV.ptr (h.length + 4) 1 0), (12, AV.int .i64 ((i : Nat) : Int))], h ++ [⟨0, false, 27, 3, [.vec p.globals.length (o5 p.globals), .vec p.c4.length (g9 p.c4), .vec p.funcs.length (n4 p.funcs)], 0⟩, ⟨0, false, 30, 4, [.j6, .j6, .j6, .int .i64 0], 0⟩, ⟨0, false, 110, 3, [.str ⟨#[109, 97, 105, 110]⟩, .int .i64 3, .int .i64 0], 0⟩, ⟨2, false, 66, 3, g9 p.c4, 0⟩, ⟨1, false, 30, 4, [.own (h.length + 5) p.globals.length 0 p.globals.length, .own (h.length + 3) 2 0 p.c4.length, .own (h.length + 6) i 0 i, .int .i64 0], 0⟩, o8 3 1 p.globals.length (j4 ((bZ p).globals.take p.globals.length)), o8 80 5 i (m7 ((bZ p).procs.take i))]⟩) (.v ⟨0, ⟨rfl, by omega⟩, rfl⟩) ?_
  rintro m sl h' ⟨i, ⟨hm, hi⟩, hst⟩
  obtain ⟨rfl, rfl⟩ := St.mk.inj hst; clear hst
  have htl : ((bZ p).procs.take i).length = i := by simp [bZ]; omega
  refine c0z ?_
  refine u2z ?_ ?_
  ·intro e3 qe3
   refine c7z ?_
   refine .sg s7 (mkH 18 [0, 0, 0, 4, 0, 28, 60, 127, 255, 511, 511, 511, 511, 0, 9215, 26623, 61439, 131071] [13, 14] [] [0, 8192, 24576] [0, 1, 2, 3, 4, 5, 6, 7, 8, 9, 10, 11, 12]) 0 ?_
   refine .rm [true] ?_
   refine .p 2 ?_
   refine .rm [true] ?_
   refine .p 2 ?_
   refine .rm [true] ?_
   refine .cl rfl rfl (fun _ => c_func hp (by omega)) ?_
   refine .p 5 ?_
   refine .en [true] [8192, 0] [_] ?_
   refine .en [true, false] [24576, 8192, 0] [_] ?_
   refine .p 3 ?_
   refine c31z ?_
   refine c163z ?_
   refine .seq ?_
   refine .c7 [1, 2, 6, 10, 12, 13, 15, 16] ?_
   refine c8z ?_
   refine .sk ?_
   refine c1z ?_
   refine .c7 [1, 2, 6, 10, 12] ?_
   refine .rz ?_
   exact ⟨_, by omega, .v ⟨(i + 1), ⟨rfl, by omega⟩, rfl⟩ (he := by (rw [taken (d := nG) (l := (bZ p).procs) (by simp [bZ]; omega), show (bZ p).procs.getD i nG = lS p (p.funcs.getD i g7) from getD_map (by omega)]; simp only [List.append_assoc, List.cons_append, List.nil_append]; rfl)) (hk := by exact (aK.refl _).app rfl ⟨.inl rfl, .inl rfl, .inl rfl, .inl rfl, .inr (eV.get ⟨.own _ _ _ _ (by simp), .own _ _ _ _ (by simp), .own _ _ _ _ (by simp), .int _ _, trivial⟩), .inl rfl, .inr (by rw [o4]; exact (plnPr _).refs _), trivial⟩)⟩
  intro e3 qe3
  refine .exit ?_
  obtain rfl : i = p.funcs.length := by omega
  have hgt : (bZ p).globals.take p.globals.length = (bZ p).globals := List.take_of_length_le (by simp [bZ])
  have hpt : (bZ p).procs.take p.funcs.length = (bZ p).procs := List.take_of_length_le (by simp [bZ])
  rw [hgt, hpt]
  have hgl2 : (bZ p).globals.length = p.globals.length := by simp [bZ]
  have hpl2 : (bZ p).procs.length = p.funcs.length := by simp [bZ]
  refine c9.nE (γ := h.length + 5) (β := h.length + 4) (k := 0) (len := p.globals.length) t36 (by rw [l7, hgl2, Nat.mul_one]) (by omega) (tZ _) t36 (by omega) rfl ?_
  simp only [List.append_assoc, List.cons_append, List.nil_append, p5, p9, List.set_cons_succ, List.set_cons_zero, List.length_append, List.length_cons, List.length_nil, Nat.reduceAdd, Nat.zero_add]
  generalize gH 3 1 p.globals.length (j4 (bZ p).globals) (p.globals.length * 1) = Gb
  refine c9.nE (γ := h.length + 6) (β := h.length + 4) (k := 2) (len := p.funcs.length) t36 (by rw [aH, hpl2, Nat.mul_comm]) (by omega) (plnPr _) t36 (by omega) rfl ?_
  simp only [List.append_assoc, List.cons_append, List.nil_append, p5, p9, List.set_cons_succ, List.set_cons_zero, List.length_append, List.length_cons, List.length_nil, Nat.reduceAdd, Nat.zero_add]
  generalize gH 80 5 p.funcs.length (m7 (bZ p).procs) (p.funcs.length * 5) = Pb
  refine c9.C2 (γ := h.length + 3) (β := h.length + 4) (k := 1) (off := 0) (len := p.c4.length) (cs := g9 p.c4) t36 rfl (by simp only [m9]; omega) (by rw [List.drop_zero, List.take_of_length_le (by simp only [m9]; omega)]; exact (plnMx _).QD) t36 (by omega) rfl ?_
  refine c15z ?_
  refine .c7 [2, 10] ?_
  refine .z ?_
  exact .ret (.ex (hq := by (simp only [encUn, hgl2, hpl2]; rfl)))
end
end Go.Proofs.YtfbjlfhjkojmkaaGreat
end
section
namespace Go.Proofs.YtfbjlfhjkojmkaaGreat
open Go.Ab Go.Un
variable {a b : List Int} {i : Nat}
theorem ne_at (h : a.getD i 0 ≠ b.getD i 0) : ¬ a = b := fun e => h (by rw [e])
theorem eq_all (hl : a.length = b.length) (h : ∀ d, d < a.length → a.getD d 0 = b.getD d 0) : a = b := by
  refine List.ext_getElem hl fun i h1 h2 => ?_
  have := h i h1
  simpa [List.getD, h1, h2] using this
theorem all_nx (h : ∀ d, d < i → a.getD d 0 = b.getD d 0) (e : a.getD i 0 = b.getD i 0) : ∀ d, d < i + 1 → a.getD d 0 = b.getD d 0 := fun d hd => by
  by_cases hdi : d = i
  · rw [hdi]; exact e
  · exact h d (by omega)
variable {l : List Int} {n : Int}
theorem no_nx (h : ∀ d, d < i → l.getD d 0 ≠ n) (e : l.getD i 0 ≠ n) : ∀ d, d < i + 1 → l.getD d 0 ≠ n := fun d hd => by
  by_cases hdi : d = i
  · rw [hdi]; exact e
  · exact h d (by omega)
theorem no_mem (h : ∀ d, d < l.length → l.getD d 0 ≠ n) : ¬ n ∈ l := fun hm => by
  obtain ⟨i, hi, rfl⟩ := bA (d := (0 : Int)) hm
  exact h i hi rfl
theorem take_I {k : Nat} : List.take k (j4 l) = j4 (l.take k) := by simp [j4, List.map_take]
theorem dropt_I {k : Nat} : List.take (l.length - k) (List.drop k (j4 l)) = j4 (l.drop k) := by
  rw [j4, ← List.map_drop, List.take_of_length_le (by simp)]; rfl
theorem kX (h : i < l.length) : List.take 1 (List.drop i (j4 l)) = [.int .i64 (l.getD i 0)] := by
  have h2 : i < (j4 l).length := by rw [l7]; exact h
  rw [List.drop_eq_getElem_cons h2]
  simp [j4, List.getD, h]
def gW (g n : Nat) : Nat := if n = 0 then g else g + 1
def kW (l : List Int) (n : Int) : Nat := (l.takeWhile fun x => decide (x < n)).length
def iB (l : List Int) (n : Int) : List Int := if n ∈ l then l else l.take (kW l n) ++ n :: l.drop (kW l n)
theorem kW_at : ∀ {k : Nat}, k ≤ l.length → (∀ d, d < k → l.getD d 0 < n) → (k < l.length → ¬ l.getD k 0 < n) → k = kW l n := by
  induction l with
  | nil => intro k hk _ _; simp at hk; subst hk; rfl
  | cons x l ih =>
    intro k hk h1 h2
    cases k with
    | zero =>
      have := h2 (by simp)
      simp only [List.getD_cons_zero] at this
      simp [kW, List.takeWhile, this]
    | succ k =>
      have h0 := h1 0 (by omega)
      simp only [List.getD_cons_zero] at h0
      have := ih (k := k) (by simpa using hk) (fun d hd => by have := h1 (d + 1) (by omega); simpa using this) (fun hl => by have := h2 (by simpa using hl); simpa using this)
      rw [kW, List.takeWhile_cons_of_pos (by simpa using h0), List.length_cons, this]
      rfl
theorem lt_nx (h : ∀ d, d < i → l.getD d 0 < n) (e : l.getD i 0 < n) : ∀ d, d < i + 1 → l.getD d 0 < n := fun d hd => by
  by_cases hdi : d = i
  · rw [hdi]; exact e
  · exact h d (by omega)
variable {h : c6} {g : Nat}
theorem app_w {l : c6} {n m : Nat} (ha : a.length = n) (hb : b.length = m) (hn : n < 150000) (hm : m < 100000) : j5 cfg 3 (h ++ (⟨g, false, 3, 1, j4 a, 0⟩ :: l)) (.own h.length g 0 n) (.vec m (j4 b)) = some (.own h.length (gW g m) 0 (n + m), h ++ (⟨gW g m, false, 3, 1, j4 (a ++ b), 0⟩ :: l)) := by
  subst ha hb
  have e1 : cfg.sz 3 = 1 := rfl
  have e2 : (cfg.ti 3).bytes = 8 := rfl
  have h1 : a.length + b.length ≤ maxLen := by
    have : (300000 : Nat) ≤ maxLen := by decide
    omega
  have h2 : (a.length + b.length) * 8 ≤ 140737488355328 := by omega
  have ht : List.take a.length (j4 a) = j4 a := List.take_of_length_le t175
  have hs : j4 (a ++ b) = j4 a ++ j4 b := by simp [j4]
  cases b with
  | nil =>
    simp only [List.length_nil, Nat.add_zero] at h1 h2
    simp [j5, rd, lenOf, e1, e2, gW, hs, j4, h1, h2]
  | cons x b =>
    simp only [List.length_cons] at h1 h2
    have h3 : ¬ a.length + (b.length + 1) ≤ a.length := by omega
    simp [j5, rd, lenOf, e1, e2, l7, h1, h2, ht, h3, gW, hs, gN, vP]
theorem app_w0 {l : c6} {m : Nat} (hb : b.length = m) (hm : m < 100000) : j5 cfg 3 (h ++ (⟨g, false, 3, 1, [], 0⟩ :: l)) (.own h.length g 0 0) (.vec m (j4 b)) = some (.own h.length (gW g m) 0 m, h ++ (⟨gW g m, false, 3, 1, j4 b, 0⟩ :: l)) := by
  have := app_w (h := h) (l := l) (a := []) (b := b) (g := g) (n := 0) rfl hb (by omega) hm
  rw [Nat.zero_add] at this
  exact this
theorem app_w1 {l : c6} {x : Int} {n : Nat} (ha : a.length = n) (hn : n < 100000) : j5 cfg 3 (h ++ (⟨g, false, 3, 1, j4 a, 0⟩ :: ⟨1, false, 3, 1, [.int .i64 x], 0⟩ :: l)) (.own h.length g 0 n) (.own (h.length + 1) 1 0 1) = some (.own h.length (g + 1) 0 (n + 1), h ++ (⟨g + 1, false, 3, 1, j4 (a ++ [x]), 0⟩ :: ⟨1, false, 3, 1, [.int .i64 x], 0⟩ :: l)) := by
  subst ha
  have e1 : cfg.sz 3 = 1 := rfl
  have e2 : (cfg.ti 3).bytes = 8 := rfl
  have h1 : a.length + 1 ≤ maxLen := by
    have : (200000 : Nat) ≤ maxLen := by decide
    omega
  have h2 : (a.length + 1) * 8 ≤ 140737488355328 := by omega
  have ht : List.take a.length (j4 a) = j4 a := List.take_of_length_le t175
  have hs : j4 (a ++ [x]) = j4 a ++ [.int .i64 x] := nP
  have h3 : ¬ a.length + 1 ≤ a.length := by omega
  simp [j5, rd, lenOf, e1, e2, l7, h1, h2, ht, h3, hs, p5, gN, vP]
theorem frz_I {n d : Nat} {H : c6} : o2 (jT n H (d + 1)) (j4 l) = some (j4 l) := (tZ l).frz _ _ _
theorem zY {n β len : Nat} {H : c6} (hb : H[β]? = some ⟨g, false, 3, 1, j4 a, 0⟩) (hn : n ≤ β) (hl : a.length = len) : gM n H 6 (.own β g 0 len) = some (.vec len (j4 a)) := by
  subst hl
  rw [eN, if_neg (by omega), fO, hb]
  simp only [hn, and_self, if_true, Bool.false_eq_true, if_false, Nat.zero_add, Nat.mul_one, l7, Nat.le_refl, List.drop_zero]
  rw [List.take_of_length_le t175, frz_I]
def fI : List s8 → s8 → Int
  | [], _ => -1
  | a :: l, x => if a = x then 0 else if fI l x < 0 then -1 else fI l x + 1
theorem fI_at : ∀ {l : List s8} {x : s8} {i : Nat}, i < l.length → (∀ d, d < i → l.getD d l3 ≠ x) → l.getD i l3 = x → fI l x = i
  | [], x, i, h, _, _ => by simp at h
  | a :: l, x, 0, _, _, h => by simp only [List.getD_cons_zero] at h; rw [fI, if_pos h]; rfl
  | a :: l, x, i + 1, hi, h1, h2 => by
    have h0 := h1 0 (by omega)
    simp only [List.getD_cons_zero] at h0
    have ih := fI_at (l := l) (x := x) (i := i) (by simpa using hi) (fun d hd => by have := h1 (d + 1) (by omega); simpa using this) (by simpa using h2)
    rw [fI, if_neg h0, ih, if_neg (by omega)]
    omega
theorem TU : ∀ {l : List s8} {x : s8}, (∀ d, d < l.length → l.getD d l3 ≠ x) → fI l x = -1
  | [], x, _ => rfl
  | a :: l, x, h => by
    have h0 := h 0 (by simp)
    simp only [List.getD_cons_zero] at h0
    have ih := TU (l := l) (x := x) (fun d hd => by have := h (d + 1) (by simpa using hd); simpa using this)
    rw [fI, if_neg h0, ih, if_pos (by omega)]
theorem O3 : ∀ {l : List s8} {x : s8}, x ∈ l → 0 ≤ fI l x ∧ fI l x < l.length ∧ l.getD (fI l x).toNat l3 = x
  | [], x, h => by simp at h
  | a :: l, x, h => by
    by_cases hx : a = x
    · rw [fI, if_pos hx]; simp [hx]
    · have ih := O3 (l := l) (x := x) (by simpa [Ne.symm hx] using h)
      rw [fI, if_neg hx, if_neg (by omega)]
      refine ⟨by omega, t54, ?_⟩
      rw [show (fI l x + 1).toNat = (fI l x).toNat + 1 from by omega]
      simpa using ih.2.2
variable {x : s8}
theorem fI_not {l : List s8} (h : x ∉ l) : fI l x = -1 := TU fun d hd e => h (e ▸ j9 hd)
theorem it_ne {l : List s8} (h : ∀ d, d < i → l.getD d l3 ≠ x) (e : l.getD i l3 ≠ x) : ∀ d, d < i + 1 → l.getD d l3 ≠ x := fun d hd => by
  by_cases hdi : d = i
  · rw [hdi]; exact e
  · exact h d (by omega)
theorem it_ne1 {l : List s8} (h : ¬ (l.getD i l3).proc = x.proc) : l.getD i l3 ≠ x := fun e => h (by rw [e])
theorem it_ne2 {l : List s8} (h : ¬ (l.getD i l3).j0 = x.j0) : l.getD i l3 ≠ x := fun e => h (by rw [e])
theorem nU {l : List s8} (h : i < l.length) : List.take 1 (List.drop (i * 2) (q9 l)) = [.int .i64 (l.getD i l3).proc] := U5 S6 2 0 (fun _ => rfl) (by omega) l3 h
theorem O4 {l : List s8} (h : i < l.length) : List.take 1 (List.drop (i * 2 + 1) (q9 l)) = [.vec (l.getD i l3).j0.length (j4 (l.getD i l3).j0)] := U5 S6 2 1 (fun _ => rfl) (by omega) l3 h
theorem lL {l : List s8} (h : i < l.length) : List.take 2 (List.drop (i * 2) (q9 l)) = [.int .i64 (l.getD i l3).proc, .vec (l.getD i l3).j0.length (j4 (l.getD i l3).j0)] := BC h
variable {u : Un} {it : s8}
theorem dB (h : it.proc.toNat < u.procs.length) : List.take 1 (List.drop (it.proc.toNat * 5 + 4) (m7 u.procs)) = [.vec (c8 u it).length (n9 (c8 u it))] := U5 sC 5 4 (fun _ => rfl) (by omega) nG h
theorem gV {l : List Ins} (h : i < l.length) : List.take 1 (List.drop (i * 12) (n9 l)) = [.int .i64 (l.getD i g5).op] := by
  rw [show i * 12 = i * 12 + 0 from rfl, n9, U5 dH 12 0 z8 (by omega) g5 h, jK]; rfl
theorem LU {l : List Ins} (h : i < l.length) : List.take 1 (List.drop (i * 12 + 1) (n9 l)) = [.int .i64 (l.getD i g5).target] := by
  rw [n9, U5 dH 12 1 z8 (by omega) g5 h, jK]; rfl
theorem LV {l : List Ins} (h : i < l.length) : List.take 1 (List.drop (i * 12 + 11) (n9 l)) = [.vec (l.getD i g5).v5.length (cK (l.getD i g5).v5)] := by
  rw [n9, U5 dH 12 11 z8 (by omega) g5 h, jK]; rfl
theorem LW {l : List Pl} (h : i < l.length) : List.take 3 (List.drop (i * 3) (cK l)) = [.bool (l.getD i aZ).param, .int .i64 (l.getD i aZ).index, .vec (l.getD i aZ).at'.length (l6 (l.getD i aZ).at')] := read_pl h
theorem app_lk {b0 b1 b2 b3 : Blk} {l : c6} {is : List Int} {x : Int} {n : Nat} (hn : is.length = n) (hl : n < 100000) : j5 cfg 3 (h ++ (b0 :: b1 :: b2 :: b3 :: o8 3 1 g (j4 is) :: ⟨0, false, 3, 1, [.int .i64 x], 0⟩ :: l)) (.own (h.length + 4) g 0 n) (.own (h.length + 5) 0 0 1) = some (.own (h.length + 4) (g + 1) 0 (n + 1), h ++ (b0 :: b1 :: b2 :: b3 :: o8 3 1 (g + 1) (j4 (is ++ [x])) :: ⟨0, false, 3, 1, [.int .i64 x], 0⟩ :: l)) := by
  subst hn
  rw [y0 (C := cfg) (K := 1) (m := 1) (new := [.int .i64 x]) (zs := j4 is) t36 rfl (by omega) (by rw [l7, Nat.mul_one]) rfl (by omega) t173 rfl (by decide) (by omega), ← nP, p9]
  rfl
attribute [local go_sem] rd o9 l9 aL bP r8 z8 eC cE m9 aG z4 l7 aN Int.natCast_nonneg Int.natCast_inj List.length_map wrap64 eH gT gU L7 zH D5 L9 wP max2 dT bS aO Nat.reduceMul lH iJ gC sU kX app_w app_w0 app_w1 Nat.sub_zero Option.bind_eq_bind take_I dropt_I nU O4 lL dB gV LU LV LW app_lk u3 aH
theorem OS (a b : List Int) (hl : a.length < 1000000) : CB 20 [.vec a.length (j4 a), .vec b.length (j4 b)] h (.bool (decide (a = b))) := by
  refine .bz Tryz.f20 26 ?_
  refine c85z ?_
  refine u2z ?_ ?_
  ·intro e1 qe1
   refine c158z ?_
   exact ⟨[], _, (List.append_nil _).symm, t44, t51⟩
  intro e1 qe1
  refine .sk ?_
  refine c5z ?_
  refine .dR (fun m st => ∃ (i : Nat), (m = a.length - i ∧ ((∀ d, d < i → a.getD d 0 = b.getD d 0) ∧ i ≤ a.length)) ∧ st = ⟨mkS 26 [(0, AV.vec a.length (j4 a)), (1, AV.vec b.length (j4 b)), (5, AV.int .i64 ((i : Nat) : Int))], h⟩) _ (.v ⟨0, ⟨rfl, ⟨t107, by omega⟩⟩, rfl⟩) ?_
  rintro m sl h' ⟨i, ⟨hm, ⟨hI, hi⟩⟩, hst⟩
  obtain ⟨rfl, rfl⟩ := St.mk.inj hst
  refine c0z ?_
  refine u2z ?_ ?_
  ·intro e2 qe2
   refine c7z ?_
   refine .ss s7 (mkP 9 [0, 0, 3, 7, 0, 0, 48, 112, 255] []) ?_
   refine c120z ?_
   refine u2z ?_ ?_
   ·intro e3 qe3
    refine c158z ?_
    exact ⟨[], _, (List.append_nil _).symm, t44, t51⟩
   intro e3 qe3
   refine c6z ?_
   refine c185z ?_
   exact ⟨_, by omega, .v ⟨(i + 1), ⟨rfl, ⟨all_nx hI (by omega), by omega⟩⟩, rfl⟩⟩
  intro e2 qe2
  refine c108z ?_
  exact ⟨[], _, (List.append_nil _).symm, t44, t51⟩
theorem OT (l : List Int) (n : Int) (hl : l.length < 1000000) : CB 84 [.vec l.length (j4 l), .int .i64 n] h (.bool (decide (n ∈ l))) := by
  refine .bz Tryz.f84 18 ?_
  refine c55z ?_
  refine .dR (fun m st => ∃ (i : Nat), (m = l.length - i ∧ ((∀ d, d < i → l.getD d 0 ≠ n) ∧ i ≤ l.length)) ∧ st = ⟨mkS 18 [(0, AV.vec l.length (j4 l)), (1, AV.int .i64 n), (5, AV.int .i64 ((i : Nat) : Int))], h⟩) _ (.v ⟨0, ⟨rfl, ⟨t107, by omega⟩⟩, rfl⟩) ?_
  rintro m sl h' ⟨i, ⟨hm, ⟨hI, hi⟩⟩, hst⟩
  obtain ⟨rfl, rfl⟩ := St.mk.inj hst
  refine c0z ?_
  refine u2z ?_ ?_
  ·intro e1 qe1
   refine c129z ?_
   refine u2z ?_ ?_
   ·intro e2 qe2
    refine c158z ?_
    exact ⟨[], _, (List.append_nil _).symm, t44, t92⟩
   intro e2 qe2
   refine c6z ?_
   refine c185z ?_
   exact ⟨_, by omega, .v ⟨(i + 1), ⟨rfl, ⟨no_nx hI (by omega), by omega⟩⟩, rfl⟩⟩
  intro e1 qe1
  refine c108z ?_
  exact ⟨[], _, (List.append_nil _).symm, t44, t92⟩
theorem c_hasY (hm : n ∈ l) (hl : l.length < 1000000) : CB 84 [.vec l.length (j4 l), .int .i64 n] h (.bool true) := by
  have := OT (h := h) l n hl
  rw [decide_eq_true hm] at this
  exact this
theorem c_hasN (hm : n ∉ l) (hl : l.length < 1000000) : CB 84 [.vec l.length (j4 l), .int .i64 n] h (.bool false) := by
  have := OT (h := h) l n hl
  rw [decide_eq_false hm] at this
  exact this
theorem c_withY (l : List Int) (n : Int) (hl : l.length < 100000) (hmem : n ∈ l) : CB 55 [.vec l.length (j4 l), .int .i64 n] h (.vec (iB l n).length (j4 (iB l n))) := by
  refine .bz Tryz.f55 36 ?_
  refine c28z ?_
  refine c36z ?_
  refine .ca rfl rfl (c_hasY hmem (by omega)) ?_
  refine .nil ?_
  refine .T ?_
  refine .z ?_
  exact .ret (.ex (hq := by (rw [iB, if_pos hmem])))
theorem c_withN (l : List Int) (n : Int) (hl : l.length < 100000) (hmem : n ∉ l) : CB 55 [.vec l.length (j4 l), .int .i64 n] h (.vec (iB l n).length (j4 (iB l n))) := by
  refine .bz Tryz.f55 36 ?_
  refine c28z ?_
  refine c36z ?_
  refine .ca rfl rfl (c_hasN hmem (by omega)) ?_
  refine .nil ?_
  refine c105z ?_
  refine .sb ?_
  refine .dR (fun m st => ∃ (i : Nat), (m = l.length - i ∧ ((∀ d, d < i → l.getD d 0 < n) ∧ i ≤ l.length)) ∧ st = ⟨mkS 36 [(0, AV.vec l.length (j4 l)), (1, AV.int .i64 n), (5, AV.int .i64 ((i : Nat) : Int))], h⟩) _ (.v ⟨0, ⟨rfl, ⟨t107, by omega⟩⟩, rfl⟩) ?_
  rintro m sl h' ⟨i, ⟨hm, ⟨hI, hi⟩⟩, hst⟩
  obtain ⟨rfl, rfl⟩ := St.mk.inj hst
  refine .seq ?_
  refine c24z ?_
  refine .spl 14 rfl rfl (fun e1 => ?_) (fun e1 => ?_)
  ·try simp only [e1]
   have qe1 := fact e1
   refine .m [(4, 14)] ?_
   refine u2z ?_ ?_
   ·intro e2 qe2
    refine c187z ?_
    refine c185z ?_
    exact ⟨_, by omega, .v ⟨(i + 1), ⟨rfl, ⟨lt_nx hI (by omega), by omega⟩⟩, rfl⟩⟩
   intro e2 qe2
   refine .exit ?_
   have hkw : i = kW l n := kW_at hi hI (by intro _; omega)
   have hdl : (l.drop i).length = l.length - i := List.length_drop
   have htl : (l.take i).length = i := by rw [List.length_take]; omega
   have hcl : (l.take i ++ [n]).length = i + 1 := by rw [List.length_append, htl]; rfl
   change c9 ..
   refine .c7 [0, 1, 5] ?_
   refine .sg s7 (mkH 13 [0, 0, 0, 6, 15, 0, 32, 127, 0, 0, 768, 2047, 4095] [0, 4, 6, 7, 11] [(0, 0), (6, 1)] [0, 1, 17, 64, 65, 81, 209, 2257] [0, 1, 2, 3, 4]) 2 ?_
   refine .em [true] [1, 0] [_] ?_
   refine .p 3 ?_
   refine .em [true, false] [17, 1, 0] [_] ?_
   refine .p 1 ?_
   refine .en [true, true, true] [81, 65, 64, 17, 1, 0] [_, _, _] ?_
   refine .en [true, false, false, false, false, false] [209, 81, 65, 64, 17, 1, 0] [_] ?_
   refine .p 3 ?_
   refine .en [true, false, false, false, false, false, false] [2257, 209, 81, 65, 64, 17, 1, 0] [_] ?_
   refine .p 1 ?_
   refine c84z ?_
   refine s4.nil rfl ?_
   refine c2z ?_
   exact ⟨_, _, rfl, zY t114 (Nat.le_refl _) t99, t139⟩
  try simp only [e1]
  have qe1 := fact e1
  refine .m [(4, 14)] ?_
  refine .F ?_
  refine .exit ?_
  have hkw : i = kW l n := kW_at hi hI (by intro _; omega)
  have hdl : (l.drop i).length = l.length - i := List.length_drop
  have htl : (l.take i).length = i := by rw [List.length_take]; omega
  have hcl : (l.take i ++ [n]).length = i + 1 := by rw [List.length_append, htl]; rfl
  change c9 ..
  refine .c7 [0, 1, 5] ?_
  refine .sg s7 (mkH 13 [0, 0, 0, 6, 15, 0, 32, 127, 0, 0, 768, 2047, 4095] [0, 4, 6, 7, 11] [(0, 0), (6, 1)] [0, 1, 17, 64, 65, 81, 209, 2257] [0, 1, 2, 3, 4]) 2 ?_
  refine .em [true] [1, 0] [_] ?_
  refine .p 3 ?_
  refine .em [true, false] [17, 1, 0] [_] ?_
  refine .p 1 ?_
  refine .en [true, true, true] [81, 65, 64, 17, 1, 0] [_, _, _] ?_
  refine .en [true, false, false, false, false, false] [209, 81, 65, 64, 17, 1, 0] [_] ?_
  refine .p 3 ?_
  refine .en [true, false, false, false, false, false, false] [2257, 209, 81, 65, 64, 17, 1, 0] [_] ?_
  refine .p 1 ?_
  refine c84z ?_
  refine s4.nil rfl ?_
  refine c2z ?_
  exact ⟨_, _, rfl, zY t114 (Nat.le_refl _) t99, t139⟩
theorem DZ (l : List Int) (n : Int) (hl : l.length < 100000) : CB 55 [.vec l.length (j4 l), .int .i64 n] h (.vec (iB l n).length (j4 (iB l n))) := by
  by_cases hm : n ∈ l
  · exact c_withY l n hl hm
  · exact c_withN l n hl hm
theorem EA (it : s8) (p : Pl) (hp : p.param = true → 0 ≤ p.index ∧ p.index.toNat < it.j0.length) : CB 83 [.agg [.int .i64 it.proc, .vec it.j0.length (j4 it.j0)], .agg [.bool p.param, .int .i64 p.index, .vec p.at'.length (l6 p.at')]] h (.int .i64 (uJ it p)) := by
  refine .bz Tryz.f83 15 ?_
  refine c85z ?_
  refine u2z ?_ ?_
  ·intro e1 qe1
   have hpp := hp (by assumption)
   refine .z ?_
   exact .ret (.ex (hq := by (unfold uJ; simp_all)))
  intro e1 qe1
  refine .sk ?_
  refine .z ?_
  exact .ret (.ex (hq := by (unfold uJ; simp_all)))
theorem v7 (hu : WU u) (w : WIt u it) : (c8 u it).length ≤ 1664 := by
  have := (sI hu (l := [it]) (by simp) (by simpa using w)).2
  simpa using this
variable {pc : Nat}
theorem EB (hu : WU u) (w : WIt u it) (hpc : pc < (c8 u it).length) (hc : gD ((c8 u it).getD pc g5)) : ∀ p ∈ ((c8 u it).getD pc g5).v5, p.param = true → 0 ≤ p.index ∧ p.index.toNat < it.j0.length := by
  obtain ⟨_, _, _, hh⟩ := (mF hu w).2.2 pc hpc
  intro p hp hpar
  obtain ⟨h0, ⟨_, h2⟩ | ⟨h1, _⟩⟩ := (hh hc).2.2 p hp
  · refine ⟨h0, ?_⟩
    rw [w.len]
    simp only at h2
    omega
  · rw [hpar] at h1; cases h1
theorem U9 (hu : WU u) (w : WIt u it) (hpc : pc < (c8 u it).length) (hc : gD ((c8 u it).getD pc g5)) : ((c8 u it).getD pc g5).v5.length ≤ 2 := by
  have h1 := uK hu w hpc hc
  have h2 := h1.len
  have h3 := hu.j0 (cQ u it pc).proc.toNat (by have := h1.lo; have := h1.hi; omega)
  simp only [cQ, List.length_map] at h2 h3
  omega
theorem EC (hu : WU u) (w : WIt u it) (hpc : pc < (c8 u it).length) (hc : ¬ gD ((c8 u it).getD pc g5)) : CB 53 [.agg [.vec u.globals.length (j4 u.globals), .vec u.c4.length (g9 u.c4), .vec u.procs.length (m7 u.procs), .int .i64 u.main], .agg [.int .i64 it.proc, .vec it.j0.length (j4 it.j0)], .int .i64 ((pc : Nat) : Int)] h (.tup [.agg [.int .i64 0, .vec 0 []], .bool false]) := by
  refine .bz Tryz.f53 75 ?_
  have w1 := w.lo
  have w2 := w.hi
  have hsz : (c8 u it).length ≤ 1664 := v7 hu w
  refine c198z ?_
  refine .c7 [2, 4, 6, 8] ?_
  refine c19z ?_
  refine .spl 20 rfl rfl (fun e1 => by exfalso; have q := fact e1; omega) (fun e1 => ?_)
  try simp only [e1]
  have qe1 := fact e1
  refine .k 6 [(2, 20)] ?_
  refine .spl 26 rfl rfl (fun e2 => by exfalso; have q := fact e2; omega) (fun e2 => ?_)
  try simp only [e2]
  have qe2 := fact e2
  refine .k 7 [(8, 26)] ?_
  refine .spl 33 rfl rfl (fun e3 => ?_) (fun e3 => by exfalso; have q := fact e3; exact hc (.inl (by omega)))
  try simp only [e3]
  have qe3 := fact e3
  refine .m [(8, 26), (15, 33)] ?_
  refine .spl 41 rfl rfl (fun e4 => ?_) (fun e4 => by exfalso; have q := fact e4; exact hc (.inr (by omega)))
  try simp only [e4]
  have qe4 := fact e4
  refine .T ?_
  refine .c7 [6] ?_
  refine .z ?_
  exact .ret (.ex (hq := by rfl))
theorem ED (hu : WU u) (w : WIt u it) (hpc : pc < (c8 u it).length) (hc : gD ((c8 u it).getD pc g5)) : CB 53 [.agg [.vec u.globals.length (j4 u.globals), .vec u.c4.length (g9 u.c4), .vec u.procs.length (m7 u.procs), .int .i64 u.main], .agg [.int .i64 it.proc, .vec it.j0.length (j4 it.j0)], .int .i64 ((pc : Nat) : Int)] h (.tup [.agg [.int .i64 (cQ u it pc).proc, .vec (cQ u it pc).j0.length (j4 (cQ u it pc).j0)], .bool true]) := by
  refine .bz Tryz.f53 75 ?_
  have w1 := w.lo
  have w2 := w.hi
  have hsz : (c8 u it).length ≤ 1664 := v7 hu w
  have hpl := EB hu w hpc hc
  have hpn := U9 hu w hpc hc
  refine c198z ?_
  refine .c7 [2, 4, 6, 8] ?_
  refine c19z ?_
  refine .spl 20 rfl rfl (fun e1 => by exfalso; have q := fact e1; omega) (fun e1 => ?_)
  try simp only [e1]
  have qe1 := fact e1
  refine .k 6 [(2, 20)] ?_
  refine .spl 26 rfl rfl (fun e2 => by exfalso; have q := fact e2; omega) (fun e2 => ?_)
  try simp only [e2]
  have qe2 := fact e2
  refine .k 7 [(8, 26)] ?_
  refine .spl 33 rfl rfl (fun e3 => ?_) (fun e3 => ?_)
  ·try simp only [e3]
   have qe3 := fact e3
   refine .m [(8, 26), (15, 33)] ?_
   refine .spl 41 rfl rfl (fun e4 => by exfalso; have q := fact e4; rcases hc with hc | hc <;> omega) (fun e4 => ?_)
   try simp only [e4]
   have qe4 := fact e4
   refine c16z ?_
   refine .c7 [2, 4, 6, 8] ?_
   refine c55z ?_
   refine c9.lR (β := h.length + 3) (k := 1) t36 rfl ?_
   simp only [List.append_assoc, List.cons_append, List.nil_append, p5, p9, List.set_cons_succ, List.set_cons_zero, List.length_append, List.length_cons, List.length_nil, Nat.reduceAdd, Nat.zero_add]
   refine .aW (fun m st => ∃ (q : Nat), (m = ((c8 u it).getD pc g5).v5.length - q ∧ q ≤ ((c8 u it).getD pc g5).v5.length) ∧ st = ⟨mkS 75 [(2, AV.int .i64 ((pc : Nat) : Int)), (4, AV.ptr (h.length + 1) 0 0), (6, AV.ptr (h.length + 2) 0 0), (8, AV.vec (c8 u it).length (n9 (c8 u it))), (9, AV.ptr (h.length + 3) 0 0), (10, AV.int .i64 ((q : Nat) : Int))], h ++ [⟨0, false, 30, 4, [.vec u.globals.length (j4 u.globals), .vec u.c4.length (g9 u.c4), .vec u.procs.length (m7 u.procs), .int .i64 u.main], 0⟩, ⟨0, false, 69, 2, [.int .i64 it.proc, .vec it.j0.length (j4 it.j0)], 0⟩, ⟨0, false, 69, 2, [.int .i64 0, .j6], 0⟩, ⟨0, false, 69, 2, [.int .i64 ((c8 u it).getD pc g5).target, .own (h.length + 4) q 0 q], 0⟩, o8 3 1 q (j4 ((((c8 u it).getD pc g5).v5.take q).map (uJ it)))]⟩) (.v ⟨0, ⟨rfl, by omega⟩, rfl⟩) ?_
   rintro m sl h' ⟨q, ⟨hm, hq⟩, hst⟩
   obtain ⟨rfl, rfl⟩ := St.mk.inj hst; clear hst
   have htl : ((((c8 u it).getD pc g5).v5.take q).map (uJ it)).length = q := by rw [List.length_map, List.length_take]; omega
   refine c0z ?_
   refine u2z ?_ ?_
   ·intro e5 qe5
    refine c7z ?_
    refine .c7 [2, 4, 6, 8, 9, 10] ?_
    refine .og s7 (mkH 16 [0, 1, 0, 0, 0, 24, 56, 120, 0, 504, 1016, 2044, 4092, 8191, 16383, 32767] [12, 13, 15] [] [0, 4096, 12288, 45056] [0, 1]) 0 ?_
    refine c30z ?_
    refine .rn [true] ?_
    refine c150z ?_
    refine c62z ?_
    refine .cl rfl rfl (fun _ => EA it (((c8 u it).getD pc g5).v5.getD q aZ) (hpl _ (j9 (d := aZ) (i := q) (by omega)))) ?_
    refine .en [true] [4096, 0] [_] ?_
    refine .en [true, false] [12288, 4096, 0] [_] ?_
    refine .p 1 ?_
    refine .en [true, false, false] [45056, 12288, 4096, 0] [_] ?_
    refine c132z ?_
    refine .c7 [2, 4, 6, 8, 9, 10, 69] ?_
    refine .rz ?_
    exact ⟨_, by omega, .v ⟨(q + 1), ⟨rfl, by omega⟩, rfl⟩ (he := t116) (hk := t101)⟩
   intro e5 qe5
   refine .exit ?_
   obtain rfl : q = ((c8 u it).getD pc g5).v5.length := by omega
   rw [List.take_length] at htl ⊢
   refine c9.nE (γ := h.length + 4) (β := h.length + 3) (k := 1) (len := ((c8 u it).getD pc g5).v5.length) t36 (by rw [l7, htl, Nat.mul_one]) (by omega) (tZ _) t36 (by omega) rfl ?_
   refine c15z ?_
   refine .c7 [6, 9] ?_
   refine .z ?_
   exact .ret (.ex (hq := by (simp only [cQ, List.length_map])))
  try simp only [e3]
  have qe3 := fact e3
  refine .m [(8, 26), (15, 33)] ?_
  refine c16z ?_
  refine .c7 [2, 4, 6, 8] ?_
  refine c55z ?_
  refine c9.lR (β := h.length + 3) (k := 1) t36 rfl ?_
  simp only [List.append_assoc, List.cons_append, List.nil_append, p5, p9, List.set_cons_succ, List.set_cons_zero, List.length_append, List.length_cons, List.length_nil, Nat.reduceAdd, Nat.zero_add]
  refine .aW (fun m st => ∃ (q : Nat), (m = ((c8 u it).getD pc g5).v5.length - q ∧ q ≤ ((c8 u it).getD pc g5).v5.length) ∧ st = ⟨mkS 75 [(2, AV.int .i64 ((pc : Nat) : Int)), (4, AV.ptr (h.length + 1) 0 0), (6, AV.ptr (h.length + 2) 0 0), (8, AV.vec (c8 u it).length (n9 (c8 u it))), (9, AV.ptr (h.length + 3) 0 0), (10, AV.int .i64 ((q : Nat) : Int))], h ++ [⟨0, false, 30, 4, [.vec u.globals.length (j4 u.globals), .vec u.c4.length (g9 u.c4), .vec u.procs.length (m7 u.procs), .int .i64 u.main], 0⟩, ⟨0, false, 69, 2, [.int .i64 it.proc, .vec it.j0.length (j4 it.j0)], 0⟩, ⟨0, false, 69, 2, [.int .i64 0, .j6], 0⟩, ⟨0, false, 69, 2, [.int .i64 ((c8 u it).getD pc g5).target, .own (h.length + 4) q 0 q], 0⟩, o8 3 1 q (j4 ((((c8 u it).getD pc g5).v5.take q).map (uJ it)))]⟩) (.v ⟨0, ⟨rfl, by omega⟩, rfl⟩) ?_
  rintro m sl h' ⟨q, ⟨hm, hq⟩, hst⟩
  obtain ⟨rfl, rfl⟩ := St.mk.inj hst; clear hst
  have htl : ((((c8 u it).getD pc g5).v5.take q).map (uJ it)).length = q := by rw [List.length_map, List.length_take]; omega
  refine c0z ?_
  refine u2z ?_ ?_
  ·intro e6 qe6
   refine c7z ?_
   refine .c7 [2, 4, 6, 8, 9, 10] ?_
   refine .og s7 (mkH 16 [0, 1, 0, 0, 0, 24, 56, 120, 0, 504, 1016, 2044, 4092, 8191, 16383, 32767] [12, 13, 15] [] [0, 4096, 12288, 45056] [0, 1]) 0 ?_
   refine c30z ?_
   refine .rn [true] ?_
   refine c150z ?_
   refine c62z ?_
   refine .cl rfl rfl (fun _ => EA it (((c8 u it).getD pc g5).v5.getD q aZ) (hpl _ (j9 (d := aZ) (i := q) (by omega)))) ?_
   refine .en [true] [4096, 0] [_] ?_
   refine .en [true, false] [12288, 4096, 0] [_] ?_
   refine .p 1 ?_
   refine .en [true, false, false] [45056, 12288, 4096, 0] [_] ?_
   refine c132z ?_
   refine .c7 [2, 4, 6, 8, 9, 10, 69] ?_
   refine .rz ?_
   exact ⟨_, by omega, .v ⟨(q + 1), ⟨rfl, by omega⟩, rfl⟩ (he := t116) (hk := t101)⟩
  intro e6 qe6
  refine .exit ?_
  obtain rfl : q = ((c8 u it).getD pc g5).v5.length := by omega
  rw [List.take_length] at htl ⊢
  refine c9.nE (γ := h.length + 4) (β := h.length + 3) (k := 1) (len := ((c8 u it).getD pc g5).v5.length) t36 (by rw [l7, htl, Nat.mul_one]) (by omega) (tZ _) t36 (by omega) rfl ?_
  refine c15z ?_
  refine .c7 [6, 9] ?_
  refine .z ?_
  exact .ret (.ex (hq := by (simp only [cQ, List.length_map])))
theorem c_findI (l : List s8) (x : s8) {n2 n3 : Nat} {z2 z3 : List AV} (hl : l.length < 1000000) (hk : ∀ y ∈ l, y.j0.length < 1000000) : CB 54 [.agg [.vec l.length (q9 l), .vec n2 z2, .vec n3 z3], .agg [.int .i64 x.proc, .vec x.j0.length (j4 x.j0)]] h (.int .i64 (fI l x)) := by
  refine .bz Tryz.f54 34 ?_
  refine c55z ?_
  refine .dR (fun m st => ∃ (i : Nat), (m = l.length - i ∧ ((∀ d, d < i → l.getD d l3 ≠ x) ∧ i ≤ l.length)) ∧ st = ⟨mkS 34 [(2, AV.ptr h.length 0 0), (3, AV.ptr (h.length + 1) 0 0), (5, AV.int .i64 ((i : Nat) : Int))], h ++ [⟨0, false, 34, 3, [.vec l.length (q9 l), .vec n2 z2, .vec n3 z3], 0⟩, ⟨0, false, 69, 2, [.int .i64 x.proc, .vec x.j0.length (j4 x.j0)], 0⟩]⟩) _ (.v ⟨0, ⟨rfl, ⟨t107, by omega⟩⟩, rfl⟩) ?_
  rintro m sl h' ⟨i, ⟨hm, ⟨hI, hi⟩⟩, hst⟩
  obtain ⟨rfl, rfl⟩ := St.mk.inj hst
  refine c0z ?_
  refine u2z ?_ ?_
  ·intro e1 qe1
   refine c7z ?_
   refine .ss s7 (mkP 20 [0, 1, 0, 7, 15, 31, 0, 64, 255, 511, 1023, 2047, 1023, 8191, 16383, 32767, 1023, 66559, 262143, 524287] []) ?_
   refine .k 8 [] ?_
   refine .k 2 [] ?_
   refine .spl 22 rfl rfl (fun e2 => ?_) (fun e2 => ?_)
   ·try simp only [e2]
    have qe2 := fact e2
    refine .k 8 [(9, 22)] ?_
    refine .ca rfl rfl (OS _ _ (hk _ (j9 (by omega)))) ?_
    refine .n [] ?_
    refine u2z ?_ ?_
    ·intro e3 qe3
     refine .c7 [5] ?_
     refine .z ?_
     exact .ret (.ex (hq := t100))
    intro e3 qe3
    refine c6z ?_
    refine .c7 [2, 3, 5] ?_
    refine .rz ?_
    exact ⟨_, by omega, .v ⟨(i + 1), ⟨rfl, ⟨it_ne hI t181, by omega⟩⟩, rfl⟩⟩
   try simp only [e2]
   have qe2 := fact e2
   refine .k 8 [(9, 22)] ?_
   refine .n [(9, 22)] ?_
   refine c44z ?_
   refine .c7 [2, 3, 5] ?_
   refine .rz ?_
   exact ⟨_, by omega, .v ⟨(i + 1), ⟨rfl, ⟨it_ne hI t181, by omega⟩⟩, rfl⟩⟩
  intro e1 qe1
  refine c9z ?_
  refine c20z ?_
  exact .ret (.ex (hq := t100))
end Go.Proofs.YtfbjlfhjkojmkaaGreat
end
section
namespace Go.Proofs.YtfbjlfhjkojmkaaGreat
open Go.Ab Go.Un
theorem l8.cx {P : Program} {C : Cfg} {h : c6} {ops : Array Oper} {o : Oper} {rest : List Oper} {Q : St → Prop} {n d : Nat} {l : List (Nat × AV)} {c : Call} {f : FuncId} {args : List AV} {K : AV → c6 → Prop} (ho : o.op = .call c) (ht : s3 C (S1 C n l) c = some (f, args)) (hb : n8 C f = true)
    (hc : CallA P C f args h K) (hk : ∀ y h', K y h' → l8 P C ops rest ⟨mkS n ((d, y) :: l), h'⟩ Q) (hw : wE ops n l o = some true := by rfl) (hd : o.dst = some d := by rfl) : l8 P C ops (o :: rest) ⟨mkS n l, h⟩ Q :=
  l8.call (qJ ▸ hw) ho (oN ▸ ht) hb (hc.mono fun y h' hq => by rw [hd]; show l8 P C ops rest ⟨(mkS n l).set d y, h'⟩ Q; rw [cI]; exact hk y h' hq)
def nV (u : Un) (L : List s8) (it : s8) (cs : List Int) (n : Nat) : Prop := ∀ j, j < n →
  (gD ((c8 u it).getD j g5) → 0 ≤ cs.getD j 0 ∧ cs.getD j 0 < L.length ∧ L.getD (cs.getD j 0).toNat l3 = cQ u it j) ∧ (¬ gD ((c8 u it).getD j g5) → cs.getD j 0 = -1)
structure LI (u : Un) (L : List s8) : Prop where
  w : ∀ it ∈ L, WIt u it
  nd : L.Nodup
  z : 0 < L.length ∧ L.getD 0 l3 = ⟨0, []⟩
structure RI (L : List s8) (R : List Int) : Prop where
  p : 1 ≤ R.length
  r : ∀ x ∈ R, 0 ≤ x ∧ x < L.length
  s : R.Pairwise (· < ·)
def PI (u : Un) (L : List s8) (CS : List (List Int)) (i : Nat) : Prop := ∀ j, j < i → (CS.getD j []).length = (c8 u (L.getD j l3)).length ∧ nV u L (L.getD j l3) (CS.getD j []) (c8 u (L.getD j l3)).length
def iL (u : Un) (L : List s8) (i : Nat) : Nat := ((L.take i).map fun it => (c8 u it).length).sum
variable {i : Nat}
theorem lM {α : Type} {l m : List α} {d : α} (h : i < l.length) : (l ++ m).getD i d = l.getD i d := by
  simp [List.getD, List.getElem?_append_left h]
variable {u : Un} {L M : List s8} {it : s8} {n : Nat}
theorem nV.app {cs : List Int} (h : nV u L it cs n) : nV u (L ++ M) it cs n := fun j hj => by
  obtain ⟨h1, h2⟩ := h j hj
  refine ⟨fun hc => ?_, h2⟩
  obtain ⟨q1, q2, q3⟩ := h1 hc
  exact ⟨q1, by rw [List.length_append]; omega, by rw [lM (by omega), q3]⟩
theorem nV.set {cs : List Int} {x : Int} (h : nV u L it cs n) (hn : n < cs.length) (hx : (gD ((c8 u it).getD n g5) → 0 ≤ x ∧ x < L.length ∧ L.getD x.toNat l3 = cQ u it n) ∧ (¬ gD ((c8 u it).getD n g5) → x = -1)) : nV u L it (cs.set n x) (n + 1) := fun j hj => by
  by_cases hjn : j = n
  · subst hjn
    have : (cs.set j x).getD j 0 = x := by simp [List.getD, hn]
    rw [this]; exact hx
  · have : (cs.set n x).getD j 0 = cs.getD j 0 := by simp [List.getD, List.getElem?_set_ne (Ne.symm hjn)]
    rw [this]; exact h j (by omega)
variable {x : s8}
theorem LI.snoc (h : LI u L) (hx : WIt u x) (hn : x ∉ L) : LI u (L ++ [x]) := by
  refine ⟨fun it hit => ?_, ?_, by simp, ?_⟩
  · rcases List.mem_append.1 hit with hit | hit
    · exact h.w it hit
    · replace hit := s6z hit
      subst hit; exact hx
  · rw [List.nodup_append]
    exact ⟨h.nd, by simp, fun a ha b hb => by replace hb := s6z hb; subst hb; exact fun e => hn (e ▸ ha)⟩
  · rw [lM h.z.1]; exact h.z.2
theorem LI.few (hu : WU u) (h : LI u L) : L.length ≤ 64 := (sI hu h.nd h.w).1
theorem LI.sites (hu : WU u) (h : LI u L) (i : Nat) : iL u L i ≤ 1664 := by
  have h1 := (sI hu (l := L.take i) (h.nd.sublist (List.take_sublist _ _)) (fun it hit => h.w it (List.mem_of_mem_take hit))).2
  exact h1
theorem LI.j0 (hu : WU u) (h : LI u L) : ∀ y ∈ L, y.j0.length ≤ 2 := fun y hy => by
  have w := h.w y hy
  have h1 := w.len
  have h3 := hu.j0 y.proc.toNat (by have := w.lo; have := w.hi; omega)
  omega
variable {R : List Int}
theorem RI.app (h : RI L R) : RI (L ++ M) R := ⟨h.p, fun x hx => by have := h.r x hx; rw [List.length_append]; omega, h.s⟩
variable {l : List Int}
theorem EE {n x : Int} : x ∈ iB l n ↔ x ∈ l ∨ x = n := by
  unfold iB
  split
  · rename_i h
    constructor
    · exact .inl
    · rintro (h1 | rfl)
      · exact h1
      · exact h
  · rw [List.mem_append, List.mem_cons]
    constructor
    · rintro (h | h | h)
      · exact .inl (List.mem_of_mem_take h)
      · exact .inr h
      · exact .inl (List.mem_of_mem_drop h)
    · rintro (h | h)
      · rw [← List.take_append_drop (kW l n) l, List.mem_append] at h
        rcases h with h | h
        · exact .inl h
        · exact .inr (.inr h)
      · exact .inr (.inl h)
theorem take_kW {n : Int} : l.take (kW l n) = l.takeWhile fun x => decide (x < n) := by
  conv => lhs; rw [← List.takeWhile_append_dropWhile (p := fun x => decide (x < n)) (l := l)]
  rw [List.take_append_of_le_length (by simp [kW])]
  exact List.take_of_length_le (by simp [kW])
theorem drop_kW {n : Int} : l.drop (kW l n) = l.dropWhile fun x => decide (x < n) := by
  conv => lhs; rw [← List.takeWhile_append_dropWhile (p := fun x => decide (x < n)) (l := l)]
  rw [List.drop_append_of_le_length (by simp [kW])]
  rw [List.drop_of_length_le (by simp [kW]), List.nil_append]
theorem pP : ∀ {l : List Int} {n : Int}, l.Pairwise (· < ·) → n ∉ l → (l.takeWhile (fun x => decide (x < n)) ++ n :: l.dropWhile (fun x => decide (x < n))).Pairwise (· < ·)
  | [], n, _, _ => by simp
  | x :: l, n, h, hn => by
    rw [List.pairwise_cons] at h
    by_cases hx : x < n
    · have ih := pP (l := l) (n := n) h.2 (fun hm => hn (List.mem_cons_of_mem _ hm))
      rw [List.takeWhile_cons_of_pos t178, List.dropWhile_cons_of_pos t178, List.cons_append, List.pairwise_cons]
      refine ⟨fun y hy => ?_, ih⟩
      rcases List.mem_append.1 hy with hy | hy
      · exact h.1 y ((List.takeWhile_sublist _).subset hy)
      · rcases List.mem_cons.1 hy with rfl | hy
        · exact hx
        · exact h.1 y ((List.dropWhile_sublist _).subset hy)
    · have hne : n ≠ x := fun e => hn (by rw [e]; simp)
      rw [List.takeWhile_cons_of_neg t178, List.dropWhile_cons_of_neg t178, List.nil_append, List.pairwise_cons]
      refine ⟨fun y hy => ?_, List.pairwise_cons.2 h⟩
      rcases List.mem_cons.1 hy with rfl | hy
      · omega
      · have := h.1 y hy; omega
theorem RI.with (h : RI L R) {n : Int} (hn : 0 ≤ n ∧ n < L.length) : RI L (iB R n) := by
  refine ⟨?_, fun x hx => ?_, ?_⟩
  · unfold iB
    split
    · exact h.p
    · simp only [List.length_append, List.length_cons]; omega
  · rcases EE.1 hx with hx | rfl
    · exact h.r x hx
    · exact hn
  · unfold iB
    split
    · exact h.s
    · rename_i hm
      rw [take_kW, drop_kW]
      exact pP h.s hm
theorem uT : ∀ {R : List Int} {a b : Int}, R.Pairwise (· < ·) → (∀ x ∈ R, a ≤ x ∧ x < b) → R.length ≤ (b - a).toNat
  | [], a, b, _, _ => by simp
  | x :: R, a, b, h, hr => by
    rw [List.pairwise_cons] at h
    have h0 := hr x (by simp)
    have ih := uT (R := R) (a := x + 1) (b := b) h.2 (fun y hy => ⟨by have := h.1 y hy; omega, (hr y (by simp [hy])).2⟩)
    simp only [List.length_cons]
    omega
theorem RI.len (hu : WU u) (hl : LI u L) (h : RI L R) : R.length ≤ 64 := by
  have h1 := uT h.s (a := 0) (b := (L.length : Int)) h.r
  have h2 := hl.few hu
  omega
theorem V0 (h : i < L.length) : iL u L (i + 1) = iL u L i + (c8 u (L.getD i l3)).length := by
  unfold iL
  rw [taken (d := l3) h]
  simp
variable {CS : List (List Int)}
theorem PI.step {v : List Int} (h : PI u L CS i) (hc : CS.length = i) (hi : i < L.length) (hv : v.length = (c8 u (L.getD i l3)).length) (hok : nV u (L ++ M) (L.getD i l3) v (c8 u (L.getD i l3)).length) : PI u (L ++ M) (CS ++ [v]) (i + 1) := fun j hj => by
  by_cases hji : j = i
  · subst hji
    have e1 : (CS ++ [v]).getD j [] = v := by subst hc; simp [List.getD]
    rw [e1, lM hi]
    exact ⟨hv, hok⟩
  · have e1 : (CS ++ [v]).getD j [] = CS.getD j [] := lM (by omega)
    obtain ⟨h1, h2⟩ := h j (by omega)
    rw [e1, lM (by omega)]
    exact ⟨h1, h2.app⟩
theorem F3 {l : List (List Int)} {x : List Int} : w4 (l ++ [x]) = w4 l ++ [.vec x.length (j4 x)] := by simp [w4]
theorem F4 {l : List s8} : q9 (l ++ [x]) = q9 l ++ [.int .i64 x.proc, .vec x.j0.length (j4 x.j0)] := by simp [q9, S6]
theorem LY (l : List (List Int)) : z7 (w4 l) := z7.map fun _ => .vec
theorem LZ (l : List s8) : z7 (q9 l) := z7.flat fun _ => z7.cons .int (z7.cons .vec .nil)
variable {h : c6} {g : Nat}
theorem app_its {b0 b1 b3 b4 b5 b6 b7 : Blk} {l : c6} (hz : L.length = n) (hn : n < 1000) : j5 cfg 69 (h ++ (b0 :: b1 :: ⟨g, false, 69, 2, q9 L, 0⟩ :: b3 :: b4 :: b5 :: b6 :: b7 :: ⟨0, false, 69, 2, [.int .i64 x.proc, .vec x.j0.length (j4 x.j0)], 0⟩ :: l)) (.own (h.length + 2) g 0 n) (.own (h.length + 8) 0 0 1) = some (.own (h.length + 2) (g + 1) 0 (n + 1), h ++ (b0 :: b1 :: ⟨g + 1, false, 69, 2, q9 (L ++ [x]), 0⟩ :: b3 :: b4 :: b5 :: b6 :: b7 :: ⟨0, false, 69, 2, [.int .i64 x.proc, .vec x.j0.length (j4 x.j0)], 0⟩ :: l)) := by
  subst hz
  have e1 : cfg.sz 69 = 2 := rfl
  have e2 : (cfg.ti 69).bytes = 32 := rfl
  have hm : L.length + 1 ≤ maxLen := by
    have : (1001 : Nat) ≤ maxLen := by decide
    omega
  have hb : (L.length + 1) * 32 ≤ 140737488355328 := by omega
  have h1 : (q9 L).length = L.length * 2 := by rw [u3]; omega
  have ht : List.take (L.length * 2) (q9 L) = q9 L := List.take_of_length_le (by omega)
  have hnl : ¬ (L.length + 1) * 2 ≤ L.length * 2 := by omega
  simp [j5, rd, lenOf, e1, e2, h1, hm, hb, ht, hnl, p5, p9, F4]
theorem app_cs {b0 b1 b2 b3 b4 b6 : Blk} {l : c6} {x : List Int} {m : Nat} (hn : CS.length = n) (hx : x.length = m) (hl : n < 100000) : j5 cfg 22 (h ++ (b0 :: b1 :: b2 :: b3 :: b4 :: o8 22 1 g (w4 CS) :: b6 :: ⟨0, false, 22, 1, [.vec m (j4 x)], 0⟩ :: l)) (.own (h.length + 5) g 0 n) (.own (h.length + 7) 0 0 1) = some (.own (h.length + 5) (g + 1) 0 (n + 1), h ++ (b0 :: b1 :: b2 :: b3 :: b4 :: o8 22 1 (g + 1) (w4 (CS ++ [x])) :: b6 :: ⟨0, false, 22, 1, [.vec m (j4 x)], 0⟩ :: l)) := by
  subst hn hx
  rw [y0 (C := cfg) (K := 1) (m := 1) (new := [.vec x.length (j4 x)]) (zs := w4 CS) t36 rfl (by omega) (by simp [w4]) rfl (by omega) t173 rfl (by decide) (by omega), ← F3, p9]
  rfl
theorem EF : ∀ {v : List Int} {i : Nat} {x : Int}, i < v.length → List.take i (j4 v) ++ AV.int .i64 x :: List.drop (i + 1) (j4 v) = j4 (v.set i x)
  | y :: v, 0, x, _ => rfl
  | y :: v, i + 1, x, h => by
    have ih := EF (v := v) (i := i) (x := x) (by simpa using h)
    simp only [j4, List.map_cons, List.set_cons_succ, List.take_succ_cons, List.drop_succ_cons, List.cons_append] at ih ⊢
    rw [ih]
theorem zeros_I : (List.replicate n [AV.int .i64 0]).flatten = j4 (List.replicate n 0) := by
  induction n with
  | zero => rfl
  | succ n ih => rw [List.replicate_succ, List.flatten_cons, ih]; simp [j4, List.replicate_succ]
theorem frz_its {d : Nat} {H : c6} {l : List s8} : o2 (jT n H (d + 1)) (q9 l) = some (q9 l) := (LZ l).frz _ _ _
theorem F5 {H : c6} {β γ n1 n2 n3 : Nat} {z3 : List AV} (hb : H[β]? = some ⟨g, false, 69, 2, q9 L, 0⟩) (hc : H[γ]? = some (o8 22 1 i (w4 CS))) (h1 : L.length = n1) (h2 : CS.length = n2) (hl : L.length < 1000000) (hk : ∀ y ∈ L, y.j0.length < 1000000) : CB 54 [.agg [.own β g 0 n1, .own γ i 0 n2, .vec n3 z3], .agg [.int .i64 x.proc, .vec x.j0.length (j4 x.j0)]] H (.int .i64 (fI L x)) := by
  subst h1 h2
  have e1 : jT 0 H 6 (.own β g 0 L.length) = some (.vec L.length (q9 L)) := by
    rw [fO, hb]
    simp only [Nat.zero_le, and_self, if_true, Bool.false_eq_true, if_false, Nat.zero_add]
    rw [if_pos (by rw [u3]; omega), List.drop_zero, List.take_of_length_le (by rw [u3]; omega), frz_its]
  have e2 : jT 0 H 6 (.own γ i 0 CS.length) = some (.vec CS.length (w4 CS)) := iH hc (Nat.zero_le _) (by simp [w4]) (by omega) ((LY CS).frz _ _ _)
  have e : NL 0 H (.agg [.own β g 0 L.length, .own γ i 0 CS.length, .vec n3 z3]) = some (.agg [.vec L.length (q9 L), .vec CS.length (w4 CS), .vec n3 z3]) := by
    simp only [NL, o2, e1, e2, lF, Option.map_some]
  have ha : IA 0 H [.agg [.vec L.length (q9 L), .vec CS.length (w4 CS), .vec n3 z3], .agg [.int .i64 x.proc, .vec x.j0.length (j4 x.j0)]] [.agg [.own β g 0 L.length, .own γ i 0 CS.length, .vec n3 z3], .agg [.int .i64 x.proc, .vec x.j0.length (j4 x.j0)]] := And.intro (.inr e) (And.intro (.inr rfl) trivial)
  exact CallA.borrow ha ((c_findI L x hl hk).mono fun _ _ h => h.1)
theorem dM {l : List (List Int)} : (w4 l).length = l.length := by simp [w4]
variable {pc : Nat}
theorem V1 (hu : WU u) (w : WIt u it) (hpc : pc < (c8 u it).length) (hc : gD ((c8 u it).getD pc g5)) {y : s8} (hy : cQ u it pc = y) : CB 53 [.agg [.vec u.globals.length (j4 u.globals), .vec u.c4.length (g9 u.c4), .vec u.procs.length (m7 u.procs), .int .i64 u.main], .agg [.int .i64 it.proc, .vec it.j0.length (j4 it.j0)], .int .i64 ((pc : Nat) : Int)] h (.tup [.agg [.int .i64 y.proc, .vec y.j0.length (j4 y.j0)], .bool true]) := by
  subst hy; exact ED hu w hpc hc
theorem V2 (hu : WU u) (w : WIt u (L.getD i l3)) (hi : L.getD i l3 = it) (hpc : pc < (c8 u it).length) (hc : gD ((c8 u it).getD pc g5)) {y : s8} (hy : cQ u it pc = y) : CB 53 [.agg [.vec u.globals.length (j4 u.globals), .vec u.c4.length (g9 u.c4), .vec u.procs.length (m7 u.procs), .int .i64 u.main], .agg [.int .i64 (L.getD i l3).proc, .vec (L.getD i l3).j0.length (j4 (L.getD i l3).j0)], .int .i64 ((pc : Nat) : Int)] h (.tup [.agg [.int .i64 y.proc, .vec y.j0.length (j4 y.j0)], .bool true]) := by
  subst hi; exact V1 hu w hpc hc hy
theorem V3 (hu : WU u) (w : WIt u (L.getD i l3)) (hi : L.getD i l3 = it) (hpc : pc < (c8 u it).length) (hc : ¬ gD ((c8 u it).getD pc g5)) : CB 53 [.agg [.vec u.globals.length (j4 u.globals), .vec u.c4.length (g9 u.c4), .vec u.procs.length (m7 u.procs), .int .i64 u.main], .agg [.int .i64 (L.getD i l3).proc, .vec (L.getD i l3).j0.length (j4 (L.getD i l3).j0)], .int .i64 ((pc : Nat) : Int)] h (.tup [.agg [.int .i64 0, .vec 0 []], .bool false]) := by
  subst hi; exact EC hu w hpc hc
theorem mx2000 : (2000 : Nat) ≤ maxLen := by decide
theorem xJ {v : List Int} {i : Nat} {x : Int} (h : i < v.length) : (v.set i x).getD i 0 = x := by simp [List.getD, h]
theorem MA {v : List Int} {x : Int} (h : i < v.length) : List.take 1 (List.drop i (j4 (v.set i x))) = [.int .i64 x] := by rw [kX (by rw [List.length_set]; exact h), xJ h]
theorem EG (h : i ≤ L.length) : iL u (L ++ M) i = iL u L i := by
  unfold iL
  rw [List.take_append_of_le_length h]
theorem wit0 (hu : WU u) : WIt u ⟨0, []⟩ := by
  have := hu.pl
  refine ⟨Int.le_refl _, by show (0 : Int) < u.procs.length; omega, ?_, fun x hx => by simp at hx⟩
  show 0 = (u.procs.getD 0 nG).j0.toNat
  rw [hu.zero]; rfl
theorem wc_of (hu : WU u) (hL : LI u L) (hR : RI L R) (hc : CS.length = L.length) (hP : PI u L CS L.length) : WC u ⟨L, CS, R⟩ :=
  ⟨⟨hL.z.1, hL.few hu⟩, hL.z.2, hL.w, hL.nd, hc, fun i hi => (hP i hi).1, fun i hi pc hpc => (hP i hi).2 pc hpc, hR.p, hR.r, hR.s⟩
attribute [local go_sem] rd o9 l9 aL bP r8 z8 eC cE m9 aG z4 l7 aN Int.natCast_nonneg Int.natCast_inj List.length_map wrap64 eH gT gU L7 zH D5 L9 wP max2 dT bS aO Nat.reduceMul lH iJ gC sU kX nU O4 lL dB gV u3 aH app_its app_cs EF zeros_I dM
section
attribute [local go_sem] MA List.length_set
theorem c_close (hu : WU u) : CallA Tryz.prog cfg 29 [.agg [.vec u.globals.length (j4 u.globals), .vec u.c4.length (g9 u.c4), .vec u.procs.length (m7 u.procs), .int .i64 u.main]] h (fun y' h' => (∃ c, WC u c ∧ y' = .tup [.agg (QL c), .int .i64 0]) ∧ h' = h) := by
  refine .bz Tryz.f29 109 ?_
  refine c18z ?_
  refine .c7 [1, 2, 4] ?_
  refine c9.iG (β := h.length + 2) [.int .i64 0, .vec 0 []] t36 ?_ ?_
  exact ⟨.inl (by rw [hu.main]), .inr ⟨rfl, rfl⟩, trivial⟩
  simp only [List.append_assoc, List.cons_append, List.nil_append, p5, p9, List.set_cons_succ, List.set_cons_zero, List.length_append, List.length_cons, List.length_nil, Nat.reduceAdd, Nat.zero_add]
  refine c9.lR (β := h.length + 4) (k := 1) t36 rfl ?_
  simp only [List.append_assoc, List.cons_append, List.nil_append, p5, p9, List.set_cons_succ, List.set_cons_zero, List.length_append, List.length_cons, List.length_nil, Nat.reduceAdd, Nat.zero_add]
  refine c9.C2 (γ := h.length + 3) (β := h.length + 4) (k := 2) (off := 0) (len := 1) (cs := [.int .i64 0]) t36 rfl (by simp) rfl t36 (by omega) rfl ?_
  simp only [List.append_assoc, List.cons_append, List.nil_append, p5, p9, List.set_cons_succ, List.set_cons_zero, List.length_append, List.length_cons, List.length_nil, Nat.reduceAdd, Nat.zero_add]
  generalize dG _ _ = Rb
  refine c55z ?_
  refine .aW (fun m st => ∃ (i : Nat) (L : List s8) (g : Nat) (R : List Int) (CS : List (List Int)), (m = 65 - i ∧ (LI u L ∧ RI L R ∧ i ≤ L.length ∧ CS.length = i ∧ PI u L CS i)) ∧ st = ⟨mkS 109 [(1, AV.ptr h.length 0 0), (2, AV.ptr (h.length + 1) 0 0), (4, AV.ptr (h.length + 4) 0 0), (5, AV.int .i64 ((iL u L i : Nat) : Int)), (6, AV.int .i64 ((i : Nat) : Int))], h ++ [⟨0, false, 30, 4, [.vec u.globals.length (j4 u.globals), .vec u.c4.length (g9 u.c4), .vec u.procs.length (m7 u.procs), .int .i64 u.main], 0⟩, ⟨0, false, 34, 3, [.j6, .j6, .j6], 0⟩, ⟨g, false, 69, 2, q9 L, 0⟩, Rb, ⟨0, false, 34, 3, [.own (h.length + 2) g 0 L.length, .own (h.length + 5) i 0 i, .vec R.length (j4 R)], 0⟩, o8 22 1 i (w4 CS)]⟩) (.v ⟨0, ([⟨0, []⟩] : List s8), 0, ([0] : List Int), ([] : List (List Int)), ⟨rfl, ⟨⟨fun it hit => by replace hit := s6z hit; subst hit; exact wit0 hu, by simp, by simp⟩, ⟨by simp, by simp, by simp⟩, by omega, rfl, fun j hj => by omega⟩⟩, rfl⟩ (hs := t88)) ?_
  rintro m sl h' ⟨i, L, g, R, CS, ⟨hm, ⟨hL, hR, hi, hCS, hP⟩⟩, hst⟩
  obtain ⟨rfl, rfl⟩ := St.mk.inj hst; clear hst
  have hfew := hL.few hu
  have hrl := hR.len hu hL
  refine c0z ?_
  refine u2z ?_ ?_
  ·intro e1 qe1
   refine c7z ?_
   have hw : WIt u (L.getD i l3) := hL.w _ (j9 (by omega))
   have hw1 := hw.lo; have hw2 := hw.hi
   have hcd := mF hu hw
   have hs0 := hL.sites hu i
   have hs1 : iL u L (i + 1) = iL u L i + (c8 u (L.getD i l3)).length := by rw [V0 (by omega)]
   have hs2 := hL.sites hu (i + 1)
   refine .ss s7 (mkP 12 [0, 1, 0, 4, 0, 28, 60, 124, 255, 511, 1023, 2047] []) ?_
   refine c120z ?_
   refine .c7 [1, 2, 4, 5, 6, 7, 34] ?_
   refine c28z ?_
   refine c19z ?_
   refine .spl 42 rfl rfl (fun e2 => by exfalso; have q := fact e2; omega) (fun e2 => ?_)
   try simp only [e2]
   have qe2 := fact e2
   refine .m [(2, 42)] ?_
   refine uFbz ?_
   intro e3 qe3
   refine .sk ?_
   refine .c7 [1, 2, 4, 5, 6, 7, 34] ?_
   have hcl1 := hcd.1
   have hclm : (c8 u (L.getD i l3)).length ≤ 2000 := by omega
   have hmx : ((c8 u (L.getD i l3)).length : Int) ≤ (maxLen : Int) := Int.ofNat_le.2 (Nat.le_trans hclm mx2000)
   refine c55z ?_
   refine .aW (fun m st => ∃ (pc : Nat) (L1 : List s8) (g1 : Nat) (R1 : List Int) (v : List Int), (m = (c8 u (L.getD i l3)).length - pc ∧ (LI u L1 ∧ RI L1 R1 ∧ (∃ M, L1 = L ++ M) ∧ pc ≤ (c8 u (L.getD i l3)).length ∧ v.length = (c8 u (L.getD i l3)).length ∧ nV u L1 (L.getD i l3) v pc)) ∧ st = ⟨mkS 109 [(1, AV.ptr h.length 0 0), (2, AV.ptr (h.length + 1) 0 0), (4, AV.ptr (h.length + 4) 0 0), (5, AV.int .i64 ((iL u L (i + 1) : Nat) : Int)), (6, AV.int .i64 ((i : Nat) : Int)), (7, AV.vec (c8 u (L.getD i l3)).length (n9 (c8 u (L.getD i l3)))), (8, AV.own (h.length + 6) 0 0 (c8 u (L.getD i l3)).length), (9, AV.int .i64 ((pc : Nat) : Int))], h ++ [⟨0, false, 30, 4, [.vec u.globals.length (j4 u.globals), .vec u.c4.length (g9 u.c4), .vec u.procs.length (m7 u.procs), .int .i64 u.main], 0⟩, ⟨0, false, 34, 3, [.j6, .j6, .j6], 0⟩, ⟨g1, false, 69, 2, q9 L1, 0⟩, Rb, ⟨0, false, 34, 3, [.own (h.length + 2) g1 0 L1.length, .own (h.length + 5) i 0 i, .vec R1.length (j4 R1)], 0⟩, o8 22 1 i (w4 CS), ⟨0, false, 3, 1, j4 v, 0⟩]⟩) (.v ⟨0, L, g, R, (List.replicate (c8 u (L.getD i l3)).length 0), ⟨rfl, ⟨hL, hR, ⟨[], by simp⟩, by omega, by simp, fun j hj => by omega⟩⟩, rfl⟩) ?_
   rintro m sl h' ⟨pc, L1, g1, R1, v, ⟨hm, ⟨hL1, hR1, ⟨M, hM⟩, hpc, hv, hok⟩⟩, hst⟩
   obtain ⟨rfl, rfl⟩ := St.mk.inj hst; clear hst
   have hfew1 := hL1.few hu
   have hrl1 := hR1.len hu hL1
   have hit1 : L1.getD i l3 = L.getD i l3 := by rw [hM, lM (by omega)]
   have hw1 : WIt u (L1.getD i l3) := by rw [hit1]; exact hw
   have hil1 : i < L1.length := by rw [hM, List.length_append]; omega
   refine c0z ?_
   refine u2z ?_ ?_
   ·intro e4 qe4
    refine c7z ?_
    by_cases hcl : gD ((c8 u (L.getD i l3)).getD pc g5)
    ·generalize hy : cQ u (L.getD i l3) pc = y
     have hwy : WIt u y := by rw [← hy]; exact uK hu hw (by omega) hcl
     refine .sg s7 (mkH 14 [0, 0, 2, 0, 14, 30, 0, 127, 255, 511, 511, 0, 3071, 8191] [11, 12] [] [0, 2048, 6144] [0, 1, 2, 3, 4, 5, 6, 7, 8, 9, 10]) 0 ?_
     refine c102z ?_
     refine .p 2 ?_
     refine .rm [true] ?_
     refine .p 1 ?_
     refine .cl rfl rfl (fun _ => V2 hu hw1 hit1 (by omega) hcl hy) ?_
     refine .p 3 ?_
     refine .en [true] [2048, 0] [_] ?_
     refine .en [true, false] [6144, 2048, 0] [_] ?_
     refine .p 1 ?_
     refine c31z ?_
     refine c163z ?_
     refine .seq ?_
     refine .c7 [1, 2, 4, 5, 6, 7, 8, 9, 10, 11] ?_
     refine c8z ?_
     refine c183z ?_
     refine c36z ?_
     refine .ca rfl rfl (F5 t36 t36 rfl hCS (by omega) (fun y hy => Nat.lt_of_le_of_lt (LI.j0 hu hL1 y hy) (by omega))) ?_
     refine .n ?_
     refine u2z ?_ ?_
     ·intro e5 qe5
      refine c1z ?_
      refine .c7 [1, 2, 4, 5, 6, 7, 8, 9, 10] ?_
      have hny : y ∉ L1 := fun hm => by have := O3 hm; omega
      have hL2 := hL1.snoc hwy hny
      have hfew2 := hL2.few hu
      have hmy : y ∈ L1 ++ [y] := by simp
      have hR2 := hR1.app (M := [y])
      have hok2 := hok.app (M := [y])
      obtain ⟨hf1, hf2, hf3⟩ := O3 hmy
      have hsg := @xJ v pc (fI (L1 ++ [y]) y) (by omega)
      refine c27z ?_
      refine .ca rfl rfl (F5 (L := (L1 ++ [y])) t36 t36 (by rw [List.length_append]; rfl) hCS (by rw [List.length_append, List.length_singleton]; omega) (fun y hy => Nat.lt_of_le_of_lt (LI.j0 hu hL2 y hy) (by omega))) ?_
      refine .n ?_
      refine .z ?_
      refine u2z ?_ ?_
      ·intro e6 qe6
       refine .c7 [1, 2, 4, 5, 6, 7, 8, 9] ?_
       refine .og s7 (mkH 9 [0, 1, 0, 0, 12, 28, 63, 127, 255] [8] [] [0, 256] []) 0 ?_
       refine c154z ?_
       refine c86z ?_
       refine .cl rfl rfl (fun _ => DZ _ _ (by omega)) ?_
       refine .p 1 ?_
       refine .en [true] [256, 0] [_] ?_
       refine s4.nil rfl ?_
       change c9 ..
       refine c231z ?_
       exact ⟨_, by omega, .v ⟨(pc + 1), (L1 ++ [y]), (g1 + 1), (iB R1 (fI (L1 ++ [y]) y)), (v.set pc (fI (L1 ++ [y]) y)), ⟨rfl, ⟨hL2, hR2.with ⟨hf1, hf2⟩, ⟨M ++ [y], by rw [hM, List.append_assoc]⟩, by omega, t131, hok2.set (by omega) ⟨fun _ => ⟨hf1, hf2, hf3.trans hy.symm⟩, fun hc => absurd hcl hc⟩⟩⟩, rfl⟩ (he := t33) (hk := t29)⟩
      intro e6 qe6
      refine c6z ?_
      refine c231z ?_
      exact ⟨_, by omega, .v ⟨(pc + 1), (L1 ++ [y]), (g1 + 1), R1, (v.set pc (fI (L1 ++ [y]) y)), ⟨rfl, ⟨hL2, hR2, ⟨M ++ [y], by rw [hM, List.append_assoc]⟩, by omega, t131, hok2.set (by omega) ⟨fun _ => ⟨hf1, hf2, hf3.trans hy.symm⟩, fun hc => absurd hcl hc⟩⟩⟩, rfl⟩ (he := t33) (hk := t29)⟩
     intro e5 qe5
     refine .sk ?_
     have hmy : y ∈ L1 := Classical.byContradiction fun hm => by have := fI_not hm; omega
     have hL2 := hL1
     have hR2 := hR1
     have hok2 := hok
     obtain ⟨hf1, hf2, hf3⟩ := O3 hmy
     have hsg := @xJ v pc (fI L1 y) (by omega)
     refine c27z ?_
     refine .ca rfl rfl (F5 (L := L1) t36 t36 rfl hCS (by omega) (fun y hy => Nat.lt_of_le_of_lt (LI.j0 hu hL1 y hy) (by omega))) ?_
     refine .n ?_
     refine .c7 [1, 2, 4, 5, 6, 7, 8, 9] ?_
     refine .z ?_
     refine u2z ?_ ?_
     ·intro e7 qe7
      refine .og s7 (mkH 9 [0, 1, 0, 0, 12, 28, 63, 127, 255] [8] [] [0, 256] []) 0 ?_
      refine c154z ?_
      refine c86z ?_
      refine .cl rfl rfl (fun _ => DZ _ _ (by omega)) ?_
      refine .p 1 ?_
      refine .en [true] [256, 0] [_] ?_
      refine s4.nil rfl ?_
      change c9 ..
      refine c231z ?_
      exact ⟨_, by omega, .v ⟨(pc + 1), L1, g1, (iB R1 (fI L1 y)), (v.set pc (fI L1 y)), ⟨rfl, ⟨hL2, hR2.with ⟨hf1, hf2⟩, ⟨M, by rw [hM]⟩, by omega, t131, hok2.set (by omega) ⟨fun _ => ⟨hf1, hf2, hf3.trans hy.symm⟩, fun hc => absurd hcl hc⟩⟩⟩, rfl⟩ (he := t33) (hk := t29)⟩
     intro e7 qe7
     refine c6z ?_
     refine .rz ?_
     exact ⟨_, by omega, .v ⟨(pc + 1), L1, g1, R1, (v.set pc (fI L1 y)), ⟨rfl, ⟨hL2, hR2, ⟨M, by rw [hM]⟩, by omega, t131, hok2.set (by omega) ⟨fun _ => ⟨hf1, hf2, hf3.trans hy.symm⟩, fun hc => absurd hcl hc⟩⟩⟩, rfl⟩ (he := t33) (hk := t29)⟩
    ·skip
     refine .sg s7 (mkH 14 [0, 0, 2, 0, 14, 30, 0, 127, 255, 511, 511, 0, 3071, 8191] [11, 12] [] [0, 2048, 6144] [0, 1, 2, 3, 4, 5, 6, 7, 8, 9, 10]) 0 ?_
     refine c102z ?_
     refine .p 2 ?_
     refine .rm [true] ?_
     refine .p 1 ?_
     refine .cl rfl rfl (fun _ => V3 hu hw1 hit1 (by omega) hcl) ?_
     refine .p 3 ?_
     refine .en [true] [2048, 0] [_] ?_
     refine .en [true, false] [6144, 2048, 0] [_] ?_
     refine .p 1 ?_
     refine c31z ?_
     refine c163z ?_
     refine .seq ?_
     refine .c7 [1, 2, 4, 5, 6, 7, 8, 9, 10, 11] ?_
     refine c96z ?_
     refine .z ?_
     refine c9z ?_
     refine .rz ?_
     exact ⟨_, by omega, .v ⟨(pc + 1), L1, g1, R1, (v.set pc (-1)), ⟨rfl, ⟨hL1, hR1, ⟨M, hM⟩, by omega, t131, hok.set (by omega) ⟨fun hc => absurd hc hcl, fun _ => rfl⟩⟩⟩, rfl⟩ (he := t33) (hk := t29)⟩
   intro e4 qe4
   refine .exit ?_
   obtain rfl : pc = (c8 u (L.getD i l3)).length := by omega
   refine c9.AO (t := 8) (γ := h.length + 6) (len := (c8 u (L.getD i l3)).length) (by rw [p5]; exact congrArg some (eY (by intro h0; have := congrArg List.length h0; rw [l7] at this; simp only [List.length_nil] at this; omega)).symm) (by rw [l7, hv, Nat.mul_one]) (by omega) (tZ _) (C6 (by decide) rfl) ?_
   rw [cI]; simp only [p9, List.set_cons_succ, List.set_cons_zero]
   generalize gH _ _ _ _ _ = Vb
   change c9 ..
   refine c1z ?_
   refine .c7 [1, 2, 4, 5, 6] ?_
   refine .rz ?_
   have hP1 : PI u L1 (CS ++ [v]) (i + 1) := by rw [hM]; exact hP.step hCS (by omega) hv (by rw [← hM]; exact hok)
   have hs3 : iL u L1 (i + 1) = iL u L (i + 1) := by rw [hM, EG (by omega)]
   exact ⟨_, by omega, .v ⟨(i + 1), L1, g1, R1, (CS ++ [v]), ⟨rfl, ⟨hL1, hR1, by omega, by simp [hCS], hP1⟩⟩, rfl⟩ (he := by (simp only [List.append_assoc, List.cons_append, List.nil_append, List.length_append, List.length_cons, List.length_nil, hCS]; rfl)) (hk := by exact (aK.refl _).app rfl ⟨.inl rfl, .inl rfl, .inr ((LZ _).refs _), .inl rfl, .inr (eV.get ⟨.own _ _ _ _ (by simp), .own _ _ _ _ (by simp), .vec _ _, trivial⟩), .inr (by rw [o4]; exact (LY _).refs _), trivial⟩) (hs := t88)⟩
  intro e1 qe1
  refine .exit ?_
  obtain rfl : i = L.length := by omega
  refine c9.C2 (γ := h.length + 2) (β := h.length + 4) (k := 0) (off := 0) (len := L.length) (cs := q9 L) t36 rfl (by simp only [u3]; omega) (by rw [List.drop_zero, List.take_of_length_le (by simp only [u3]; omega)]; exact (LZ _).QD) t36 (by omega) rfl ?_
  simp only [List.append_assoc, List.cons_append, List.nil_append, p5, p9, List.set_cons_succ, List.set_cons_zero, List.length_append, List.length_cons, List.length_nil, Nat.reduceAdd, Nat.zero_add]
  refine c9.nE (γ := h.length + 5) (β := h.length + 4) (k := 1) (len := L.length) t36 (by rw [dM, hCS, Nat.mul_one]) (by omega) (LY _) t36 (by omega) rfl ?_
  refine c15z ?_
  refine .c7 [2, 4] ?_
  refine .z ?_
  exact .ret (.ex (hq := by exact ⟨⟨L, CS, R⟩, wc_of hu hL hR hCS hP, by simp only [QL, hCS]⟩))
end
end Go.Proofs.YtfbjlfhjkojmkaaGreat
end
section
namespace Go.Un
open Go.Ab
def shV (k : Nat) (n : Int) (d : Nat) : Int := if 0 ≤ (d : Int) + n ∧ (d : Int) + n ≤ k then 2 ^ ((d : Int) + n).toNat else 0
def shI (k : Nat) (n : Int) : List Int := (List.range (k + 1)).map (shV k n)
theorem EH {k : Nat} {n : Int} : (shI k n).length = k + 1 := by simp [shI]
def chI (it : s8) (x : Ins) (m : Int) : Int := if x.op = 4 ∧ uJ it x.pl = m then 1 else if x.op = 5 ∧ uJ it x.pl = m then -1 else 0
variable {it : s8} {x : Ins} {m : Int}
theorem chI_1 (h : x.op = 4) (h2 : uJ it x.pl = m) : chI it x m = 1 := by rw [chI, if_pos ⟨h, h2⟩]
theorem chI_2 (h : x.op = 5) (h2 : uJ it x.pl = m) : chI it x m = -1 := by rw [chI, if_neg (by omega), if_pos ⟨h, h2⟩]
theorem chI_0 (h : ¬ (x.op = 4 ∧ uJ it x.pl = m)) (h2 : ¬ (x.op = 5 ∧ uJ it x.pl = m)) : chI it x m = 0 := by rw [chI, if_neg h, if_neg h2]
theorem EI : chI it x m = 1 ∨ chI it x m = -1 ∨ chI it x m = 0 := by
 unfold chI
 split
 ·exact .inl rfl
 ·split
  ·exact .inr (.inl rfl)
  ·exact .inr (.inr rfl)
def V4 (m : Mx) : Nat := if m.size = 0 ∧ m.re = false then 1 else 8
theorem xK {m : Mx} : V4 m ≤ 8 := by unfold V4; split <;> omega
variable {pc : Nat}
theorem EJ {u : Un} (hu : WU u) (w : WIt u it) (hpc : pc < (c8 u it).length) (ho : ((c8 u it).getD pc g5).op = 4 ∨ ((c8 u it).getD pc g5).op = 5) : ((c8 u it).getD pc g5).pl.param = true → 0 ≤ ((c8 u it).getD pc g5).pl.index ∧ ((c8 u it).getD pc g5).pl.index.toNat < it.j0.length := by
 obtain ⟨_, _, h3, _⟩ := (mF hu w).2.2 pc hpc
 intro hp
 obtain ⟨h0, ⟨_, h2⟩ | ⟨h1, _⟩⟩ := h3 ho
 ·refine ⟨h0, ?_⟩
  rw [w.len]
  simp only at h2
  omega
 ·rw [hp] at h1; cases h1
def s5 (x : Ins) (pc : Nat) : List Int := if x.op = 8 then [] else if x.op = 7 then [x.target] else if x.op = 6 then (if x.target = (pc : Int) + 1 then [x.target] else [min x.target ((pc : Int) + 1), max x.target ((pc : Int) + 1)]) else [(pc : Int) + 1]
def kE (x : Ins) (pc : Nat) : AV := .vec (s5 x pc).length (j4 (s5 x pc))
theorem EK (h : x.op = 8) : kE x pc = .vec 0 [] := by simp [kE, s5, h, j4]
theorem EL (h : x.op = 7) : kE x pc = .vec 1 [.int .i64 x.target] := by simp [kE, s5, h, j4]
theorem O5 (h : x.op = 6) (h2 : x.target = (pc : Int) + 1) : kE x pc = .vec 1 [.int .i64 x.target] := by simp [kE, s5, h, h2, j4]
theorem EM (h : x.op = 6) (h2 : ¬ x.target = (pc : Int) + 1) : kE x pc = .vec 2 [.int .i64 (min x.target ((pc : Int) + 1)), .int .i64 (max x.target ((pc : Int) + 1))] := by simp [kE, s5, h, h2, j4]
theorem EN (h8 : ¬ x.op = 8) (h7 : ¬ x.op = 7) (h6 : ¬ x.op = 6) : kE x pc = .vec 1 [.int .i64 ((pc : Int) + 1)] := by simp [kE, s5, h8, h7, h6, j4]
theorem tA : (s5 x pc).length ≤ 2 := by
 unfold s5
 split
 ·simp
 ·split
  ·simp
  ·split
   ·split <;> simp
   ·simp
theorem next_in {u : Un} (hu : WU u) (w : WIt u it) (hpc : pc < (c8 u it).length) : ∀ d, d < (s5 ((c8 u it).getD pc g5) pc).length → 0 ≤ (s5 ((c8 u it).getD pc g5) pc).getD d 0 ∧ (s5 ((c8 u it).getD pc g5) pc).getD d 0 < (c8 u it).length := by
 obtain ⟨h1, h2, h3⟩ := mF hu w
 obtain ⟨_, h4, _⟩ := h3 pc hpc
 have h5 : ¬ ((c8 u it).getD pc g5).op = 8 → pc + 1 < (c8 u it).length := fun h8 => by
  by_cases e : pc = (c8 u it).length - 1
  ·rw [← e] at h2; exact absurd h2 h8
  ·omega
 intro d hd
 have key : ∀ x ∈ s5 ((c8 u it).getD pc g5) pc, 0 ≤ x ∧ x < (c8 u it).length := by
  intro x hx
  unfold s5 at hx
  split at hx
  ·simp at hx
  ·rename_i h8
   have h6 := h5 h8
   split at hx
   ·rename_i h7
    have := h4 (.inr h7)
    replace hx := s6z hx
    omega
   ·split at hx
    ·rename_i h7
     have := h4 (.inl h7)
     split at hx
     ·replace hx := s6z hx
      omega
     ·simp only [List.mem_cons, List.not_mem_nil, or_false] at hx
      omega
    ·replace hx := s6z hx
     omega
 exact key _ (j9 hd)
end Go.Un
end
section
namespace Go.Proofs.YtfbjlfhjkojmkaaGreat
open Go.Ab Go.Un
variable {i : Nat}
theorem jM {l : List Ins} (h : i < l.length) : List.take 12 (List.drop (i * 12) (n9 l)) = [.int .i64 (l.getD i g5).op, .int .i64 (l.getD i g5).target, .bool (l.getD i g5).global, .int .i64 (l.getD i g5).e.op, .int .i64 (l.getD i g5).e.num, .str (l.getD i g5).e.name, .vec (l.getD i g5).e.args.length (l6 (l.getD i g5).e.args), .bool (l.getD i g5).pl.param, .int .i64 (l.getD i g5).pl.index, .vec (l.getD i g5).pl.at'.length (l6 (l.getD i g5).pl.at'), .vec (l.getD i g5).ints.length (l6 (l.getD i g5).ints), .vec (l.getD i g5).v5.length (cK (l.getD i g5).v5)] := by rw [read_in h, jK]
theorem jN {l : List Mx} (h : i < l.length) : List.take 3 (List.drop (i * 3) (g9 l)) = [.str (l.getD i z6).name, .bool (l.getD i z6).re, .int .i64 (l.getD i z6).size] := wG h
theorem flat_I (n : Nat) : (List.replicate n [AV.int .i64 0]).flatten = j4 (List.replicate n 0) := by
  induction n with
  | zero => rfl
  | succ n ih => simp only [List.replicate_succ, List.flatten_cons, ih]; rfl
theorem shl1N {e : Int} (h0 : 0 ≤ e) (h1 : e ≤ 9) : IntKind.wrap .i64 (1 * 2 ^ (min e.toNat 64)) = 2 ^ e.toNat := by
  obtain ⟨m, rfl⟩ := Int.eq_ofNat_of_zero_le h0
  have : m = 0 ∨ m = 1 ∨ m = 2 ∨ m = 3 ∨ m = 4 ∨ m = 5 ∨ m = 6 ∨ m = 7 ∨ m = 8 ∨ m = 9 := by omega
  rcases this with rfl | rfl | rfl | rfl | rfl | rfl | rfl | rfl | rfl | rfl <;> decide
variable {m : Nat}
theorem shl1M (h1 : m ≤ 9) : IntKind.wrap .i64 (1 * 2 ^ (min m 64)) = 2 ^ m := by
  have := shl1N (e := (m : Int)) (by omega) (by omega)
  simpa using this
def uU (v : Nat → Int) (i : Nat) (zs : List Int) : Prop := (∀ d, d < i → zs.getD d 0 = v d) ∧ (∀ d, i ≤ d → zs.getD d 0 = 0)
theorem uU.zero (v : Nat → Int) (n : Nat) : uU v 0 (List.replicate n 0) := by
  refine ⟨fun d hd => by omega, fun d _ => ?_⟩
  rw [List.getD_eq_getElem?_getD, List.getElem?_replicate]
  split <;> rfl
variable {v : Nat → Int} {zs : List Int}
theorem uU.set {x : Int} (hi : i < zs.length) (h : uU v i zs) (hx : x = v i) : uU v (i + 1) (zs.set i x) := by
  refine ⟨fun d hd => ?_, fun d hd => ?_⟩
  · by_cases e : d = i
    · subst e; simp [List.getD, hi, hx]
    · have := h.1 d (by omega)
      simp only [List.getD_eq_getElem?_getD, List.getElem?_set_ne (Ne.symm e)] at this ⊢
      exact this
  · have := h.2 d (by omega)
    simp only [List.getD_eq_getElem?_getD, List.getElem?_set_ne (show i ≠ d from by omega)] at this ⊢
    exact this
theorem uU.skip (h : uU v i zs) (hv : v i = 0) : uU v (i + 1) zs := by
  refine ⟨fun d hd => ?_, fun d hd => h.2 d (by omega)⟩
  by_cases e : d = i
  · subst e; rw [h.2 d (Nat.le_refl _), hv]
  · exact h.1 d (by omega)
theorem uU.all {n : Nat} (h : uU v i zs) (hl : zs.length = n) (hi : n ≤ i) : zs = (List.range n).map v := by
  refine List.ext_getElem (by simp [hl]) fun d k1 k2 => ?_
  have := h.1 d (by omega)
  simp
  simpa [List.getD, k1] using this
variable {h l : c6} {b0 : Blk} {g : Nat} {a : Int}
theorem MB : gM h.length (h ++ (b0 :: ⟨g, false, 3, 1, [.int .i64 a], 0⟩ :: l)) 6 (.own (h.length + 1) g 0 1) = some (.vec 1 [.int .i64 a]) := zY (a := [a]) t36 (by omega) rfl
theorem frz_2 {b : Int} : gM h.length (h ++ (b0 :: ⟨g, false, 3, 1, [.int .i64 a, .int .i64 b], 0⟩ :: l)) 6 (.own (h.length + 1) g 0 2) = some (.vec 2 [.int .i64 a, .int .i64 b]) := zY (a := [a, b]) t36 (by omega) rfl
theorem vec2 {b c d : Int} (h1 : a = c) (h2 : b = d) : AV.vec 2 [.int .i64 a, .int .i64 b] = AV.vec 2 [.int .i64 c, .int .i64 d] := by rw [h1, h2]
theorem frz_13 {b1 b2 : Blk} : gM h.length (h ++ (b0 :: b1 :: b2 :: ⟨g, false, 3, 1, [.int .i64 a], 0⟩ :: l)) 6 (.own (h.length + 3) g 0 1) = some (.vec 1 [.int .i64 a]) := zY (a := [a]) t36 (by omega) rfl
theorem iM {C : Cfg} {ρ : Operand → AV} {c : Call} {r : Operand} {name : String} {t : TypeId} {v : AV} {f : FuncId} (hc : c.callee = .invoke r name) (hr : ρ r = .iface t v) (hm : C.W9 t name = some f) : s3 C ρ c = some (f, v :: c.args.toList.map ρ) := by simp only [s3, hc, hr, hm]
theorem V5 : cfg.W9 180 "lockorder/flow.next" = some 145 := by kernel_rfl
theorem EO : cfg.W9 182 "lockorder/flow.next" = some 146 := by kernel_rfl
theorem tB : cfg.W9 183 "lockorder/flow.next" = some 147 := by kernel_rfl
theorem zZ : cfg.W9 184 "lockorder/flow.next" = some 148 := by kernel_rfl
attribute [local go_sem] rd u3 aH r8 m9 l7 Int.natCast_nonneg Int.natCast_inj nU dB lL jM jN kX EF flat_I shl1N shl1M List.length_set List.length_replicate Int.toNat_natCast_add_one kQ wrap64 wP max2
theorem c_cap (m : Mx) : CB 56 [.agg [.str m.name, .bool m.re, .int .i64 m.size]] h (.int .i64 ((V4 m : Nat) : Int)) := by
  refine .bz Tryz.f56 11 ?_
  refine c28z ?_
  refine c27z ?_
  refine .spl 6 rfl rfl (fun e1 => ?_) (fun e1 => ?_)
  ·try simp only [e1]
   have qe1 := fact e1
   refine .m [(3, 6)] ?_
   refine u2z ?_ ?_
   ·intro e2 qe2
    refine c20z ?_
    exact .ret (.ex (hq := t136))
   intro e2 qe2
   refine .sk ?_
   refine c20z ?_
   exact .ret (.ex (hq := t136))
  try simp only [e1]
  have qe1 := fact e1
  refine .m [(3, 6)] ?_
  refine c16z ?_
  refine c20z ?_
  exact .ret (.ex (hq := t136))
theorem OU (m : Mx) : CB 36 [.agg [.str m.name, .bool m.re, .int .i64 m.size]] h (.int .i64 ((V4 m : Nat) : Int)) := by
  refine .bz Tryz.f36 11 ?_
  refine c28z ?_
  refine c27z ?_
  refine .spl 6 rfl rfl (fun e1 => ?_) (fun e1 => ?_)
  ·try simp only [e1]
   have qe1 := fact e1
   refine .m [(3, 6)] ?_
   refine u2z ?_ ?_
   ·intro e2 qe2
    refine c20z ?_
    exact .ret (.ex (hq := t136))
   intro e2 qe2
   refine .sk ?_
   refine c20z ?_
   exact .ret (.ex (hq := t136))
  try simp only [e1]
  have qe1 := fact e1
  refine .m [(3, 6)] ?_
  refine c16z ?_
  refine c20z ?_
  exact .ret (.ex (hq := t136))
theorem tC (k : Nat) (n : Int) (hk : k ≤ 8) (h1 : -1 ≤ n) (h2 : n ≤ 1) : CB 95 [.int .i64 ((k : Nat) : Int), .int .i64 n] h (.vec (shI k n).length (j4 (shI k n))) := by
  refine .bz Tryz.f95 35 ?_
  refine c54z ?_
  refine .dR (fun m st => ∃ (i : Nat) (zs : List Int), (m = (k + 1) - i ∧ (uU (shV k n) i zs ∧ zs.length = (k + 1) ∧ i ≤ (k + 1))) ∧ st = ⟨mkS 35 [(0, AV.int .i64 ((k : Nat) : Int)), (1, AV.int .i64 n), (5, AV.own h.length 0 0 (k + 1)), (11, AV.int .i64 ((k + 1 : Nat) : Int)), (12, AV.int .i64 ((i : Nat) : Int))], h ++ [⟨0, false, 3, 1, j4 zs, 0⟩]⟩) _ (.v ⟨0, (List.replicate (k + 1) 0), ⟨rfl, ⟨uU.zero _ _, by simp, by omega⟩⟩, rfl⟩) ?_
  rintro m sl h' ⟨i, zs, ⟨hm, ⟨hI, hz, hi⟩⟩, hst⟩
  obtain ⟨rfl, rfl⟩ := St.mk.inj hst
  refine c28z ?_
  refine u2z ?_ ?_
  ·intro e1 qe1
   refine c129z ?_
   refine c24z ?_
   refine .spl 19 rfl rfl (fun e2 => ?_) (fun e2 => ?_)
   ·try simp only [e2]
    have qe2 := fact e2
    refine .m [(4, 19)] ?_
    refine u2z ?_ ?_
    ·intro e3 qe3
     refine .c7 [0, 1, 5, 6, 11, 12] ?_
     refine c1z ?_
     refine c196z ?_
     exact ⟨_, by omega, .v ⟨(i + 1), (zs.set i _), ⟨rfl, ⟨uU.set (by omega) hI (by rw [shV, if_pos (by omega)]), t90, by omega⟩⟩, rfl⟩⟩
    intro e3 qe3
    refine c6z ?_
    refine c196z ?_
    exact ⟨_, by omega, .v ⟨(i + 1), zs, ⟨rfl, ⟨uU.skip hI t162, hz, by omega⟩⟩, rfl⟩⟩
   try simp only [e2]
   have qe2 := fact e2
   refine .m [(4, 19)] ?_
   refine c44z ?_
   refine c196z ?_
   exact ⟨_, by omega, .v ⟨(i + 1), zs, ⟨rfl, ⟨uU.skip hI t162, hz, by omega⟩⟩, rfl⟩⟩
  intro e1 qe1
  refine c108z ?_
  exact ⟨_, _, rfl, zY t114 (Nat.le_refl _) hz, by (rw [hI.all hz (by omega), EH]; rfl)⟩
theorem EP (k : Nat) (n : Int) (hk : k ≤ 8) (h1 : -1 ≤ n) (h2 : n ≤ 1) : CB 41 [.int .i64 ((k : Nat) : Int), .int .i64 n] h (.vec (shI k n).length (j4 (shI k n))) := by
  refine .bz Tryz.f41 32 ?_
  refine c54z ?_
  refine .dR (fun m st => ∃ (i : Nat) (zs : List Int), (m = (k + 1) - i ∧ (uU (shV k n) i zs ∧ zs.length = (k + 1) ∧ i ≤ (k + 1))) ∧ st = ⟨mkS 32 [(0, AV.int .i64 ((k : Nat) : Int)), (1, AV.int .i64 n), (5, AV.own h.length 0 0 (k + 1)), (6, AV.int .i64 ((i : Nat) : Int))], h ++ [⟨0, false, 3, 1, j4 zs, 0⟩]⟩) _ (.v ⟨0, (List.replicate (k + 1) 0), ⟨rfl, ⟨uU.zero _ _, by simp, by omega⟩⟩, rfl⟩) ?_
  rintro m sl h' ⟨i, zs, ⟨hm, ⟨hI, hz, hi⟩⟩, hst⟩
  obtain ⟨rfl, rfl⟩ := St.mk.inj hst
  refine c0z ?_
  refine u2z ?_ ?_
  ·intro e1 qe1
   refine c129z ?_
   refine c19z ?_
   refine .spl 21 rfl rfl (fun e2 => ?_) (fun e2 => ?_)
   ·try simp only [e2]
    have qe2 := fact e2
    refine .m [(2, 21)] ?_
    refine u2z ?_ ?_
    ·intro e3 qe3
     refine .c7 [0, 1, 5, 6, 7] ?_
     refine c56z ?_
     exact ⟨_, by omega, .v ⟨(i + 1), (zs.set i _), ⟨rfl, ⟨uU.set (by omega) hI (by rw [shV, if_pos (by omega)]), t90, by omega⟩⟩, rfl⟩⟩
    intro e3 qe3
    refine c6z ?_
    refine c114z ?_
    exact ⟨_, by omega, .v ⟨(i + 1), zs, ⟨rfl, ⟨uU.skip hI t162, hz, by omega⟩⟩, rfl⟩⟩
   try simp only [e2]
   have qe2 := fact e2
   refine .m [(2, 21)] ?_
   refine c44z ?_
   refine c114z ?_
   exact ⟨_, by omega, .v ⟨(i + 1), zs, ⟨rfl, ⟨uU.skip hI t162, hz, by omega⟩⟩, rfl⟩⟩
  intro e1 qe1
  refine c108z ?_
  exact ⟨_, _, rfl, zY t114 (Nat.le_refl _) hz, by (rw [hI.all hz (by omega), EH]; rfl)⟩
theorem c_up (k : Nat) (hk : k ≤ 8) : CB 68 [.int .i64 ((k : Nat) : Int)] h (.vec (shI k 1).length (j4 (shI k 1))) := by
  refine .bz Tryz.f68 5 ?_
  refine c216z ?_
  refine .ca rfl rfl (tC k 1 hk (by omega) (by omega)) ?_
  refine c143z ?_
  exact ⟨[], _, (List.append_nil _).symm, t44, by rfl⟩
theorem c_down (k : Nat) (hk : k ≤ 8) : CB 69 [.int .i64 ((k : Nat) : Int)] h (.vec (shI k (-1)).length (j4 (shI k (-1)))) := by
  refine .bz Tryz.f69 5 ?_
  refine c216z ?_
  refine .ca rfl rfl (tC k (-1) hk (by omega) (by omega)) ?_
  refine c143z ?_
  exact ⟨[], _, (List.append_nil _).symm, t44, by rfl⟩
theorem c_id (k : Nat) (hk : k ≤ 8) : CB 70 [.int .i64 ((k : Nat) : Int)] h (.vec (shI k 0).length (j4 (shI k 0))) := by
  refine .bz Tryz.f70 5 ?_
  refine c216z ?_
  refine .ca rfl rfl (tC k 0 hk (by omega) (by omega)) ?_
  refine c143z ?_
  exact ⟨[], _, (List.append_nil _).symm, t44, by rfl⟩
variable {u : Un} {it : s8} {pc : Nat}
theorem c_fcode (hu : WU u) (w : WIt u it) (hpc : pc < (c8 u it).length) : CB 93 [.agg [.vec u.globals.length (j4 u.globals), .vec u.c4.length (g9 u.c4), .vec u.procs.length (m7 u.procs), .int .i64 u.main], .agg [.int .i64 it.proc, .vec it.j0.length (j4 it.j0)], .int .i64 ((pc : Nat) : Int)] h (.agg [.int .i64 ((c8 u it).getD pc g5).op, .int .i64 ((c8 u it).getD pc g5).target, .bool ((c8 u it).getD pc g5).global, .int .i64 ((c8 u it).getD pc g5).e.op, .int .i64 ((c8 u it).getD pc g5).e.num, .str ((c8 u it).getD pc g5).e.name, .vec ((c8 u it).getD pc g5).e.args.length (l6 ((c8 u it).getD pc g5).e.args), .bool ((c8 u it).getD pc g5).pl.param, .int .i64 ((c8 u it).getD pc g5).pl.index, .vec ((c8 u it).getD pc g5).pl.at'.length (l6 ((c8 u it).getD pc g5).pl.at'), .vec ((c8 u it).getD pc g5).ints.length (l6 ((c8 u it).getD pc g5).ints), .vec ((c8 u it).getD pc g5).v5.length (cK ((c8 u it).getD pc g5).v5)]) := by
  refine .bz Tryz.f93 17 ?_
  have w1 := w.lo
  have w2 := w.hi
  have hsz : (c8 u it).length ≤ 1664 := v7 hu w
  refine .z ?_
  refine c170z ?_
  exact .ret (.ex (hq := by rfl))
theorem OV (it : s8) (p : Pl) (hp : p.param = true → 0 ≤ p.index ∧ p.index.toNat < it.j0.length) : CB 94 [.agg [.int .i64 it.proc, .vec it.j0.length (j4 it.j0)], .agg [.bool p.param, .int .i64 p.index, .vec p.at'.length (l6 p.at')]] h (.int .i64 (uJ it p)) := by
  refine .bz Tryz.f94 28 ?_
  refine c28z ?_
  refine c19z ?_
  refine .spl 7 rfl rfl (fun e1 => ?_) (fun e1 => ?_)
  ·try simp only [e1]
   have qe1 := fact e1
   refine .k 5 [(2, 7)] ?_
   refine .spl 12 rfl rfl (fun e2 => ?_) (fun e2 => ?_)
   ·try simp only [e2]
    have qe2 := fact e2
    refine .m [(7, 12)] ?_
    refine u2z ?_ ?_
    ·intro e3 qe3
     refine .c7 [2, 3] ?_
     refine .z ?_
     exact .ret (.ex (hq := t87))
    intro e3 qe3
    refine .sk ?_
    refine c166z ?_
    exact .ret (.ex (hq := t87))
   try simp only [e2]
   have qe2 := fact e2
   refine .m [(7, 12)] ?_
   refine c16z ?_
   refine c166z ?_
   exact .ret (.ex (hq := t87))
  try simp only [e1]
  have qe1 := fact e1
  refine .k 8 [(2, 7), (7, 12)] ?_
  refine .m [(7, 12)] ?_
  refine c16z ?_
  refine c166z ?_
  exact .ret (.ex (hq := t87))
theorem MC (hu : WU u) (w : WIt u it) (hpc : pc < (c8 u it).length) (m : Int) : CB 67 [.agg [.vec u.globals.length (j4 u.globals), .vec u.c4.length (g9 u.c4), .vec u.procs.length (m7 u.procs), .int .i64 u.main], .agg [.int .i64 it.proc, .vec it.j0.length (j4 it.j0)], .int .i64 ((pc : Nat) : Int), .int .i64 m] h (.int .i64 (chI it ((c8 u it).getD pc g5) m)) := by
  refine .bz Tryz.f67 33 ?_
  have w1 := w.lo
  have w2 := w.hi
  have hsz : (c8 u it).length ≤ 1664 := v7 hu w
  refine .z ?_
  refine c98z ?_
  refine c41z ?_
  refine c229z ?_
  refine .spl 17 rfl rfl (fun e1 => ?_) (fun e1 => ?_)
  ·try simp only [e1]
   have qe1 := fact e1
   refine .k 5 [(3, 17)] ?_
   refine .spl 22 rfl rfl (fun e2 => ?_) (fun e2 => ?_)
   ·try simp only [e2]
    have qe2 := fact e2
    refine .m [(8, 22)] ?_
    refine .T ?_
    refine c20z ?_
    exact .ret (.ex (hq := t13))
   try simp only [e2]
   have qe2 := fact e2
   refine .k 3 [(8, 22)] ?_
   refine .ca rfl rfl (OV it ((c8 u it).getD pc g5).pl (EJ hu w hpc (by omega))) ?_
   refine .m [(8, 22)] ?_
   refine u2z ?_ ?_
   ·intro e3 qe3
    refine c20z ?_
    exact .ret (.ex (hq := t13))
   intro e3 qe3
   refine c183z ?_
   refine .c7 [9] ?_
   refine .z ?_
   refine u2z ?_ ?_
   ·intro e4 qe4
    refine .z ?_
    exact .ret (.ex (hq := t13))
   intro e4 qe4
   refine .sk ?_
   refine .z ?_
   exact .ret (.ex (hq := t13))
  try simp only [e1]
  have qe1 := fact e1
  refine .k 8 [(3, 17), (8, 22)] ?_
  refine .ca rfl rfl (OV it ((c8 u it).getD pc g5).pl (EJ hu w hpc (by omega))) ?_
  refine .m [(8, 22)] ?_
  refine u2z ?_ ?_
  ·intro e5 qe5
   refine c20z ?_
   exact .ret (.ex (hq := t13))
  intro e5 qe5
  refine c183z ?_
  refine .c7 [9] ?_
  refine .z ?_
  refine u2z ?_ ?_
  ·intro e6 qe6
   refine .z ?_
   exact .ret (.ex (hq := t13))
  intro e6 qe6
  refine .sk ?_
  refine .z ?_
  exact .ret (.ex (hq := t13))
theorem ER (hu : WU u) (w : WIt u it) (hpc : pc < (c8 u it).length) (m : Int) : CB 73 [.agg [.vec u.globals.length (j4 u.globals), .vec u.c4.length (g9 u.c4), .vec u.procs.length (m7 u.procs), .int .i64 u.main], .agg [.int .i64 it.proc, .vec it.j0.length (j4 it.j0)], .int .i64 ((pc : Nat) : Int), .int .i64 m] h (.int .i64 (chI it ((c8 u it).getD pc g5) m)) := by
  refine .bz Tryz.f73 44 ?_
  have w1 := w.lo
  have w2 := w.hi
  have hsz : (c8 u it).length ≤ 1664 := v7 hu w
  refine .z ?_
  refine c170z ?_
  refine .sb ?_
  refine c229z ?_
  refine .spl 24 rfl rfl (fun e1 => ?_) (fun e1 => ?_)
  ·try simp only [e1]
   have qe1 := fact e1
   refine .k 3 [(3, 24)] ?_
   refine .ca rfl rfl (EA it ((c8 u it).getD pc g5).pl (EJ hu w hpc (by omega))) ?_
   refine .m [(3, 24)] ?_
   refine u2z ?_ ?_
   ·intro e2 qe2
    refine c20z ?_
    exact .ret (.ex (hq := t13))
   intro e2 qe2
   refine c229z ?_
   refine .spl 36 rfl rfl (fun e3 => ?_) (fun e3 => ?_)
   ·try simp only [e3]
    have qe3 := fact e3
    refine .k 3 [(3, 36)] ?_
    refine .ca rfl rfl (EA it ((c8 u it).getD pc g5).pl (EJ hu w hpc (by omega))) ?_
    refine .m [(3, 36)] ?_
    refine u2z ?_ ?_
    ·intro e4 qe4
     refine c20z ?_
     exact .ret (.ex (hq := t13))
    intro e4 qe4
    refine c6z ?_
    refine c20z ?_
    exact .ret (.ex (hq := t13))
   try simp only [e3]
   have qe3 := fact e3
   refine .m [(3, 36)] ?_
   refine c44z ?_
   refine c20z ?_
   exact .ret (.ex (hq := t13))
  try simp only [e1]
  have qe1 := fact e1
  refine .m [(3, 24)] ?_
  refine .F ?_
  refine c229z ?_
  refine .spl 36 rfl rfl (fun e5 => ?_) (fun e5 => ?_)
  ·try simp only [e5]
   have qe5 := fact e5
   refine .k 3 [(3, 36)] ?_
   refine .ca rfl rfl (EA it ((c8 u it).getD pc g5).pl (EJ hu w hpc (by omega))) ?_
   refine .m [(3, 36)] ?_
   refine u2z ?_ ?_
   ·intro e6 qe6
    refine c20z ?_
    exact .ret (.ex (hq := t13))
   intro e6 qe6
   refine c6z ?_
   refine c20z ?_
   exact .ret (.ex (hq := t13))
  try simp only [e5]
  have qe5 := fact e5
  refine .m [(3, 36)] ?_
  refine c44z ?_
  refine c20z ?_
  exact .ret (.ex (hq := t13))
theorem c_rel (hu : WU u) (w : WIt u it) (hpc : pc < (c8 u it).length) (hm : m < u.c4.length) : CB 39 [.agg [.vec u.globals.length (j4 u.globals), .vec u.c4.length (g9 u.c4), .vec u.procs.length (m7 u.procs), .int .i64 u.main], .agg [.int .i64 it.proc, .vec it.j0.length (j4 it.j0)], .int .i64 ((pc : Nat) : Int), .int .i64 ((m : Nat) : Int)] h (.vec (shI (V4 (u.c4.getD m z6)) (chI it ((c8 u it).getD pc g5) ((m : Nat) : Int))).length (j4 (shI (V4 (u.c4.getD m z6)) (chI it ((c8 u it).getD pc g5) ((m : Nat) : Int))))) := by
  refine .bz Tryz.f39 31 ?_
  have w1 := w.lo
  have w2 := w.hi
  have hsz : (c8 u it).length ≤ 1664 := v7 hu w
  have hcp := xK (m := (u.c4.getD m z6))
  have hml := hu.ml
  have hch := EI (it := it) (x := ((c8 u it).getD pc g5)) (m := (m : Int))
  refine .z ?_
  refine c24z ?_
  refine .ca rfl rfl (c_cap (u.c4.getD m z6)) ?_
  refine c41z ?_
  refine .c7 [2, 3, 4, 5, 9] ?_
  refine c27z ?_
  refine .ca rfl rfl (MC hu w hpc _) ?_
  refine c211z ?_
  refine .c7 [9, 20] ?_
  refine .z ?_
  refine u2z ?_ ?_
  ·intro e1 qe1
   refine c79z ?_
   refine .ca rfl rfl (c_up _ hcp) ?_
   refine .n ?_
   exact .ret (.ex (hq := t58))
  intro e1 qe1
  refine .z ?_
  refine u2z ?_ ?_
  ·intro e2 qe2
   refine c79z ?_
   refine .ca rfl rfl (c_down _ hcp) ?_
   refine .n ?_
   exact .ret (.ex (hq := t58))
  intro e2 qe2
  refine c6z ?_
  refine c79z ?_
  refine .ca rfl rfl (c_id _ hcp) ?_
  refine .n ?_
  exact .ret (.ex (hq := t58))
theorem c_relR (hu : WU u) (w : WIt u it) (hpc : pc < (c8 u it).length) (hm : m < u.c4.length) : CB 42 [.agg [.vec u.globals.length (j4 u.globals), .vec u.c4.length (g9 u.c4), .vec u.procs.length (m7 u.procs), .int .i64 u.main], .agg [.int .i64 it.proc, .vec it.j0.length (j4 it.j0)], .int .i64 ((pc : Nat) : Int), .int .i64 ((m : Nat) : Int)] h (.vec (shI (V4 (u.c4.getD m z6)) (chI it ((c8 u it).getD pc g5) ((m : Nat) : Int))).length (j4 (shI (V4 (u.c4.getD m z6)) (chI it ((c8 u it).getD pc g5) ((m : Nat) : Int))))) := by
  refine .bz Tryz.f42 21 ?_
  have w1 := w.lo
  have w2 := w.hi
  have hsz : (c8 u it).length ≤ 1664 := v7 hu w
  have hcp := xK (m := (u.c4.getD m z6))
  have hml := hu.ml
  have hch := EI (it := it) (x := ((c8 u it).getD pc g5)) (m := (m : Int))
  refine .z ?_
  refine .ss s7 (mkP 13 [0, 1, 0, 7, 15, 31, 0, 0, 0, 0, 1023, 2047, 4095] []) ?_
  refine .k 5 [] ?_
  refine .ca rfl rfl (OU (u.c4.getD m z6)) ?_
  refine .k 4 [] ?_
  refine .ca rfl rfl (ER hu w hpc _) ?_
  refine .ca rfl rfl (EP _ _ hcp (by omega) (by omega)) ?_
  refine .n [] ?_
  exact .ret (.ex (hq := by rfl))
theorem c_ended (pc : Nat) : CB 145 [.agg [], .int .i64 ((pc : Nat) : Int)] h (.vec 0 []) := by
  refine .bz Tryz.f145 5 ?_
  refine c18z ?_
  exact .ret (.ex (hq := by rfl))
theorem c_jump (pc : Nat) (t : Int) : CB 146 [.agg [.int .i64 t], .int .i64 ((pc : Nat) : Int)] h (.vec 1 [.int .i64 t]) := by
  refine .bz Tryz.f146 8 ?_
  refine c18z ?_
  exact .ret (.ex (hf := by first | rfl | exact MB) (hq := by rfl))
theorem ES (pc : Nat) (hp : pc < 100000) : CB 148 [.agg [], .int .i64 ((pc : Nat) : Int)] h (.vec 1 [.int .i64 ((pc : Int) + 1)]) := by
  refine .bz Tryz.f148 8 ?_
  refine c18z ?_
  exact .ret (.ex (hf := by first | rfl | exact MB) (hq := by rfl))
theorem O6 (pc : Nat) (t : Int) (hp : pc < 100000) : CB 147 [.agg [.int .i64 t], .int .i64 ((pc : Nat) : Int)] h (if t = (pc : Int) + 1 then AV.vec 1 [AV.int .i64 t] else AV.vec 2 [AV.int .i64 (min t ((pc : Int) + 1)), AV.int .i64 (max t ((pc : Int) + 1))]) := by
  refine .bz Tryz.f147 24 ?_
  refine c85z ?_
  refine u2z ?_ ?_
  ·intro e1 qe1
   refine .c7 [2] ?_
   refine .z ?_
   exact .ret (.ex (hf := by first | rfl | first | exact MB | exact frz_2) (hq := t81))
  intro e1 qe1
  refine .sk ?_
  refine c170z ?_
  exact .ret (.ex (hf := by first | rfl | first | exact MB | exact frz_2) (hq := t81))
def OW (x : Ins) : AV := if x.op = 8 then .iface 180 (.agg []) else if x.op = 7 then .iface 182 (.agg [.int .i64 x.target]) else if x.op = 6 then .iface 183 (.agg [.int .i64 x.target]) else .iface 184 (.agg [])
variable {x : Ins}
theorem OX (h : x.op = 8) : OW x = .iface 180 (.agg []) := if_pos h
theorem OY (h : x.op = 7) : OW x = .iface 182 (.agg [.int .i64 x.target]) := by rw [OW, if_neg (by omega), if_pos h]
theorem ET (h : x.op = 6) : OW x = .iface 183 (.agg [.int .i64 x.target]) := by rw [OW, if_neg (by omega), if_neg (by omega), if_pos h]
theorem OZ (h8 : ¬ x.op = 8) (h7 : ¬ x.op = 7) (h6 : ¬ x.op = 6) : OW x = .iface 184 (.agg []) := by rw [OW, if_neg h8, if_neg h7, if_neg h6]
theorem EU (x : Ins) : CB 97 [.agg [.int .i64 x.op, .int .i64 x.target, .bool x.global, .int .i64 x.e.op, .int .i64 x.e.num, .str x.e.name, .vec x.e.args.length (l6 x.e.args), .bool x.pl.param, .int .i64 x.pl.index, .vec x.pl.at'.length (l6 x.pl.at'), .vec x.ints.length (l6 x.ints), .vec x.v5.length (cK x.v5)]] h (OW x) := by
  refine .bz Tryz.f97 23 ?_
  refine c55z ?_
  refine .z ?_
  refine u2z ?_ ?_
  ·intro e1 qe1
   refine .z ?_
   exact .ret (.ex (hq := t59))
  intro e1 qe1
  refine .z ?_
  refine u2z ?_ ?_
  ·intro e2 qe2
   refine c230z ?_
   exact .ret (.ex (hq := t59))
  intro e2 qe2
  refine .z ?_
  refine u2z ?_ ?_
  ·intro e3 qe3
   refine c230z ?_
   exact .ret (.ex (hq := t59))
  intro e3 qe3
  refine c6z ?_
  refine c20z ?_
  exact .ret (.ex (hq := t59))
theorem c_next8 (hu : WU u) (w : WIt u it) (hpc : pc < (c8 u it).length) (ho : ((c8 u it).getD pc g5).op = 8) : CB 72 [.agg [.vec u.globals.length (j4 u.globals), .vec u.c4.length (g9 u.c4), .vec u.procs.length (m7 u.procs), .int .i64 u.main], .agg [.int .i64 it.proc, .vec it.j0.length (j4 it.j0)], .int .i64 ((pc : Nat) : Int)] h (kE ((c8 u it).getD pc g5) pc) := by
  refine .bz Tryz.f72 16 ?_
  have w1 := w.lo
  have w2 := w.hi
  have hsz : (c8 u it).length ≤ 1664 := v7 hu w
  refine .z ?_
  refine c98z ?_
  refine .ca rfl rfl ((EU ((c8 u it).getD pc g5)).mono fun y k hq => ⟨hq.1.trans (OX ho), hq.2⟩) ?_
  refine .n ?_
  refine c200z ?_
  refine l8.cq rfl (iM rfl rfl V5) hb145 (c_ended pc) ?_
  refine .n ?_
  exact .ret (.ex (hq := by (exact (EK ho).symm)))
theorem c_next7 (hu : WU u) (w : WIt u it) (hpc : pc < (c8 u it).length) (ho : ((c8 u it).getD pc g5).op = 7) : CB 72 [.agg [.vec u.globals.length (j4 u.globals), .vec u.c4.length (g9 u.c4), .vec u.procs.length (m7 u.procs), .int .i64 u.main], .agg [.int .i64 it.proc, .vec it.j0.length (j4 it.j0)], .int .i64 ((pc : Nat) : Int)] h (kE ((c8 u it).getD pc g5) pc) := by
  refine .bz Tryz.f72 16 ?_
  have w1 := w.lo
  have w2 := w.hi
  have hsz : (c8 u it).length ≤ 1664 := v7 hu w
  refine .z ?_
  refine c98z ?_
  refine .ca rfl rfl ((EU ((c8 u it).getD pc g5)).mono fun y k hq => ⟨hq.1.trans (OY ho), hq.2⟩) ?_
  refine .n ?_
  refine c200z ?_
  refine l8.cq rfl (iM rfl rfl EO) hb146 (c_jump pc _) ?_
  refine .n ?_
  exact .ret (.ex (hq := by (exact (EL ho).symm)))
theorem MD (hu : WU u) (w : WIt u it) (hpc : pc < (c8 u it).length) (ho : ((c8 u it).getD pc g5).op = 6) (ht : ((c8 u it).getD pc g5).target = (pc : Int) + 1) : CB 72 [.agg [.vec u.globals.length (j4 u.globals), .vec u.c4.length (g9 u.c4), .vec u.procs.length (m7 u.procs), .int .i64 u.main], .agg [.int .i64 it.proc, .vec it.j0.length (j4 it.j0)], .int .i64 ((pc : Nat) : Int)] h (kE ((c8 u it).getD pc g5) pc) := by
  refine .bz Tryz.f72 16 ?_
  have w1 := w.lo
  have w2 := w.hi
  have hsz : (c8 u it).length ≤ 1664 := v7 hu w
  refine .z ?_
  refine c98z ?_
  refine .ca rfl rfl ((EU ((c8 u it).getD pc g5)).mono fun y k hq => ⟨hq.1.trans (ET ho), hq.2⟩) ?_
  refine .n ?_
  refine c200z ?_
  refine l8.cq rfl (iM rfl rfl tB) hb147 ((O6 pc _ (by omega)).mono fun y k hq => ⟨hq.1.trans (if_pos ht), hq.2⟩) ?_
  refine .n ?_
  exact .ret (.ex (hq := by (exact (O5 ho ht).symm)))
theorem c_next6 (hu : WU u) (w : WIt u it) (hpc : pc < (c8 u it).length) (ho : ((c8 u it).getD pc g5).op = 6) (ht : ¬ ((c8 u it).getD pc g5).target = (pc : Int) + 1) : CB 72 [.agg [.vec u.globals.length (j4 u.globals), .vec u.c4.length (g9 u.c4), .vec u.procs.length (m7 u.procs), .int .i64 u.main], .agg [.int .i64 it.proc, .vec it.j0.length (j4 it.j0)], .int .i64 ((pc : Nat) : Int)] h (kE ((c8 u it).getD pc g5) pc) := by
  refine .bz Tryz.f72 16 ?_
  have w1 := w.lo
  have w2 := w.hi
  have hsz : (c8 u it).length ≤ 1664 := v7 hu w
  refine .z ?_
  refine c98z ?_
  refine .ca rfl rfl ((EU ((c8 u it).getD pc g5)).mono fun y k hq => ⟨hq.1.trans (ET ho), hq.2⟩) ?_
  refine .n ?_
  refine c200z ?_
  refine l8.cq rfl (iM rfl rfl tB) hb147 ((O6 pc _ (by omega)).mono fun y k hq => ⟨hq.1.trans (if_neg ht), hq.2⟩) ?_
  refine .n ?_
  exact .ret (.ex (hq := by (exact (EM ho ht).symm)))
theorem c_nextn (hu : WU u) (w : WIt u it) (hpc : pc < (c8 u it).length) (h8 : ¬ ((c8 u it).getD pc g5).op = 8) (h7 : ¬ ((c8 u it).getD pc g5).op = 7) (h6 : ¬ ((c8 u it).getD pc g5).op = 6) : CB 72 [.agg [.vec u.globals.length (j4 u.globals), .vec u.c4.length (g9 u.c4), .vec u.procs.length (m7 u.procs), .int .i64 u.main], .agg [.int .i64 it.proc, .vec it.j0.length (j4 it.j0)], .int .i64 ((pc : Nat) : Int)] h (kE ((c8 u it).getD pc g5) pc) := by
  refine .bz Tryz.f72 16 ?_
  have w1 := w.lo
  have w2 := w.hi
  have hsz : (c8 u it).length ≤ 1664 := v7 hu w
  refine .z ?_
  refine c98z ?_
  refine .ca rfl rfl ((EU ((c8 u it).getD pc g5)).mono fun y k hq => ⟨hq.1.trans (OZ h8 h7 h6), hq.2⟩) ?_
  refine .n ?_
  refine c200z ?_
  refine l8.cq rfl (iM rfl rfl zZ) hb148 (ES pc (by omega)) ?_
  refine .n ?_
  exact .ret (.ex (hq := by (exact (EN h8 h7 h6).symm)))
theorem c_nextF (hu : WU u) (w : WIt u it) (hpc : pc < (c8 u it).length) : CB 72 [.agg [.vec u.globals.length (j4 u.globals), .vec u.c4.length (g9 u.c4), .vec u.procs.length (m7 u.procs), .int .i64 u.main], .agg [.int .i64 it.proc, .vec it.j0.length (j4 it.j0)], .int .i64 ((pc : Nat) : Int)] h (kE ((c8 u it).getD pc g5) pc) := by
  by_cases h8 : ((c8 u it).getD pc g5).op = 8
  · exact c_next8 hu w hpc h8
  by_cases h7 : ((c8 u it).getD pc g5).op = 7
  · exact c_next7 hu w hpc h7
  by_cases h6 : ((c8 u it).getD pc g5).op = 6
  · by_cases ht : ((c8 u it).getD pc g5).target = (pc : Int) + 1
    · exact MD hu w hpc h6 ht
    · exact c_next6 hu w hpc h6 ht
  exact c_nextn hu w hpc h8 h7 h6
variable {t : Int}
theorem kW_1 (h : a < t) : kW [a] t = 1 := by simp [kW, List.takeWhile, h]
theorem kW_0 (h : ¬ a < t) : kW [a] t = 0 := by simp [kW, List.takeWhile, h]
theorem EV (h : x.op = 6) : AV.vec (iB [(pc : Int) + 1] x.target).length (j4 (iB [(pc : Int) + 1] x.target)) = kE x pc := by
  by_cases h2 : x.target = (pc : Int) + 1
  · rw [O5 h h2, iB, if_pos (by simp [h2])]; rw [h2]; rfl
  · rw [EM h h2, iB, if_neg t93]
    by_cases h3 : (pc : Int) + 1 < x.target
    · rw [kW_1 h3, show min x.target ((pc : Int) + 1) = (pc : Int) + 1 from by omega, show max x.target ((pc : Int) + 1) = x.target from by omega]; rfl
    · rw [kW_0 h3, show min x.target ((pc : Int) + 1) = x.target from by omega, show max x.target ((pc : Int) + 1) = (pc : Int) + 1 from by omega]; rfl
theorem c_with1 {b1 b2 : Blk} : CH 55 [.own (h.length + 3) g 0 1, .int .i64 t] (h ++ [b0, b1, b2, ⟨g, false, 3, 1, [.int .i64 a], 0⟩]) (.vec (iB [a] t).length (j4 (iB [a] t))) (h ++ [b0, b1, b2, ⟨g, false, 3, 1, [.int .i64 a], 1⟩]) := by
  refine CallA.AK (β := h.length + 3) (off := 0) (len := 1) (b := ⟨g, false, 3, 1, [.int .i64 a], 0⟩) (cs := j4 [a]) (args' := [.vec 1 (j4 [a]), .int .i64 t]) t36 rfl (by simp) rfl ⟨.inr ⟨rfl, rfl⟩, .inl rfl, trivial⟩ ?_
  rw [p9]
  exact DZ (h := h ++ [b0, b1, b2, ⟨g, false, 3, 1, [.int .i64 a], 1⟩]) [a] t (by simp)
theorem c_nextR (hu : WU u) (w : WIt u it) (hpc : pc < (c8 u it).length) : CB 44 [.agg [.vec u.globals.length (j4 u.globals), .vec u.c4.length (g9 u.c4), .vec u.procs.length (m7 u.procs), .int .i64 u.main], .agg [.int .i64 it.proc, .vec it.j0.length (j4 it.j0)], .int .i64 ((pc : Nat) : Int)] h (kE ((c8 u it).getD pc g5) pc) := by
  refine .bz Tryz.f44 38 ?_
  have w1 := w.lo
  have w2 := w.hi
  have hsz : (c8 u it).length ≤ 1664 := v7 hu w
  refine .z ?_
  refine c69z ?_
  refine c41z ?_
  refine .c7 [2, 7] ?_
  refine c22z ?_
  refine .z ?_
  refine u2z ?_ ?_
  ·intro e1 qe1
   refine .z ?_
   exact .ret (.ex (hf := t164) (hq := t60))
  intro e1 qe1
  refine .z ?_
  refine u2z ?_ ?_
  ·intro e2 qe2
   refine .z ?_
   exact .ret (.ex (hf := t164) (hq := t60))
  intro e2 qe2
  refine .z ?_
  refine u2z ?_ ?_
  ·intro e3 qe3
   refine .c7 [2, 7] ?_
   refine c24z ?_
   refine .ch rfl rfl (c_with1) ?_
   refine .n ?_
   exact .ret (.ex (hf := t164) (hq := t60))
  intro e3 qe3
  refine c6z ?_
  refine .c7 [2] ?_
  refine .z ?_
  exact .ret (.ex (hf := t164) (hq := t60))
end Go.Proofs.YtfbjlfhjkojmkaaGreat
end
section
namespace Go.Un
open Go.Ab
def aA (n : Nat) : AV := .int .i64 (n : Int)
def cR (l : List Nat) : AV := .vec l.length (l.map aA)
variable {i : Nat}
theorem tD {l : List Nat} (h : i < l.length) : List.take 1 (List.drop i (l.map aA)) = [AV.int .i64 ((l.getD i 0 : Nat) : Int)] := by
 rw [← List.map_drop, ← List.map_take, List.drop_eq_getElem_cons h, List.take_succ_cons, List.take_zero]
 simp [List.getD, h, aA]
theorem PA {l : List Nat} {v : Nat} (h : i < l.length) : List.take i (l.map aA) ++ AV.int .i64 (v : Int) :: List.drop (i + 1) (l.map aA) = (l.set i v).map aA := by
 rw [← List.map_drop, ← List.map_take, List.set_eq_take_append_cons_drop, if_pos h]
 simp [aA]
theorem tE (n : Nat) : (List.replicate n [AV.int .i64 0]).flatten = (List.replicate n (0 : Nat)).map aA := by
 induction n with
 | zero => rfl
 | succ n ih => simp [List.replicate_succ, ih, aA]
theorem i64_63 (n : Int) (h0 : 0 ≤ n) (h1 : n < 2 ^ 63) : IntKind.wrap .i64 n = n := wrap64 (by omega) (by omega)
variable {a b : Nat}
theorem orN (ha : a < 512) (hb : b < 512) : bits .or .i64 (a : Int) (b : Int) = ((a ||| b : Nat) : Int) := (bits_nat .i64 63 (by decide) i64_63 a b (by omega) (by omega)).2
def dhV (k : Nat) (n : Int) (d : Nat) : Nat := if 0 ≤ (d : Int) + n ∧ (d : Int) + n ≤ k then 2 ^ ((d : Int) + n).toNat else 0
def dhN (k : Nat) (n : Int) : List Nat := (List.range (k + 1)).map (dhV k n)
def hasD (s : Nat) (d : Int) : Bool := decide (0 ≤ d ∧ d ≤ 8) && s.testBit d.toNat
theorem testAll : ((List.range 9).all fun m => (List.range 512).all fun s => (bits .and .i64 ((s : Int).fdiv (2 ^ (min m 64))) 1 == 1) == s.testBit m) = true := by kernel_rfl
variable {s : Nat}
theorem testN {m : Nat} (hm : m ≤ 8) (hs : s < 512) : (bits .and .i64 ((s : Int).fdiv (2 ^ (min m 64))) 1 == 1) = s.testBit m := by
 have h1 := List.all_eq_true.1 testAll m (List.mem_range.2 (by omega))
 have h2 := List.all_eq_true.1 h1 s (List.mem_range.2 hs)
 simpa using h2
theorem hasN (hi : i ≤ 8) : hasD s (i : Int) = s.testBit i := by
 have : 0 ≤ (i : Int) ∧ (i : Int) ≤ 8 := by omega
 simp [hasD, this]
def bM (r : List Nat) (s : Nat) : Nat → Nat
 | 0 => 0
 | i + 1 => if s.testBit i then bM r s i ||| r.getD i 0 else bM r s i
def applyN (r : List Nat) (s : Nat) : Nat := bM r s r.length
def o1 (a b : List Nat) : List Nat := (List.range a.length).map fun d => applyN b (a.getD d 0)
def cN (a b : List Nat) : List Nat := (List.range a.length).map fun d => a.getD d 0 ||| b.getD d 0
def tF (a b : List Nat) : Prop := ∀ d, d < a.length → bits .andNot .i64 ((a.getD d 0 : Nat) : Int) ((b.getD d 0 : Nat) : Int) = 0
instance (a b : List Nat) : Decidable (tF a b) := by unfold tF; exact inferInstance
variable {r : List Nat}
theorem eK (hr : ∀ x ∈ r, x < 512) (i : Nat) : r.getD i 0 < 512 := by
 rw [List.getD_eq_getElem?_getD]
 cases h : r[i]? with
 | none => simp
 | some x => exact hr x (List.mem_of_getElem? h)
theorem or_lt (ha : a < 512) (hb : b < 512) : a ||| b < 512 := Nat.or_lt_two_pow (n := 9) ha hb
theorem lN {r : List Nat} (hr : ∀ x ∈ r, x < 512) (s : Nat) : ∀ i, bM r s i < 512
 | 0 => by simp [bM]
 | i + 1 => by
  unfold bM
  split
  ·exact or_lt (lN hr s i) (eK hr i)
  ·exact lN hr s i
theorem PB (h : s.testBit i = true) : bM r s (i + 1) = bM r s i ||| r.getD i 0 := by rw [bM, if_pos h]
theorem PC (h : s.testBit i = false) : bM r s (i + 1) = bM r s i := by rw [bM, if_neg (by simp [h])]
def tG (x m : Int) : Nat := (within x m).toNat
theorem PD {k : Nat} (hk : k ≤ 8) : 0 < 2 ^ (k + 1) ∧ 2 ^ (k + 1) ≤ 512 := by
 have : k = 0 ∨ k = 1 ∨ k = 2 ∨ k = 3 ∨ k = 4 ∨ k = 5 ∨ k = 6 ∨ k = 7 ∨ k = 8 := by omega
 rcases this with rfl | rfl | rfl | rfl | rfl | rfl | rfl | rfl | rfl <;> decide
def WB (l : List Int) (k d : Nat) : Nat := if d < l.length then tG (l.getD d 0) ((2 ^ (k + 1) : Nat) : Int) else 0
def X3 (l : List Int) (k : Nat) : List Nat := (List.range (k + 1)).map (WB l k)
theorem tH {r : List Nat} {s j : Nat} : ∀ {i : Nat}, (bM r s i).testBit j = true ↔ ∃ d, d < i ∧ s.testBit d = true ∧ (r.getD d 0).testBit j = true
 | 0 => by simp [bM]
 | i + 1 => by
  have ih := tH (r := r) (s := s) (j := j) (i := i)
  by_cases h : s.testBit i = true
  ·rw [PB h, Nat.testBit_or, Bool.or_eq_true, ih]
   constructor
   ·rintro (⟨d, h1, h2⟩ | h1)
    ·exact ⟨d, by omega, h2⟩
    ·exact ⟨i, by omega, h, h1⟩
   ·rintro ⟨d, h1, h2, h3⟩
    by_cases e : d = i
    ·subst e; exact .inr h3
    ·exact .inl ⟨d, by omega, h2, h3⟩
  ·rw [PC t166, ih]
   constructor
   ·rintro ⟨d, h1, h2⟩; exact ⟨d, by omega, h2⟩
   ·rintro ⟨d, h1, h2, h3⟩
    by_cases e : d = i
    ·subst e; exact absurd h2 h
    ·exact ⟨d, by omega, h2, h3⟩
theorem V6 {j : Nat} : (applyN r s).testBit j = true ↔ ∃ d, d < r.length ∧ s.testBit d = true ∧ (r.getD d 0).testBit j = true := tH
theorem EW (h : ∀ j, a.testBit j = true ↔ b.testBit j = true) : a = b := Nat.eq_of_testBit_eq fun j => Bool.eq_iff_iff.2 (h j)
variable {n d : Nat}
theorem nW {f : Nat → Nat} (hd : d < n) : ((List.range n).map f).getD d 0 = f d := by simp [List.getD, hd]
theorem tI (a b : List Nat) : (o1 a b).length = a.length := by simp [o1]
theorem nX (a b : List Nat) : (cN a b).length = a.length := by simp [cN]
theorem EX (l : List Int) (k : Nat) : (X3 l k).length = k + 1 := by simp [X3]
theorem F6 {a b : List Nat} (hd : d < a.length) : (o1 a b).getD d 0 = applyN b (a.getD d 0) := nW hd
theorem EY {a b : List Nat} (hd : d < a.length) : (cN a b).getD d 0 = a.getD d 0 ||| b.getD d 0 := nW hd
theorem V7 (x : Int) {k : Nat} : tG x ((2 ^ (k + 1) : Nat) : Int) < 2 ^ (k + 1) := by
 have hp : 0 < 2 ^ (k + 1) := Nat.two_pow_pos _
 have h1 := @nI x ((2 ^ (k + 1) : Nat) : Int) (by exact_mod_cast hp)
 have h2 := @sJ x ((2 ^ (k + 1) : Nat) : Int) (by exact_mod_cast hp)
 unfold tG
 exact (Int.toNat_lt h1).2 h2
theorem relV_lt (l : List Int) (k d : Nat) : WB l k d < 2 ^ (k + 1) := by
 unfold WB
 split
 ·exact V7 _
 ·exact Nat.two_pow_pos _
theorem map_ext {f g : Nat → Nat} (h : ∀ d, d < n → f d = g d) : (List.range n).map f = (List.range n).map g := dJ fun d hd => h d (List.mem_range.1 hd)
theorem V8 {x j : Nat} (h : x < 2 ^ n) (hj : x.testBit j = true) : j < n := by
 rcases Nat.lt_or_ge j n with h' | h'
 ·exact h'
 ·rw [Nat.testBit_lt_two_pow (Nat.lt_of_lt_of_le h (Nat.pow_le_pow_right (by decide) h'))] at hj
  cases hj
theorem qA (l : List Int) (k : Nat) : X3 l k = (List.range (X3 l k).length).map fun d => (X3 l k).getD d 0 := by
 rw [EX]
 exact map_ext fun d hd => by rw [X3, nW hd]
theorem EZ (ha : a < 512) (hb : b < 512) : bits .andNot .i64 (a : Int) (b : Int) = 0 ↔ ∀ j, a.testBit j = true → b.testBit j = true := by
 have e1 : ∀ n : Nat, BitVec.ofInt 64 (n : Int) = BitVec.ofNat 64 n := fun n => BitVec.ofInt_natCast _ _
 have e2 : bits .andNot .i64 (a : Int) (b : Int) = IntKind.wrap .i64 (((BitVec.ofNat 64 a &&& ~~~ BitVec.ofNat 64 b).toNat : Nat) : Int) := by
  show IntKind.wrap .i64 (((BitVec.ofInt 64 (a : Int) &&& ~~~ BitVec.ofInt 64 (b : Int)).toNat : Nat) : Int) = _
  rw [e1, e1]
 have hn : (BitVec.ofNat 64 a &&& ~~~ BitVec.ofNat 64 b).toNat ≤ a := by
  rw [BitVec.toNat_and]
  refine Nat.le_trans Nat.and_le_left ?_
  rw [BitVec.toNat_ofNat]
  exact Nat.mod_le _ _
 have ht : ∀ j, (BitVec.ofNat 64 a &&& ~~~ BitVec.ofNat 64 b).toNat.testBit j = (a.testBit j && !b.testBit j) := fun j => by
  rw [BitVec.testBit_toNat, BitVec.getLsbD_and, BitVec.getLsbD_not, BitVec.getLsbD_ofNat, BitVec.getLsbD_ofNat]
  by_cases hj : j < 64
  ·simp [hj]
  ·rw [Nat.testBit_lt_two_pow (x := a) (Nat.lt_of_lt_of_le ha (Nat.le_trans (show 512 ≤ 2 ^ 9 from by decide) (Nat.pow_le_pow_right (by decide) (by omega))))]
   simp
 rw [e2, wrap64 (by omega) (by omega)]
 constructor
 ·intro h j hj
  have h0 : (BitVec.ofNat 64 a &&& ~~~ BitVec.ofNat 64 b).toNat = 0 := by omega
  have := ht j
  rw [h0, Nat.zero_testBit, hj] at this
  simpa using this.symm
 ·intro h
  have : (BitVec.ofNat 64 a &&& ~~~ BitVec.ofNat 64 b).toNat = 0 := by
   refine Nat.eq_of_testBit_eq fun j => ?_
   rw [ht, Nat.zero_testBit]
   cases hj : a.testBit j with
   | false => rfl
   | true => rw [h j hj]; rfl
  omega
theorem within_iff {x y : List Nat} (hx : ∀ v ∈ x, v < 512) (hy : ∀ v ∈ y, v < 512) : tF x y ↔ ∀ d, d < x.length → ∀ j, (x.getD d 0).testBit j = true → (y.getD d 0).testBit j = true :=
 ⟨fun h d hd => (EZ (eK hx d) (eK hy d)).1 (h d hd), fun h d hd => (EZ (eK hx d) (eK hy d)).2 (h d hd)⟩
def Rl (k : Nat) (r : List Nat) : Prop := r.length = k + 1 ∧ ∀ x ∈ r, x < 2 ^ (k + 1)
variable {k : Nat} {r : List Nat}
theorem Rl.lt (hk : k ≤ 8) (h : Rl k r) : ∀ x ∈ r, x < 512 := fun x hx => Nat.lt_of_lt_of_le (h.2 x hx) (PD hk).2
variable {n : Nat}
theorem rB (hr : ∀ x ∈ r, x < 2 ^ n) (i : Nat) : r.getD i 0 < 2 ^ n := by
 rw [List.getD_eq_getElem?_getD]
 cases h : r[i]? with
 | none => simp; exact Nat.two_pow_pos n
 | some x => exact hr x (List.mem_of_getElem? h)
def bt (r : List Nat) (d e : Nat) : Bool := (r.getD d 0).testBit e
variable {d e : Nat}
theorem ME (h : Rl k r) (hb : bt r d e = true) : d ≤ k ∧ e ≤ k := by
 unfold bt at hb
 refine ⟨?_, ?_⟩
 ·by_cases hd : d < r.length
  ·have := h.1; omega
  ·rw [List.getD_eq_getElem?_getD, List.getElem?_eq_none (by omega)] at hb
   simp at hb
 ·have := V8 (rB h.2 d) hb
  omega
def Sub (a b : List Nat) : Prop := ∀ d e, bt a d e = true → bt b d e = true
theorem Sub.refl (a : List Nat) : Sub a a := fun _ _ h => h
variable {a b : List Nat}
theorem Sub.trans {c : List Nat} (h1 : Sub a b) (h2 : Sub b c) : Sub a c := fun d e h => h2 d e (h1 d e h)
theorem rl_ext (ha : Rl k a) (hb : Rl k b) (h : ∀ d e, bt a d e = true ↔ bt b d e = true) : a = b := by
 refine List.ext_getElem (by rw [ha.1, hb.1]) fun d k1 k2 => ?_
 have := EW (a := a.getD d 0) (b := b.getD d 0) fun j => h d j
 simpa [List.getD, k1, k2] using this
theorem Sub.anti (ha : Rl k a) (hb : Rl k b) (h1 : Sub a b) (h2 : Sub b a) : a = b := rl_ext ha hb fun d e => ⟨h1 d e, h2 d e⟩
theorem FA (hk : k ≤ 8) (ha : Rl k a) (hb : Rl k b) : tF a b ↔ Sub a b := by
 rw [within_iff (ha.lt hk) (hb.lt hk)]
 exact ⟨fun h d e hd => h d (by have := (ME ha hd).1; have := ha.1; omega) e hd, fun h d _ e he => h d e he⟩
theorem xL (ha : Rl k a) (hb : Rl k b) : bt (cN a b) d e = true ↔ bt a d e = true ∨ bt b d e = true := by
 by_cases hd : d < a.length
 ·unfold bt
  rw [EY hd, Nat.testBit_or, Bool.or_eq_true]
 ·have h1 := ha.1
  have h2 := hb.1
  unfold bt
  simp only [List.getD_eq_getElem?_getD]
  rw [List.getElem?_eq_none (l := cN a b) (by rw [nX]; omega), List.getElem?_eq_none (l := a) (by omega), List.getElem?_eq_none (l := b) (by omega)]
  simp
theorem iN (ha : Rl k a) (hb : Rl k b) : bt (o1 a b) d e = true ↔ ∃ f, bt a d f = true ∧ bt b f e = true := by
 by_cases hd : d < a.length
 ·unfold bt
  rw [F6 hd, V6]
  constructor
  ·rintro ⟨f, _, h1, h2⟩; exact ⟨f, h1, h2⟩
  ·rintro ⟨f, h1, h2⟩; exact ⟨f, by have := (ME hb h2).1; have := hb.1; omega, h1, h2⟩
 ·have h0 : bt (o1 a b) d e = false := by
   unfold bt
   rw [List.getD_eq_getElem?_getD, List.getElem?_eq_none (by rw [tI]; omega)]
   simp
  rw [h0]
  constructor
  ·intro h; cases h
  ·rintro ⟨f, h1, _⟩; have := (ME ha h1).1; have := ha.1; omega
theorem rC (ha : Rl k a) (hb : Rl k b) : Rl k (cN a b) := by
 refine ⟨by rw [nX]; exact ha.1, fun x hx => ?_⟩
 obtain ⟨d, _, rfl⟩ := List.mem_map.1 hx
 exact Nat.or_lt_two_pow (rB ha.2 d) (rB hb.2 d)
theorem tJ {r : List Nat} {n : Nat} (hr : ∀ x ∈ r, x < 2 ^ n) (s : Nat) : ∀ i, bM r s i < 2 ^ n
 | 0 => by simp [bM]; exact Nat.two_pow_pos n
 | i + 1 => by
  unfold bM
  split
  ·exact Nat.or_lt_two_pow (tJ hr s i) (rB hr i)
  ·exact tJ hr s i
theorem V9 (ha : Rl k a) (hb : Rl k b) : Rl k (o1 a b) := by
 refine ⟨by rw [tI]; exact ha.1, fun x hx => ?_⟩
 obtain ⟨d, _, rfl⟩ := List.mem_map.1 hx
 exact tJ hb.2 _ _
theorem FB : bt (List.replicate n 0) d e = false := by
 unfold bt
 rw [List.getD_eq_getElem?_getD, List.getElem?_replicate]
 split <;> simp
theorem rl_zero (k : Nat) : Rl k (List.replicate (k + 1) 0) := ⟨by simp, fun x hx => by rw [List.eq_of_mem_replicate hx]; exact Nat.two_pow_pos _⟩
theorem rl_dh (k : Nat) (n : Int) : Rl k (dhN k n) := by
 refine ⟨by simp [dhN], fun x hx => ?_⟩
 obtain ⟨d, _, rfl⟩ := List.mem_map.1 hx
 unfold dhV
 split
 ·exact Nat.pow_lt_pow_right (by decide) (by omega)
 ·exact Nat.two_pow_pos _
theorem bt_dh {n : Int} : bt (dhN k n) d e = true ↔ d ≤ k ∧ e ≤ k ∧ (d : Int) + n = e := by
 unfold bt
 by_cases hd : d < k + 1
 ·rw [dhN, nW hd, dhV]
  split
  ·rw [Nat.testBit_two_pow]
   simp only [decide_eq_true_eq]
   omega
  ·simp only [Nat.zero_testBit, Bool.false_eq_true, false_iff]
   omega
 ·rw [List.getD_eq_getElem?_getD, List.getElem?_eq_none (by simp [dhN]; omega)]
  simp
  omega
noncomputable def nY (p : Nat → Prop) : Nat → Nat
 | 0 => 0
 | j + 1 => @ite _ (p j) (Classical.propDecidable _) (nY p j ||| 2 ^ j) (nY p j)
theorem uV {p : Nat → Prop} {j : Nat} : ∀ {n : Nat}, (nY p n).testBit j = true ↔ j < n ∧ p j
 | 0 => by simp [nY]
 | n + 1 => by
  have ih := uV (p := p) (j := j) (n := n)
  rw [nY]
  split
  ·rename_i h
   rw [Nat.testBit_or, Bool.or_eq_true, ih, Nat.testBit_two_pow]
   simp only [decide_eq_true_eq]
   constructor
   ·rintro (⟨h1, h2⟩ | rfl)
    ·exact ⟨by omega, h2⟩
    ·exact ⟨by omega, h⟩
   ·rintro ⟨h1, h2⟩
    by_cases e : n = j
    ·exact .inr e
    ·exact .inl ⟨by omega, h2⟩
  ·rename_i h
   rw [ih]
   constructor
   ·rintro ⟨h1, h2⟩; exact ⟨by omega, h2⟩
   ·rintro ⟨h1, h2⟩
    refine ⟨?_, h2⟩
    by_cases e : j = n
    ·subst e; exact absurd h2 h
    ·omega
theorem A0 {p : Nat → Prop} : ∀ n : Nat, nY p n < 2 ^ n
 | 0 => by simp [nY]
 | n + 1 => by
  have ih := A0 (p := p) n
  have h2 : 2 ^ n < 2 ^ (n + 1) := Nat.pow_lt_pow_right (by decide) (by omega)
  rw [nY]
  split
  ·exact Nat.or_lt_two_pow (by omega) h2
  ·omega
noncomputable def F7 (k : Nat) (p : Nat → Nat → Prop) : List Nat := (List.range (k + 1)).map fun d => nY (p d) (k + 1)
theorem MF (k : Nat) (p : Nat → Nat → Prop) : Rl k (F7 k p) := by
 refine ⟨by simp [F7], fun x hx => ?_⟩
 obtain ⟨d, _, rfl⟩ := List.mem_map.1 hx
 exact A0 _
theorem MG {p : Nat → Nat → Prop} : bt (F7 k p) d e = true ↔ d ≤ k ∧ e ≤ k ∧ p d e := by
 unfold bt
 by_cases hd : d < k + 1
 ·rw [F7, nW hd, uV]
  constructor
  ·rintro ⟨h1, h2⟩; exact ⟨by omega, by omega, h2⟩
  ·rintro ⟨_, h1, h2⟩; exact ⟨by omega, h2⟩
 ·rw [List.getD_eq_getElem?_getD, List.getElem?_eq_none (by simp [F7]; omega)]
  simp
  omega
def Tb (k n : Nat) (T : List (List Nat)) : Prop := T.length = n ∧ ∀ r ∈ T, Rl k r
variable {T : List (List Nat)} {i : Nat}
theorem Tb.get (h : Tb k n T) (hi : i < n) : Rl k (T.getD i []) := by
 rw [List.getD_eq_getElem?_getD, List.getElem?_eq_getElem (by rw [h.1]; exact hi)]
 exact h.2 _ (List.getElem_mem _)
theorem Tb.set (h : Tb k n T) (hr : Rl k r) : Tb k n (T.set i r) := by
 refine ⟨by rw [List.length_set]; exact h.1, fun x hx => ?_⟩
 rcases List.mem_or_eq_of_mem_set hx with hx | rfl
 ·exact h.2 x hx
 ·exact hr
theorem eX {j : Nat} (hi : i < T.length) : (T.set i r).getD j [] = if j = i then r else T.getD j [] := by
 simp only [List.getD_eq_getElem?_getD]
 by_cases h : j = i
 ·subst h; simp [hi]
 ·rw [List.getElem?_set_ne (Ne.symm h), if_neg h]
def FC (A B : List (List Nat)) : Prop := ∀ i, Sub (A.getD i []) (B.getD i [])
theorem FC.anti {A B : List (List Nat)} (ha : Tb k n A) (hb : Tb k n B) (h1 : FC A B) (h2 : FC B A) : A = B := by
 refine List.ext_getElem (by rw [ha.1, hb.1]) fun d k1 k2 => ?_
 have e1 := h1 d
 have e2 := h2 d
 have := Sub.anti (ha.get (i := d) (by rw [← ha.1]; exact k1)) (hb.get (i := d) (by rw [← hb.1]; exact k2)) e1 e2
 simpa [List.getD, k1, k2] using this
theorem sub_nil (b : List Nat) : Sub [] b := fun d e h => by simp [bt] at h
theorem subT_of {A B : List (List Nat)} (ha : Tb k n A) (h : ∀ i, i < n → Sub (A.getD i []) (B.getD i [])) : FC A B := fun i => by
 by_cases hi : i < n
 ·exact h i hi
 ·rw [List.getD_eq_getElem?_getD, List.getElem?_eq_none (by rw [ha.1]; omega)]
  exact sub_nil _
def tot (T : List (List Nat)) : Nat := (T.map List.sum).sum
theorem pB {c : Nat} : ∀ {l : List Nat}, (∀ x ∈ l, x ≤ c) → l.sum ≤ c * l.length
 | [], _ => by simp
 | x :: l, h => by
  have h1 := h x (by simp)
  have h2 := pB (l := l) fun y hy => h y (by simp [hy])
  simp only [List.sum_cons, List.length_cons, Nat.mul_succ]
  omega
theorem rl_sum (hk : k ≤ 8) (h : Rl k r) : r.sum ≤ 512 * 9 := by
 refine Nat.le_trans (pB (c := 512) fun x hx => Nat.le_of_lt (h.lt hk x hx)) ?_
 rw [h.1]
 exact Nat.mul_le_mul_left _ (by omega)
theorem FD (hk : k ≤ 8) (h : Tb k n T) : tot T ≤ 4608 * n := by
 unfold tot
 refine Nat.le_trans (pB (c := 4608) fun x hx => ?_) ?_
 ·obtain ⟨r, hr, rfl⟩ := List.mem_map.1 hx
  exact rl_sum hk (h.2 r hr)
 ·rw [List.length_map, h.1]; exact Nat.le_refl _
theorem tK : ∀ {l : List Nat} {i x : Nat}, i < l.length → (l.set i x).sum + l.getD i 0 = l.sum + x
 | y :: l, 0, x, _ => by simp [List.getD]; omega
 | y :: l, i + 1, x, h => by
  have := tK (l := l) (i := i) (x := x) t166
  simp only [List.set_cons_succ, List.sum_cons, List.getD_cons_succ]
  omega
theorem F8 : (T.map List.sum).getD i 0 = (T.getD i []).sum := by
 simp only [List.getD_eq_getElem?_getD, List.getElem?_map]
 cases T[i]? <;> simp
theorem tot_set (hi : i < T.length) : tot (T.set i r) + (T.getD i []).sum = tot T + r.sum := by
 unfold tot
 rw [List.map_set, ← F8]
 exact tK (by simpa using hi)
theorem O7 : ∀ {a b : List Nat}, a.length = b.length → (∀ d, a.getD d 0 ≤ b.getD d 0) → a.sum ≤ b.sum ∧ (a ≠ b → a.sum < b.sum)
 | [], [], _, _ => by simp
 | x :: a, y :: b, hl, h => by
  have h0 : x ≤ y := h 0
  obtain ⟨i1, i2⟩ := O7 (a := a) (b := b) t151 fun d => h (d + 1)
  simp only [List.sum_cons]
  refine ⟨by omega, fun hne => ?_⟩
  by_cases e : x = y
  ·have := i2 fun e2 => hne (by rw [e, e2])
   omega
  ·omega
 | [], _ :: _, hl, _ => by simp at hl
 | _ :: _, [], hl, _ => by simp at hl
theorem W0 {a b : Nat} (h : ∀ j, a.testBit j = true → b.testBit j = true) : a ≤ b := by
 have : a ||| b = b := EW fun j => by
  rw [Nat.testBit_or, Bool.or_eq_true]
  exact ⟨fun h1 => h1.elim (h j) id, .inr⟩
 rw [← this]
 exact Nat.left_le_or
theorem sub_sum (ha : Rl k a) (hb : Rl k b) (h : Sub a b) : a.sum ≤ b.sum ∧ (a ≠ b → a.sum < b.sum) :=
 O7 (by rw [ha.1, hb.1]) fun d => W0 fun j => h d j
theorem O8 (hT : Tb k n T) (hi : i < n) (hr : Rl k r) (hs : Sub (T.getD i []) r) (hne : T.getD i [] ≠ r) : tot T < tot (T.set i r) := by
 have h1 := tot_set (T := T) (i := i) (r := r) (by rw [hT.1]; exact hi)
 have h2 := (sub_sum (hT.get hi) hr hs).2 hne
 omega
inductive Way (k : Nat) (nx : Nat → List Int) (st : Nat → List Nat) : Nat → Nat → Nat → Prop
 | start {d : Nat} : d ≤ k → Way k nx st 0 d d
 | step {pc d e f : Nat} {q : Int} : Way k nx st pc d e → bt (st pc) e f = true → q ∈ nx pc → Way k nx st q.toNat d f
def MH (nx : Nat → List Int) (st : Nat → List Nat) (T : List (List Nat)) (pc : Nat) : Prop := ∀ q ∈ nx pc, Sub (o1 (T.getD pc []) (st pc)) (T.getD q.toNat [])
structure ClT (k n : Nat) (nx : Nat → List Int) (st : Nat → List Nat) (T : List (List Nat)) : Prop where
 tb : Tb k n T
 id : Sub (dhN k 0) (T.getD 0 [])
 at' : ∀ pc, pc < n → MH nx st T pc
noncomputable def dC (k n : Nat) (nx : Nat → List Int) (st : Nat → List Nat) : List (List Nat) := (List.range n).map fun pc => F7 k (Way k nx st pc)
structure Pro (k n : Nat) (nx : Nat → List Int) (st : Nat → List Nat) : Prop where
 pos : 0 < n
 nx : ∀ pc, pc < n → ∀ q ∈ nx pc, 0 ≤ q ∧ q < n
 st : ∀ pc, pc < n → Rl k (st pc)
variable {nx : Nat → List Int} {st : Nat → List Nat} {pc : Nat}
theorem Way.lt (p : Pro k n nx st) (w : Way k nx st pc d e) : pc < n ∧ d ≤ k ∧ e ≤ k := by
 induction w with
 | start h => exact ⟨p.pos, h, h⟩
 | step w hb hq ih =>
  have h1 := p.nx _ ih.1 _ hq
  exact ⟨by omega, ih.2.1, (ME (p.st _ ih.1) hb).2⟩
theorem FE (hp : pc < n) : (dC k n nx st).getD pc [] = F7 k (Way k nx st pc) := by
 simp [dC, List.getD, hp]
theorem nZ (k n : Nat) (nx : Nat → List Int) (st : Nat → List Nat) : Tb k n (dC k n nx st) := by
 refine ⟨by simp [dC], fun r hr => ?_⟩
 obtain ⟨pc, _, rfl⟩ := List.mem_map.1 hr
 exact MF _ _
theorem rD (p : Pro k n nx st) (hp : pc < n) : bt ((dC k n nx st).getD pc []) d e = true ↔ Way k nx st pc d e := by
 rw [FE hp, MG]
 exact ⟨fun h => h.2.2, fun h => ⟨(h.lt p).2.1, (h.lt p).2.2, h⟩⟩
theorem O9 (p : Pro k n nx st) : ClT k n nx st (dC k n nx st) := by
 have tb := nZ k n nx st
 refine ⟨tb, fun d e h => ?_, fun pc hp q hq d e h => ?_⟩
 ·obtain ⟨h1, h2, h3⟩ := bt_dh.1 h
  have : d = e := by omega
  subst this
  exact (rD p p.pos).2 (.start h1)
 ·obtain ⟨f, h1, h2⟩ := (iN (tb.get hp) (p.st pc hp)).1 h
  have h3 := p.nx pc hp q hq
  exact (rD p (by omega)).2 (.step ((rD p hp).1 h1) h2 hq)
theorem ClT.way (p : Pro k n nx st) (c : ClT k n nx st T) (w : Way k nx st pc d e) : bt (T.getD pc []) d e = true := by
 induction w with
 | start h => exact c.id _ _ (bt_dh.2 ⟨h, h, by omega⟩)
 | step w hb hq ih =>
  have h1 := (w.lt p).1
  exact c.at' _ h1 _ hq _ _ ((iN (c.tb.get h1) (p.st _ h1)).2 ⟨_, ih, hb⟩)
theorem ClT.least (p : Pro k n nx st) (c : ClT k n nx st T) : FC (dC k n nx st) T :=
 subT_of (nZ k n nx st) fun i hi d e h => c.way p ((rD p hi).1 h)
theorem ClT.eq (p : Pro k n nx st) (c : ClT k n nx st T) (h : FC T (dC k n nx st)) : T = dC k n nx st :=
 FC.anti c.tb (nZ k n nx st) h (c.least p)
section
variable (u : Un) (c : Clo) (m : Nat)
def kM : Nat := V4 (u.c4.getD m z6)
def itI (i : Nat) : s8 := c.insts.getD i l3
def F9 (i pc : Nat) : Ins := (c8 u (itI c i)).getD pc g5
def W2 (i : Nat) : Nat := (c8 u (itI c i)).length
def UY (i pc : Nat) : Nat := ((c.calls.getD i []).getD pc 0).toNat
def nxI (i pc : Nat) : List Int := s5 (F9 u c i pc) pc
def stS (S : List (List Nat)) (i pc : Nat) : List Nat := if (F9 u c i pc).op = 2 then S.getD (UY c i pc) [] else dhN (kM u m) (chI (itI c i) (F9 u c i pc) m)
noncomputable def innT (S : List (List Nat)) (i : Nat) : List (List Nat) := dC (kM u m) (W2 u c i) (nxI u c i) (stS u c m S i)
end
section
variable {u : Un} {c : Clo} {m : Nat}
theorem UZ : kM u m ≤ 8 := xK
variable {i : Nat}
theorem pQ (wc : WC u c) (hi : i < c.insts.length) : WIt u (itI c i) := wc.wi _ (j9 hi)
theorem MI (hu : WU u) (wc : WC u c) {pc : Nat} (hi : i < c.insts.length) (hp : pc < W2 u c i) (ho : (F9 u c i pc).op = 2) : UY c i pc < c.insts.length := by
 have h1 := ((wc.call i hi pc hp).1 (.inl ho))
 unfold UY
 omega
theorem proS (hu : WU u) (wc : WC u c) {S : List (List Nat)} (hS : Tb (kM u m) c.insts.length S) (hi : i < c.insts.length) : Pro (kM u m) (W2 u c i) (nxI u c i) (stS u c m S i) := by
 have w := pQ wc hi
 refine ⟨(mF hu w).1, fun pc hp q hq => ?_, fun pc hp => ?_⟩
 ·obtain ⟨d, hd, rfl⟩ := List.getElem_of_mem hq
  have h := next_in hu w hp d hd
  have e : (s5 ((c8 u (itI c i)).getD pc g5) pc).getD d 0 = (nxI u c i pc)[d] := by
   show (nxI u c i pc).getD d 0 = _
   simp [List.getD, hd]
  rw [← e]
  exact h
 ·unfold stS
  split
  ·rename_i ho
   exact hS.get (MI hu wc hi hp ho)
  ·exact rl_dh _ _
theorem FF (S : List (List Nat)) (i : Nat) : Tb (kM u m) (W2 u c i) (innT u c m S i) := nZ _ _ _ _
end
section
variable (u : Un) (c : Clo) (m : Nat)
end
section
variable {u : Un} {c : Clo} {m : Nat}
end
end Go.Un
end
section
namespace Go.Proofs.YtfbjlfhjkojmkaaGreat
open Go.Ab Go.Un
theorem FG (l : List Nat) : l.map aA = j4 (l.map fun n : Nat => (n : Int)) := by simp [j4, aA, Function.comp_def]
theorem FH (l : List Nat) : cR l = .vec (l.map fun n : Nat => (n : Int)).length (j4 (l.map fun n : Nat => (n : Int))) := by simp [cR, FG]
variable {n len : Nat}
theorem uW {β g : Nat} {H : c6} {a : List Nat} (hb : H[β]? = some ⟨g, false, 3, 1, a.map aA, 0⟩) (hn : n ≤ β) (hl : a.length = len) : gM n H 6 (.own β g 0 len) = some (.vec len (a.map aA)) := by
  rw [FG] at hb ⊢
  exact zY hb hn t151
def UpN (v : Nat → Nat) (i : Nat) (zs : List Nat) : Prop := (∀ d, d < i → zs.getD d 0 = v d) ∧ (∀ d, i ≤ d → zs.getD d 0 = 0)
theorem UpN.zero (v : Nat → Nat) (n : Nat) : UpN v 0 (List.replicate n 0) := by
  refine ⟨fun d hd => by omega, fun d _ => ?_⟩
  rw [List.getD_eq_getElem?_getD, List.getElem?_replicate]
  split <;> rfl
variable {v : Nat → Nat} {zs : List Nat} {i : Nat}
theorem UpN.set {x : Nat} (hi : i < zs.length) (h : UpN v i zs) (hx : x = v i) : UpN v (i + 1) (zs.set i x) := by
  refine ⟨fun d hd => ?_, fun d hd => ?_⟩
  · by_cases e : d = i
    · subst e; simp [List.getD, hi, hx]
    · have := h.1 d (by omega)
      simp only [List.getD_eq_getElem?_getD, List.getElem?_set_ne (Ne.symm e)] at this ⊢
      exact this
  · have := h.2 d (by omega)
    simp only [List.getD_eq_getElem?_getD, List.getElem?_set_ne (show i ≠ d from by omega)] at this ⊢
    exact this
theorem UpN.all2 (h : UpN v i zs) (hl : zs.length = n) (hi : ∀ d, i ≤ d → d < n → v d = 0) : zs = (List.range n).map v := by
  refine List.ext_getElem (by simp [hl]) fun d k1 k2 => ?_
  by_cases hd : d < i
  · have := h.1 d hd
    simp
    simpa [List.getD, k1] using this
  · have := h.2 d (by omega)
    have e := hi d (by omega) (by omega)
    simp [e]
    simpa [List.getD, k1] using this
theorem UpN.all (h : UpN v i zs) (hl : zs.length = n) (hi : n ≤ i) : zs = (List.range n).map v := h.all2 hl fun d h1 h2 => by omega
theorem P0 (k : Nat) (n : Int) : AV.vec (shI k n).length (j4 (shI k n)) = cR (dhN k n) := by
  have : shI k n = (dhN k n).map fun n : Nat => (n : Int) := by
    unfold shI dhN
    rw [List.map_map]
    refine List.map_congr_left fun d _ => ?_
    unfold shV dhV
    simp only [Function.comp_apply]
    split <;> simp
  rw [FH, this]
def cU (T : List (List Nat)) : List AV := T.map cR
variable {T : List (List Nat)}
theorem bN : (cU T).length = T.length := List.length_map _
theorem G0 (h : i < T.length) : List.take 1 (List.drop i (cU T)) = [cR (T.getD i [])] := by
  unfold cU
  rw [← List.map_drop, ← List.map_take, List.drop_eq_getElem_cons h, List.take_succ_cons, List.take_zero]
  simp [List.getD, h]
theorem overT {r : List Nat} (h : i < T.length) : List.take i (cU T) ++ cR r :: List.drop (i + 1) (cU T) = cU (T.set i r) := by
  unfold cU
  rw [← List.map_drop, ← List.map_take, List.set_eq_take_append_cons_drop, if_pos h]
  simp
theorem ext_T {a b : List (List Nat)} (hl : a.length = b.length) (h : ∀ d, d < a.length → a.getD d [] = b.getD d []) : a = b := by
  refine List.ext_getElem hl fun d k1 k2 => ?_
  have := h d k1
  simpa [List.getD, k1, k2] using this
theorem plnN (l : List Nat) : z7 (l.map aA) := z7.map fun _ => .int
theorem Ei (T : List (List Nat)) : z7 (cU T) := z7.map fun _ => .vec
theorem VA {β g : Nat} {H : c6} {a : List (List Nat)} (hb : H[β]? = some ⟨g, false, 22, 1, cU a, 0⟩) (hn : n ≤ β) (hl : a.length = len) : gM n H 6 (.own β g 0 len) = some (.vec len (cU a)) := by
  subst hl
  rw [eN, if_neg (by omega), fO, hb]
  simp only [hn, and_self, if_true, Bool.false_eq_true, if_false, Nat.zero_add, Nat.mul_one, bN, Nat.le_refl, List.drop_zero]
  rw [List.take_of_length_le (by rw [bN]; exact Nat.le_refl _), (Ei a).frz]
theorem MJ {a b : List Nat} : (a.map (fun n : Nat => (n : Int)) = b.map (fun n : Nat => (n : Int))) ↔ a = b := List.map_inj_right (fun x y h => by exact_mod_cast h)
variable {h : c6}
theorem G1 (a b : List Nat) (hl : a.length < 1000000) : CB 20 [cR a, cR b] h (.bool (decide (a = b))) := by
  rw [FH, FH]
  refine (OS _ _ t151).mono fun r h' ⟨h1, h2⟩ => ⟨h1.trans ?_, h2⟩
  exact congrArg AV.bool (decide_eq_decide.2 MJ)
theorem shl1K {k : Nat} (h : k ≤ 8) : IntKind.wrap .i64 (1 * 2 ^ (min (k + 1) 64)) = ((2 ^ (k + 1) : Nat) : Int) := by
  rw [shl1M (by omega)]; simp
theorem MK (x m : Int) (hn : 0 < m) (hm : m < 4611686018427387904) : CB 16 [.int .i64 x, .int .i64 m] h (.int .i64 ((tG x m : Nat) : Int)) := by
  have e : ((tG x m : Nat) : Int) = within x m := Int.toNat_of_nonneg (nI hn)
  rw [e]
  exact qU x m hn (Int.le_of_lt hm)
attribute [local go_sem] rd cR l7 Int.natCast_nonneg Int.natCast_inj tD PA tE testN hasN orN shl1K List.length_set List.length_replicate Int.toNat_natCast_add_one kQ List.length_map wrap64 wP max2 kX G0 bN
theorem c_in8 (s : Nat) (d : Int) (hs : s < 512) : CB 98 [.int .i64 ((s : Nat) : Int), .int .i64 d] h (.bool (hasD s d)) := by
  refine .bz Tryz.f98 18 ?_
  refine .z ?_
  refine c19z ?_
  refine .spl 7 rfl rfl (fun e1 => ?_) (fun e1 => ?_)
  ·try simp only [e1]
   have qe1 := fact e1
   refine .k 4 [(2, 7)] ?_
   refine .spl 11 rfl rfl (fun e2 => ?_) (fun e2 => ?_)
   ·try simp only [e2]
    have qe2 := fact e2
    refine .m [(6, 11)] ?_
    refine c2z ?_
    exact ⟨[], _, (List.append_nil _).symm, t44, t66⟩
   try simp only [e2]
   have qe2 := fact e2
   refine .m [(6, 11)] ?_
   refine c2z ?_
   exact ⟨[], _, (List.append_nil _).symm, t44, t66⟩
  try simp only [e1]
  have qe1 := fact e1
  refine .k 8 [(2, 7), (6, 11)] ?_
  refine .m [(6, 11)] ?_
  refine c2z ?_
  exact ⟨[], _, (List.append_nil _).symm, t44, t66⟩
theorem c_inN (s i : Nat) (hs : s < 512) (hi : i ≤ 8) : CB 98 [.int .i64 ((s : Nat) : Int), .int .i64 ((i : Nat) : Int)] h (.bool (s.testBit i)) := by
  rw [← hasN hi]
  exact c_in8 s _ hs
theorem c_appM (r : List Nat) (s : Nat) (hr : ∀ x ∈ r, x < 512) (hs : s < 512) (hl : r.length ≤ 9) : CB 116 [cR r, .int .i64 ((s : Nat) : Int)] h (.int .i64 ((applyN r s : Nat) : Int)) := by
  refine .bz Tryz.f116 25 ?_
  refine c54z ?_
  refine .dR (fun m st => ∃ (i : Nat), (m = r.length - i ∧ i ≤ r.length) ∧ st = ⟨mkS 25 [(1, AV.int .i64 ((s : Nat) : Int)), (5, AV.int .i64 ((bM r s i : Nat) : Int)), (8, cR r), (9, AV.int .i64 ((r.length : Nat) : Int)), (10, AV.int .i64 ((i : Nat) : Int))], h⟩) _ (.v ⟨0, ⟨rfl, by omega⟩, rfl⟩ (hs := t38)) ?_
  rintro m sl h' ⟨i, ⟨hm, hi⟩, hst⟩
  obtain ⟨rfl, rfl⟩ := St.mk.inj hst
  have hacc := lN hr s i; have hgi := eK hr i
  refine c28z ?_
  refine u2z ?_ ?_
  ·intro e1 qe1
   refine c7z ?_
   refine c18z ?_
   refine u2z ?_ ?_
   ·intro e2 qe2
    refine .c7 [1, 5, 7, 8, 9, 10] ?_
    refine c56z ?_
    exact ⟨_, by omega, .v ⟨(i + 1), ⟨rfl, by omega⟩, rfl⟩ (hs := t38)⟩
   intro e2 qe2
   refine c6z ?_
   refine .c7 [1, 5, 8, 9, 10] ?_
   refine .rz ?_
   exact ⟨_, by omega, .v ⟨(i + 1), ⟨rfl, by omega⟩, rfl⟩ (hs := t38)⟩
  intro e1 qe1
  refine c108z ?_
  exact ⟨[], _, (List.append_nil _).symm, t44, t171⟩
theorem c_appR (r : List Nat) (s : Nat) (hr : ∀ x ∈ r, x < 512) (hs : s < 512) (hl : r.length ≤ 9) : CB 74 [cR r, .int .i64 ((s : Nat) : Int)] h (.int .i64 ((applyN r s : Nat) : Int)) := by
  refine .bz Tryz.f74 23 ?_
  refine c54z ?_
  refine .dR (fun m st => ∃ (i : Nat), (m = r.length - i ∧ i ≤ r.length) ∧ st = ⟨mkS 23 [(0, cR r), (1, AV.int .i64 ((s : Nat) : Int)), (5, AV.int .i64 ((bM r s i : Nat) : Int)), (6, AV.int .i64 ((i : Nat) : Int))], h⟩) _ (.v ⟨0, ⟨rfl, by omega⟩, rfl⟩ (hs := t38)) ?_
  rintro m sl h' ⟨i, ⟨hm, hi⟩, hst⟩
  obtain ⟨rfl, rfl⟩ := St.mk.inj hst
  have hacc := lN hr s i; have hgi := eK hr i
  refine c0z ?_
  refine u2z ?_ ?_
  ·intro e1 qe1
   refine c7z ?_
   refine c36z ?_
   refine .ca rfl rfl (c_inN _ _ hs (by omega)) ?_
   refine .nil ?_
   refine u2z ?_ ?_
   ·intro e2 qe2
    refine c1z ?_
    refine c114z ?_
    exact ⟨_, by omega, .v ⟨(i + 1), ⟨rfl, by omega⟩, rfl⟩ (hs := t38)⟩
   intro e2 qe2
   refine c6z ?_
   refine .rz ?_
   exact ⟨_, by omega, .v ⟨(i + 1), ⟨rfl, by omega⟩, rfl⟩ (hs := t38)⟩
  intro e1 qe1
  refine c108z ?_
  exact ⟨[], _, (List.append_nil _).symm, t44, t171⟩
theorem ML (r : List Nat) (s : Nat) (hr : ∀ x ∈ r, x < 512) (hs : s < 512) (hl : r.length ≤ 9) : CB 96 [cR r, .int .i64 ((s : Nat) : Int)] h (.int .i64 ((applyN r s : Nat) : Int)) := by
  refine .bz Tryz.f96 8 ?_
  refine .z ?_
  refine c36z ?_
  refine .ca rfl rfl (c_appM _ _ hr hs hl) ?_
  refine c143z ?_
  exact ⟨[], _, (List.append_nil _).symm, t44, by rfl⟩
theorem c_comp (a b : List Nat) (hb : ∀ x ∈ b, x < 512) (hl : b.length ≤ 9) (ha : ∀ x ∈ a, x < 512) (hla : a.length ≤ 9) : CB 71 [cR a, cR b] h (cR (o1 a b)) := by
  refine .bz Tryz.f71 26 ?_
  refine c54z ?_
  refine .dR (fun m st => ∃ (i : Nat) (zs : List Nat), (m = (a.length) - i ∧ (UpN (fun d => applyN b (a.getD d 0)) i zs ∧ zs.length = (a.length) ∧ i ≤ (a.length))) ∧ st = ⟨mkS 26 [(1, cR b), (5, AV.own h.length 0 0 (a.length)), (11, cR a), (12, AV.int .i64 ((a.length : Nat) : Int)), (13, AV.int .i64 ((i : Nat) : Int))], h ++ [⟨0, false, 3, 1, zs.map aA, 0⟩]⟩) _ (.v ⟨0, (List.replicate (a.length) 0), ⟨rfl, ⟨UpN.zero _ _, by simp, by omega⟩⟩, rfl⟩) ?_
  rintro m sl h' ⟨i, zs, ⟨hm, ⟨hI, hz, hi⟩⟩, hst⟩
  obtain ⟨rfl, rfl⟩ := St.mk.inj hst
  have hga := eK ha i
  refine c28z ?_
  refine u2z ?_ ?_
  ·intro e1 qe1
   refine c129z ?_
   refine c148z ?_
   refine .ca rfl rfl (ML _ _ hb hga hl) ?_
   refine c34z ?_
   refine .c7 [1, 5, 11, 12, 13] ?_
   refine .rz ?_
   exact ⟨_, by omega, .v ⟨(i + 1), (zs.set i _), ⟨rfl, ⟨UpN.set (by omega) hI rfl, t90, by omega⟩⟩, rfl⟩⟩
  intro e1 qe1
  refine c108z ?_
  exact ⟨_, _, rfl, uW t114 (Nat.le_refl _) hz, t161⟩
theorem FI (a b : List Nat) (hb : ∀ x ∈ b, x < 512) (hl : b.length ≤ 9) (ha : ∀ x ∈ a, x < 512) (hla : a.length ≤ 9) : CB 43 [cR a, cR b] h (cR (o1 a b)) := by
  refine .bz Tryz.f43 26 ?_
  refine c54z ?_
  refine .dR (fun m st => ∃ (i : Nat) (zs : List Nat), (m = (a.length) - i ∧ (UpN (fun d => applyN b (a.getD d 0)) i zs ∧ zs.length = (a.length) ∧ i ≤ (a.length))) ∧ st = ⟨mkS 26 [(0, cR a), (1, cR b), (5, AV.own h.length 0 0 (a.length)), (6, AV.int .i64 ((i : Nat) : Int))], h ++ [⟨0, false, 3, 1, zs.map aA, 0⟩]⟩) _ (.v ⟨0, (List.replicate (a.length) 0), ⟨rfl, ⟨UpN.zero _ _, by simp, by omega⟩⟩, rfl⟩) ?_
  rintro m sl h' ⟨i, zs, ⟨hm, ⟨hI, hz, hi⟩⟩, hst⟩
  obtain ⟨rfl, rfl⟩ := St.mk.inj hst
  have hga := eK ha i
  refine c0z ?_
  refine u2z ?_ ?_
  ·intro e1 qe1
   refine c7z ?_
   refine .r ?_
   refine .e 7 ?_
   refine .ca rfl rfl (c_appR _ _ hb hga hl) ?_
   refine c34z ?_
   refine c114z ?_
   exact ⟨_, by omega, .v ⟨(i + 1), (zs.set i _), ⟨rfl, ⟨UpN.set (by omega) hI rfl, t90, by omega⟩⟩, rfl⟩⟩
  intro e1 qe1
  refine c108z ?_
  exact ⟨_, _, rfl, uW t114 (Nat.le_refl _) hz, t161⟩
theorem c_union (a b : List Nat) (hb : ∀ x ∈ b, x < 512) (ha : ∀ x ∈ a, x < 512) (hla : a.length ≤ 9) (hab : b.length = a.length) : CB 45 [cR a, cR b] h (cR (cN a b)) := by
  refine .bz Tryz.f45 29 ?_
  refine c54z ?_
  refine .dR (fun m st => ∃ (i : Nat) (zs : List Nat), (m = (a.length) - i ∧ (UpN (fun d => a.getD d 0 ||| b.getD d 0) i zs ∧ zs.length = (a.length) ∧ i ≤ (a.length))) ∧ st = ⟨mkS 29 [(0, cR a), (1, cR b), (5, AV.own h.length 0 0 (a.length)), (11, AV.int .i64 ((a.length : Nat) : Int)), (12, AV.int .i64 ((i : Nat) : Int))], h ++ [⟨0, false, 3, 1, zs.map aA, 0⟩]⟩) _ (.v ⟨0, (List.replicate (a.length) 0), ⟨rfl, ⟨UpN.zero _ _, by simp, by omega⟩⟩, rfl⟩) ?_
  rintro m sl h' ⟨i, zs, ⟨hm, ⟨hI, hz, hi⟩⟩, hst⟩
  obtain ⟨rfl, rfl⟩ := St.mk.inj hst
  have hga := eK ha i; have hgb := eK hb i
  refine c28z ?_
  refine u2z ?_ ?_
  ·intro e1 qe1
   refine c129z ?_
   refine .so s7 (mkP 13 [0, 0, 0, 0, 12, 28, 0, 0, 192, 448, 1020, 2047, 4095] [12]) ?_
   refine c120z ?_
   change c9 ..
   refine c196z ?_
   exact ⟨_, by omega, .v ⟨(i + 1), (zs.set i _), ⟨rfl, ⟨UpN.set (by omega) hI rfl, t90, by omega⟩⟩, rfl⟩⟩
  intro e1 qe1
  refine c108z ?_
  exact ⟨_, _, rfl, uW t114 (Nat.le_refl _) hz, t165⟩
theorem P1 (a b : List Nat) (hb : ∀ x ∈ b, x < 512) (ha : ∀ x ∈ a, x < 512) (hla : a.length ≤ 9) (hab : b.length = a.length) : CB 22 [cR a, cR b] h (cR (cN a b)) := by
  refine .bz Tryz.f22 29 ?_
  refine c54z ?_
  refine .dR (fun m st => ∃ (i : Nat) (zs : List Nat), (m = (a.length) - i ∧ (UpN (fun d => a.getD d 0 ||| b.getD d 0) i zs ∧ zs.length = (a.length) ∧ i ≤ (a.length))) ∧ st = ⟨mkS 29 [(0, cR a), (1, cR b), (5, AV.own h.length 0 0 (a.length)), (6, AV.int .i64 ((i : Nat) : Int))], h ++ [⟨0, false, 3, 1, zs.map aA, 0⟩]⟩) _ (.v ⟨0, (List.replicate (a.length) 0), ⟨rfl, ⟨UpN.zero _ _, by simp, by omega⟩⟩, rfl⟩) ?_
  rintro m sl h' ⟨i, zs, ⟨hm, ⟨hI, hz, hi⟩⟩, hst⟩
  obtain ⟨rfl, rfl⟩ := St.mk.inj hst
  have hga := eK ha i; have hgb := eK hb i
  refine c0z ?_
  refine u2z ?_ ?_
  ·intro e1 qe1
   refine c7z ?_
   refine .so s7 (mkP 13 [0, 0, 0, 0, 12, 28, 0, 0, 192, 448, 1020, 2047, 4095] [12]) ?_
   refine c120z ?_
   change c9 ..
   refine c114z ?_
   exact ⟨_, by omega, .v ⟨(i + 1), (zs.set i _), ⟨rfl, ⟨UpN.set (by omega) hI rfl, t90, by omega⟩⟩, rfl⟩⟩
  intro e1 qe1
  refine c108z ?_
  exact ⟨_, _, rfl, uW t114 (Nat.le_refl _) hz, t165⟩
theorem FJ (a b : List Nat) (hla : a.length ≤ 9) (hab : b.length = a.length) : CB 24 [cR a, cR b] h (.bool (decide (tF a b))) := by
  refine .bz Tryz.f24 22 ?_
  refine c55z ?_
  refine .dR (fun m st => ∃ (i : Nat), (m = a.length - i ∧ ((∀ d, d < i → bits .andNot .i64 ((a.getD d 0 : Nat) : Int) ((b.getD d 0 : Nat) : Int) = 0) ∧ i ≤ a.length)) ∧ st = ⟨mkS 22 [(0, cR a), (1, cR b), (7, AV.int .i64 ((a.length : Nat) : Int)), (8, AV.int .i64 ((i : Nat) : Int))], h⟩) _ (.v ⟨0, ⟨rfl, ⟨t107, by omega⟩⟩, rfl⟩) ?_
  rintro m sl h' ⟨i, ⟨hm, ⟨hI, hi⟩⟩, hst⟩
  obtain ⟨rfl, rfl⟩ := St.mk.inj hst
  refine c28z ?_
  refine u2z ?_ ?_
  ·intro e1 qe1
   refine c129z ?_
   refine .ss s7 (mkP 10 [0, 0, 3, 7, 0, 0, 48, 112, 255, 511] []) ?_
   refine c120z ?_
   refine u2z ?_ ?_
   ·intro e2 qe2
    refine c158z ?_
    exact ⟨[], _, (List.append_nil _).symm, t44, t104⟩
   intro e2 qe2
   refine c6z ?_
   refine .c7 [0, 1, 7, 8] ?_
   refine .rz ?_
   exact ⟨_, by omega, .v ⟨(i + 1), ⟨rfl, ⟨(fun d hd => if e : d = i then by rw [e]; assumption else hI d (by omega)), by omega⟩⟩, rfl⟩⟩
  intro e1 qe1
  refine c108z ?_
  exact ⟨[], _, (List.append_nil _).symm, t44, t104⟩
theorem c_made (l : List Int) (k : Nat) (hk : k ≤ 8) (hl : l.length < 9223372036854775808) : CB 37 [.vec l.length (j4 l), .int .i64 ((k : Nat) : Int)] h (cR (X3 l k)) := by
  refine .bz Tryz.f37 33 ?_
  have hp := PD hk
  refine c54z ?_
  refine .dR (fun m st => ∃ (i : Nat) (zs : List Nat), (m = ((k + 1)) - i ∧ (UpN (WB l k) i zs ∧ zs.length = ((k + 1)) ∧ i ≤ ((k + 1)))) ∧ st = ⟨mkS 33 [(0, AV.vec l.length (j4 l)), (1, AV.int .i64 ((k : Nat) : Int)), (5, AV.own h.length 0 0 ((k + 1))), (6, AV.int .i64 ((i : Nat) : Int))], h ++ [⟨0, false, 3, 1, zs.map aA, 0⟩]⟩) _ (.v ⟨0, (List.replicate ((k + 1)) 0), ⟨rfl, ⟨UpN.zero _ _, by simp, by omega⟩⟩, rfl⟩) ?_
  rintro m sl h' ⟨i, zs, ⟨hm, ⟨hI, hz, hi⟩⟩, hst⟩
  obtain ⟨rfl, rfl⟩ := St.mk.inj hst
  refine .seq ?_
  refine c27z ?_
  refine .spl 13 rfl rfl (fun e1 => ?_) (fun e1 => ?_)
  ·try simp only [e1]
   have qe1 := fact e1
   refine .m [(3, 13)] ?_
   refine u2z ?_ ?_
   ·intro e2 qe2
    refine c7z ?_
    refine .c7 [0, 1, 5, 6] ?_
    refine .so s7 (mkP 12 [0, 0, 0, 0, 12, 28, 0, 64, 192, 508, 1023, 2047] [11]) ?_
    refine .k 8 [] ?_
    refine .k 1 [] ?_
    refine .ca rfl rfl (MK _ _ (by omega) (by omega)) ?_
    refine .n [] ?_
    change c9 ..
    refine c114z ?_
    exact ⟨_, by omega, .v ⟨(i + 1), (zs.set i _), ⟨rfl, ⟨UpN.set (by omega) hI (by rw [WB, if_pos (by omega)]), t90, by omega⟩⟩, rfl⟩⟩
   intro e2 qe2
   refine c9z ?_
   refine .c7 [5] ?_
   refine c35z ?_
   exact ⟨_, _, rfl, uW t114 (Nat.le_refl _) hz, t137⟩
  try simp only [e1]
  have qe1 := fact e1
  refine .m [(3, 13)] ?_
  refine c39z ?_
  refine .c7 [5] ?_
  refine c35z ?_
  exact ⟨_, _, rfl, uW t114 (Nat.le_refl _) hz, t137⟩
theorem c_sameT {n : Nat} (a b : List (List Nat)) (hl : a.length < 1000000) (ha : ∀ r ∈ a, r.length < 1000) : CB 12 [.vec a.length (cU a), .vec b.length (cU b)] h (.bool (decide (a = b))) := by
  refine .bz Tryz.f12 27 ?_
  refine c85z ?_
  refine u2z ?_ ?_
  ·intro e1 qe1
   refine c158z ?_
   exact ⟨[], _, (List.append_nil _).symm, t44, t72⟩
  intro e1 qe1
  refine .sk ?_
  refine c5z ?_
  refine .dR (fun m st => ∃ (i : Nat), (m = a.length - i ∧ ((∀ d, d < i → a.getD d [] = b.getD d []) ∧ i ≤ a.length)) ∧ st = ⟨mkS 27 [(0, AV.vec a.length (cU a)), (1, AV.vec b.length (cU b)), (5, AV.int .i64 ((i : Nat) : Int))], h⟩) _ (.v ⟨0, ⟨rfl, ⟨t107, by omega⟩⟩, rfl⟩) ?_
  rintro m sl h' ⟨i, ⟨hm, ⟨hI, hi⟩⟩, hst⟩
  obtain ⟨rfl, rfl⟩ := St.mk.inj hst
  refine c0z ?_
  refine u2z ?_ ?_
  ·intro e2 qe2
   refine c7z ?_
   refine .ss s7 (mkP 10 [0, 0, 3, 7, 0, 0, 48, 112, 255, 511] []) ?_
   refine .k 8 [] ?_
   refine .ca rfl rfl (G1 _ _ (by have := ha _ (j9 (i := i) (d := []) (by omega)); omega)) ?_
   refine .n [] ?_
   refine u2z ?_ ?_
   ·intro e3 qe3
    refine c158z ?_
    exact ⟨[], _, (List.append_nil _).symm, t44, t72⟩
   intro e3 qe3
   refine c6z ?_
   refine c185z ?_
   exact ⟨_, by omega, .v ⟨(i + 1), ⟨rfl, ⟨(fun d hd => if e : d = i then by rw [e]; assumption else hI d (by omega)), by omega⟩⟩, rfl⟩⟩
  intro e2 qe2
  refine c108z ?_
  exact ⟨[], _, (List.append_nil _).symm, t44, t72⟩
end Go.Proofs.YtfbjlfhjkojmkaaGreat
end
section
namespace Go.Un
open Go.Ab
section
variable {k n : Nat} {nx : Nat → List Int} {st : Nat → List Nat}
structure Gro (k n : Nat) (nx : Nat → List Int) (st : Nat → List Nat) (T : List (List Nat)) : Prop where
 tb : Tb k n T
 id : Sub (dhN k 0) (T.getD 0 [])
 le : FC T (dC k n nx st)
variable {a b : List Nat}
theorem jO (ha : Rl k a) (hb : Rl k b) : Sub a (cN a b) := fun d e h => (xL ha hb).2 (.inl h)
theorem tL (ha : Rl k a) (hb : Rl k b) : Sub b (cN a b) := fun d e h => (xL ha hb).2 (.inr h)
theorem pR {c : List Nat} (ha : Rl k a) (hb : Rl k b) (h1 : Sub a c) (h2 : Sub b c) : Sub (cN a b) c := fun d e h => ((xL ha hb).1 h).elim (h1 d e) (h2 d e)
theorem dN (ha : Rl k a) (hb : Rl k b) : cN a b = a ↔ Sub b a :=
 ⟨fun h => by have := tL ha hb; rw [h] at this; exact this, fun h => Sub.anti (rC ha hb) ha (pR ha hb (Sub.refl _) h) (jO ha hb)⟩
theorem Gro.start (p : Pro k n nx st) : Gro k n nx st ((List.replicate n (List.replicate (k + 1) 0)).set 0 (dhN k 0)) := by
 have hl : 0 < (List.replicate n (List.replicate (k + 1) 0)).length := by rw [List.length_replicate]; exact p.pos
 have tb : Tb k n (List.replicate n (List.replicate (k + 1) 0)) := ⟨by simp, fun r hr => by rw [List.eq_of_mem_replicate hr]; exact rl_zero _⟩
 refine ⟨tb.set (rl_dh _ _), by rw [eX hl, if_pos rfl]; exact Sub.refl _, fun i => ?_⟩
 rw [eX hl]
 split
 ·rename_i e; subst e; exact (O9 p).id
 ·intro d e h
  rw [List.getD_eq_getElem?_getD, List.getElem?_replicate] at h
  split at h
  ·rw [show ((some (List.replicate (k + 1) 0) : Option (List Nat)).getD []) = List.replicate (k + 1) 0 from rfl, FB] at h; cases h
  ·simp [bt] at h
variable {T : List (List Nat)} {pc : Nat}
theorem Gro.aft (p : Pro k n nx st) (g : Gro k n nx st T) (hp : pc < n) : Rl k (o1 (T.getD pc []) (st pc)) ∧ ∀ q ∈ nx pc, Sub (o1 (T.getD pc []) (st pc)) ((dC k n nx st).getD q.toNat []) := by
 refine ⟨V9 (g.tb.get hp) (p.st pc hp), fun q hq d e h => ?_⟩
 obtain ⟨f, h1, h2⟩ := (iN (g.tb.get hp) (p.st pc hp)).1 h
 exact (O9 p).at' pc hp q hq d e ((iN ((nZ k n nx st).get hp) (p.st pc hp)).2 ⟨f, g.le pc d f h1, h2⟩)
variable {q : Nat}
theorem Gro.set (g : Gro k n nx st T) (hq : q < n) (ha : Rl k a) (hs : Sub a ((dC k n nx st).getD q [])) : Gro k n nx st (T.set q (cN (T.getD q []) a)) ∧ FC T (T.set q (cN (T.getD q []) a)) := by
 have hl : q < T.length := by rw [g.tb.1]; exact hq
 have hs' : FC T (T.set q (cN (T.getD q []) a)) := fun i => by
  rw [eX hl]
  split
  ·rename_i e; subst e; exact jO (g.tb.get hq) ha
  ·exact Sub.refl _
 refine ⟨⟨g.tb.set (rC (g.tb.get hq) ha), g.id.trans (hs' 0), fun i => ?_⟩, hs'⟩
 rw [eX hl]
 split
 ·rename_i e; subst e; exact pR (g.tb.get hq) ha (g.le i) hs
 ·exact g.le i
theorem MH.mono {T' : List (List Nat)} (c : MH nx st T pc) (he : T'.getD pc [] = T.getD pc []) (hs : FC T T') : MH nx st T' pc := fun q hq => by
 rw [he]
 exact (c q hq).trans (hs _)
theorem Gro.done (p : Pro k n nx st) (g : Gro k n nx st T) (h : ∀ pc, pc < n → MH nx st T pc) : T = dC k n nx st := ClT.eq p ⟨g.tb, g.id, h⟩ g.le
structure GV (k n : Nat) (nx : Nat → List Int) (st : Nat → List Nat) (T : List (List Nat)) (todo : List Nat) : Prop where
 g : Gro k n nx st T
 td : ∀ x ∈ todo, x < n
 cl : ∀ pc, pc < n → pc ∉ todo → MH nx st T pc
theorem GV.start (p : Pro k n nx st) : GV k n nx st ((List.replicate n (List.replicate (k + 1) 0)).set 0 (dhN k 0)) [0] := by
 refine ⟨Gro.start p, by simp; exact p.pos, fun pc hp hm q hq d e h => ?_⟩
 have hl : 0 < (List.replicate n (List.replicate (k + 1) 0)).length := by rw [List.length_replicate]; exact p.pos
 obtain ⟨f, h1, _⟩ := (iN ((Gro.start p).tb.get hp) (p.st pc hp)).1 h
 rw [eX hl, if_neg (by simpa using hm), List.getD_eq_getElem?_getD, List.getElem?_replicate, if_pos hp] at h1
 rw [show ((some (List.replicate (k + 1) 0) : Option (List Nat)).getD []) = List.replicate (k + 1) 0 from rfl, FB] at h1
 cases h1
structure FK (k n : Nat) (nx : Nat → List Int) (st : Nat → List Nat) (pc : Nat) (R0 : List Nat) (t0 l0 : Nat) (T : List (List Nat)) (todo : List Nat) (j : Nat) : Prop where
 g : Gro k n nx st T
 td : ∀ x ∈ todo, x < n
 cl : ∀ p, p < n → p ∉ todo → p ≠ pc → MH nx st T p
 own : pc ∈ todo ∨ T.getD pc [] = R0
 dn : ∀ d, d < j → Sub (o1 R0 (st pc)) (T.getD ((nx pc).getD d 0).toNat [])
 me : todo.length + t0 ≤ l0 + tot T
 mo : t0 ≤ tot T
variable {todo : List Nat}
theorem GV.pop (h : GV k n nx st T (todo ++ [pc])) : pc < n ∧ FK k n nx st pc (T.getD pc []) (tot T) todo.length T todo 0 := by
 refine ⟨h.td pc (by simp), h.g, fun x hx => h.td x (by simp [hx]), fun p hp hm hne => h.cl p hp (by simp [hm, hne]), .inr rfl, fun d hd => by omega, Nat.le_refl _, Nat.le_refl _⟩
variable {t0 l0 j : Nat} {R0 : List Nat}
theorem FK.skip (h : FK k n nx st pc R0 t0 l0 T todo j) (hs : Sub (o1 R0 (st pc)) (T.getD ((nx pc).getD j 0).toNat [])) : FK k n nx st pc R0 t0 l0 T todo (j + 1) :=
 ⟨h.g, h.td, h.cl, h.own, fun d hd => if e : d = j then by rw [e]; exact hs else h.dn d (by omega), h.me, h.mo⟩
theorem FK.grow (p : Pro k n nx st) (hp : pc < n) (h : FK k n nx st pc R0 t0 l0 T todo j) (hR : Rl k (o1 R0 (st pc))) (hle : ∀ q ∈ nx pc, Sub (o1 R0 (st pc)) ((dC k n nx st).getD q.toNat [])) (hj : j < (nx pc).length) (hqe : ((nx pc).getD j 0).toNat = q) (hs : ¬ Sub (o1 R0 (st pc)) (T.getD q [])) : FK k n nx st pc R0 t0 l0 (T.set q (cN (T.getD q []) (o1 R0 (st pc)))) (todo ++ [q]) (j + 1) := by
 have hqm : (nx pc).getD j 0 ∈ nx pc := j9 hj
 have hq : q < n := by have := p.nx pc hp _ hqm; omega
 obtain ⟨g', hs'⟩ := h.g.set hq hR (by have := hle _ hqm; rwa [hqe] at this)
 have hl : q < T.length := by rw [h.g.tb.1]; exact hq
 have h2 := O8 h.g.tb hq (rC (h.g.tb.get hq) hR) (jO (h.g.tb.get hq) hR) (fun he => hs ((dN (h.g.tb.get hq) hR).1 he.symm))
 refine ⟨g', fun x hx => ?_, fun p' hp' hm hne => ?_, ?_, fun d hd => ?_, ?_, by have := h.mo; omega⟩
 ·rcases List.mem_append.1 hx with hx | hx
  ·exact h.td x hx
  ·rw [List.mem_singleton] at hx; omega
 ·simp only [List.mem_append, List.mem_singleton, not_or] at hm
  exact (h.cl p' hp' hm.1 hne).mono (by rw [eX hl, if_neg hm.2]) hs'
 ·rcases h.own with ho | ho
  ·exact .inl (by simp [ho])
  ·by_cases e : pc = q
   ·exact .inl (by simp [e])
   ·exact .inr (by rw [eX hl, if_neg e]; exact ho)
 ·by_cases e : d = j
  ·rw [e, hqe, eX hl, if_pos rfl]; exact tL (h.g.tb.get hq) hR
  ·exact (h.dn d (by omega)).trans (hs' _)
 ·have h1 := h.me
  rw [List.length_append, List.length_singleton]
  omega
theorem FK.fin (hp : pc < n) (h : FK k n nx st pc R0 t0 l0 T todo (nx pc).length) : GV k n nx st T todo := by
 refine ⟨h.g, h.td, fun p hp' hm => ?_⟩
 by_cases e : p = pc
 ·subst e
  intro q hq
  rcases h.own with ho | ho
  ·exact absurd ho hm
  ·obtain ⟨d, hd, rfl⟩ := List.getElem_of_mem hq
   have := h.dn d hd
   rw [← ho] at this
   simpa [List.getD, hd] using this
 ·exact h.cl p hp' hm e
theorem GV.done (p : Pro k n nx st) (h : GV k n nx st T []) : T = dC k n nx st := h.g.done p fun pc hp => h.cl pc hp (by simp)
def PE (n : Nat) (T : List (List Nat)) (l : Nat) : Nat := 2 * (4608 * n - tot T) + l
variable {T0 : List (List Nat)}
theorem mRun_lt (hk : k ≤ 8) (h : FK k n nx st pc R0 (tot T0) l0 T todo j) (h0 : Gro k n nx st T0) : PE n T todo.length < PE n T0 (l0 + 1) := by
 have h1 := h.me
 have h2 := FD hk h.g.tb
 have h3 := FD hk h0.tb
 have h4 := h.mo
 unfold PE
 omega
structure GW (k n : Nat) (nx : Nat → List Int) (st : Nat → List Nat) (T0 T : List (List Nat)) (again : Bool) (pc : Nat) : Prop where
 g : Gro k n nx st T
 le : tot T0 ≤ tot T
 yes : again = true → tot T0 < tot T
 no : again = false → T = T0 ∧ ∀ p, p < pc → MH nx st T p
theorem GW.start (g : Gro k n nx st T) : GW k n nx st T T false 0 := ⟨g, Nat.le_refl _, fun h => by (cases h), fun _ => ⟨rfl, fun p hp => by omega⟩⟩
structure FL (k n : Nat) (nx : Nat → List Int) (st : Nat → List Nat) (T0 T : List (List Nat)) (again : Bool) (pc : Nat) (R0 : List Nat) (j : Nat) : Prop where
 g : Gro k n nx st T
 le : tot T0 ≤ tot T
 yes : again = true → tot T0 < tot T
 no : again = false → T = T0 ∧ (∀ p, p < pc → MH nx st T p) ∧ R0 = T.getD pc [] ∧ ∀ d, d < j → Sub (o1 R0 (st pc)) (T.getD ((nx pc).getD d 0).toNat [])
variable {again : Bool}
theorem GW.go (h : GW k n nx st T0 T again pc) : FL k n nx st T0 T again pc (T.getD pc []) 0 :=
 ⟨h.g, h.le, h.yes, fun e => ⟨(h.no e).1, (h.no e).2, rfl, fun d hd => by omega⟩⟩
theorem FL.skip (h : FL k n nx st T0 T again pc R0 j) (hs : Sub (o1 R0 (st pc)) (T.getD ((nx pc).getD j 0).toNat [])) : FL k n nx st T0 T again pc R0 (j + 1) :=
 ⟨h.g, h.le, h.yes, fun e => ⟨(h.no e).1, (h.no e).2.1, (h.no e).2.2.1, fun d hd => if e2 : d = j then by rw [e2]; exact hs else (h.no e).2.2.2 d (by omega)⟩⟩
theorem FL.grow (p : Pro k n nx st) (hp : pc < n) (h : FL k n nx st T0 T again pc R0 j) (hR : Rl k (o1 R0 (st pc))) (hle : ∀ q ∈ nx pc, Sub (o1 R0 (st pc)) ((dC k n nx st).getD q.toNat [])) (hj : j < (nx pc).length) (hqe : ((nx pc).getD j 0).toNat = q) (hs : ¬ Sub (o1 R0 (st pc)) (T.getD q [])) : FL k n nx st T0 (T.set q (cN (T.getD q []) (o1 R0 (st pc)))) true pc R0 (j + 1) := by
 have hqm : (nx pc).getD j 0 ∈ nx pc := j9 hj
 have hq : q < n := by have := p.nx pc hp _ hqm; omega
 obtain ⟨g', hs'⟩ := h.g.set hq hR (by have := hle _ hqm; rwa [hqe] at this)
 have h2 := O8 h.g.tb hq (rC (h.g.tb.get hq) hR) (jO (h.g.tb.get hq) hR) (fun he => hs ((dN (h.g.tb.get hq) hR).1 he.symm))
 have h3 := h.le
 exact ⟨g', by omega, fun _ => by omega, fun e => by cases e⟩
theorem FL.fin (h : FL k n nx st T0 T again pc R0 (nx pc).length) : GW k n nx st T0 T again (pc + 1) := by
 refine ⟨h.g, h.le, h.yes, fun e => ⟨(h.no e).1, fun p hp => ?_⟩⟩
 obtain ⟨h1, h2, h3, h4⟩ := h.no e
 by_cases e2 : p = pc
 ·subst e2
  intro q hq
  obtain ⟨d, hd, rfl⟩ := List.getElem_of_mem hq
  have := h4 d hd
  rw [h3] at this
  simpa [List.getD, hd] using this
 ·exact h2 p (by omega)
theorem GW.done (p : Pro k n nx st) (h : GW k n nx st T0 T false n) : T = dC k n nx st := h.g.done p (h.no rfl).2
def mPas (n : Nat) (T : List (List Nat)) (again : Bool) : Nat := if again then 4608 * n - tot T + 1 else 0
theorem mPas_lt (hk : k ≤ 8) (h : GW k n nx st T0 T again pc) : mPas n T again < mPas n T0 true := by
 have h1 := FD hk h.g.tb
 unfold mPas
 cases again
 ·simp
 ·have := h.yes rfl
  simp only [if_true]
  omega
end
section
variable {u : Un} {c : Clo} {m : Nat}
end
section
variable (u : Un) (c : Clo) (m : Nat)
end
section
variable {u : Un} {c : Clo} {m : Nat}
end
end Go.Un
end
