/- My own texts, put together by a program of mine. -/
import Derived.Test.YtbmaijdkebjnhaaK5
set_option linter.unusedSimpArgs false
set_option linter.unusedVariables false
set_option maxRecDepth 100000
set_option maxHeartbeats 4000000
section
namespace Go.Proofs.Ytbmaijdkebjnhaa
open Go.Ab Go.Un
theorem BN {p : Go.Un.Pg} (h : GH p) {f : Fu} (hf : f ∈ p.funcs) : ∀ x ∈ f.params, qT x.name = false := by
  obtain ⟨i, hi, rfl⟩ := bZ (d := j4) hf
  intro x hx
  have hm : x.name ∈ (p.funcs.getD i j4).params.map (·.name) := List.mem_map.2 ⟨x, hx, rfl⟩
  rcases (h.fn i hi).2.2 with e | e | e <;> rw [e] at hm <;> simp at hm
  · rw [hm]; exact B6 1 (by omega)
  · rcases hm with e | e <;> rw [e]
    · exact B6 2 (by omega)
    · exact B6 1 (by omega)
theorem lV {α : Type} (f : α → List AV) (K j : Nat) (hK : ∀ a, (f a).length = K) (hj : j < K) (d : α) {l : List α} {i : Nat} (h : i < l.length) : List.take 1 (List.drop (i * K + j) (l.flatMap f)) = List.take 1 (List.drop j (f (l.getD i d))) := by
  rw [← cP f K hK d h, List.drop_take, List.take_take, List.drop_drop, Nat.min_eq_left (by omega)]
theorem HY {l : List Gl} {i : Nat} (h : i < l.length) : List.take 1 (List.drop (i * 2) (o7 l)) = [.str (l.getD i kH).name] := lV O8 2 0 (fun _ => rfl) (by omega) kH h
theorem HZ {l : List Gl} {i : Nat} (h : i < l.length) : List.take 1 (List.drop (i * 2 + 1) (o7 l)) = [.int .i64 (l.getD i kH).init] := lV O8 2 1 (fun _ => rfl) (by omega) kH h
theorem IA {l : List Pm} {i : Nat} (h : i < l.length) : List.take 1 (List.drop (i * 2) (v8 l)) = [.str (l.getD i gL).name] := lV O7 2 0 (fun _ => rfl) (by omega) gL h
theorem IB {l : List Pm} {i : Nat} (h : i < l.length) : List.take 1 (List.drop (i * 2 + 1) (v8 l)) = [.bool (l.getD i gL).mu] := lV O7 2 1 (fun _ => rfl) (by omega) gL h
theorem txtGl_0 {l : List Gl} {i : Nat} (h : (l.getD i kH).init = 0) : jS l (i + 1) = jS l i ++ yF ++ (l.getD i kH).name ++ oU := by rw [jS, if_pos h]
theorem txtGl_1 {l : List Gl} {i : Nat} (h : ¬ (l.getD i kH).init = 0) : jS l (i + 1) = jS l i ++ yF ++ (l.getD i kH).name ++ FJ ++ A5 (l.getD i kH).init ++ oU := by rw [jS, if_neg h]
theorem IC {l : List Mx} {out : BA} {i : Nat} (h1 : (l.getD i bL).re = false) (h : ¬ 0 < (l.getD i bL).size) : eA l out (i + 1) = eA l out i ++ bS ++ (l.getD i bL).name ++ oU := by rw [eA, if_neg h, if_neg (by rw [h1]; decide)]
theorem ID {l : List Mx} {out : BA} {i : Nat} (h1 : (l.getD i bL).re = true) (h : ¬ 0 < (l.getD i bL).size) : eA l out (i + 1) = eA l out i ++ t_r ++ bS ++ (l.getD i bL).name ++ oU := by rw [eA, if_neg h, if_pos h1]
theorem IE {l : List Mx} {out : BA} {i : Nat} (h1 : (l.getD i bL).re = false) (h : 0 < (l.getD i bL).size) : eA l out (i + 1) = eA l out i ++ bS ++ (l.getD i bL).name ++ DN ++ A5 (l.getD i bL).size ++ DO ++ oU := by rw [eA, if_pos h, if_neg (by rw [h1]; decide)]
theorem IF {l : List Mx} {out : BA} {i : Nat} (h1 : (l.getD i bL).re = true) (h : 0 < (l.getD i bL).size) : eA l out (i + 1) = eA l out i ++ t_r ++ bS ++ (l.getD i bL).name ++ DN ++ A5 (l.getD i bL).size ++ DO ++ oU := by rw [eA, if_pos h, if_pos h1]
theorem IG {l : List Pm} {out : BA} {i : Nat} (h1 : (l.getD i gL).mu = false) (h : ¬ 0 < i) : eU l out (i + 1) = eU l out i ++ (l.getD i gL).name := by rw [eU, if_neg h, if_neg (by rw [h1]; decide)]
theorem IH {l : List Pm} {out : BA} {i : Nat} (h1 : (l.getD i gL).mu = true) (h : ¬ 0 < i) : eU l out (i + 1) = eU l out i ++ bS ++ (l.getD i gL).name := by rw [eU, if_neg h, if_pos h1]
theorem II {l : List Pm} {out : BA} {i : Nat} (h1 : (l.getD i gL).mu = false) (h : 0 < i) : eU l out (i + 1) = eU l out i ++ kN ++ (l.getD i gL).name := by rw [eU, if_pos h, if_neg (by rw [h1]; decide)]
theorem IJ {l : List Pm} {out : BA} {i : Nat} (h1 : (l.getD i gL).mu = true) (h : 0 < i) : eU l out (i + 1) = eU l out i ++ kN ++ bS ++ (l.getD i gL).name := by rw [eU, if_pos h, if_pos h1]
theorem GHgres {p : Go.Un.Pg} (h : GH p) {f : Fu} (hf : f ∈ p.funcs) : pC (FO p f) := by
  refine ⟨⟨fun m hm => ?_, fun x hx => ?_⟩, fun x hx => ?_⟩
  · obtain ⟨i, hi, rfl⟩ := bZ (d := bL) hm
    show qT (p.c4.getD i bL).name = false
    rw [(h.mn i hi).1]
    exact AT i (by have := h.ml; have hi2 : i < p.c4.length := hi; omega)
  · exact BN h hf x hx
  · obtain ⟨g, hg, rfl⟩ := List.mem_map.1 hx
    obtain ⟨i, hi, rfl⟩ := bZ (d := j4) hg
    show qT (p.funcs.getD i j4).name = false
    rw [(h.fn i hi).1]
    exact AU i (by have := h.fl; omega)
theorem BO {p : Go.Un.Pg} (h : GH p) {f : Fu} (hf : f ∈ p.funcs) : z9 (FP p f) := by
  intro x hx
  refine ⟨h.NA hf x hx, ?_⟩
  rcases List.mem_append.1 hx with hx | hx
  · obtain ⟨g, hg, rfl⟩ := List.mem_map.1 hx
    obtain ⟨i, hi, rfl⟩ := bZ (d := kH) hg
    rw [(h.gn i hi).1]
    exact AS i (by have := h.gl; omega)
  · obtain ⟨g, hg, rfl⟩ := List.mem_map.1 hx
    exact BN h hf g (List.mem_filter.1 hg).1
theorem C7 {l : List Fu} {i : Nat} (h : i < l.length) : (l.getD i j4).body.wt ≤ pZ l l.length := by
  have key : ∀ n, i < n → (l.getD i j4).body.wt ≤ pZ l n := by
    intro n hn
    induction n with
    | zero => omega
    | succ n ih =>
      rw [pZ]
      by_cases e : i = n
      · rw [e]; omega
      · have := ih (by omega); omega
  exact key _ h
theorem c_lexF {h : c6} {L : Bs} (hx : LX L 4000) (hl : L.length ≤ 262144) : CallA Try.prog cfg 50 [.vec L.length (qS L)] h (fun y' h' => y' = .tup [.any, .int .i64 L.length, .int .i64 0] ∧ h' = h) :=
  yO rfl ((c_lex0 L 4000 hx (Nat.le_refl _) hl).mono fun _ _ h => h.1) h
theorem encB_8 {b : BA} : b.toList.map (fun c => AV.int .u8 ((c.toNat : Nat) : Int)) = qS (L8 b) := by rw [ByteArray.toList_eq]; rfl
theorem c_lexB {h : c6} {b : BA} (hx : LX (L8 b) 4000) (hl : b.size ≤ 262144) : CallA Try.prog cfg 50 [.vec b.size (b.toList.map fun c => AV.int .u8 ((c.toNat : Nat) : Int))] h (fun y' h' => y' = .tup [.any, .int .i64 b.size, .int .i64 0] ∧ h' = h) := by
  rw [encB_8, jR]
  exact c_lexF hx (by rw [← jR]; exact hl)
attribute [local go_sem] lS v9 j8 bI cQ bK n5 dL s9 bF aP Int.natCast_nonneg Int.natCast_inj List.length_map wrap64 P7 kP wB aH lH eq_mk lI Nat.reduceMul HY HZ IA IB vL rV dZ
theorem K5 {l : List Pm} (hn : ∀ x ∈ l, isName (L8 x.name)) (out : BA) : ∀ i, i ≤ l.length → (eU l out i).size ≤ out.size + 30 * i
  | 0, _ => Nat.le_refl _
  | i + 1, hi => by
    have ih := K5 hn out i (by omega)
    have hs := z1 (hn _ (l7 (d := gL) (show i < l.length from by omega)))
    have e1 : bS.size = 6 := rfl
    have e2 : kN.size = 2 := rfl
    unfold eU
    repeat' split
    all_goals simp only [aH]
    all_goals omega
theorem BP {l : List Fu} : ∀ {a b : Nat}, a ≤ b → pZ l a ≤ pZ l b := by
  intro a b h
  induction h with
  | refl => exact Nat.le_refl _
  | step _ ih => rw [pZ]; omega
theorem c_progT {h : c6} {p : Go.Un.Pg} (hp : GP p) : CallA Try.prog cfg 69 [.agg [.vec p.globals.length (o7 p.globals), .vec p.c4.length (j6 p.c4), .vec p.funcs.length (n4 p.funcs)]] h (fun y' h' => y' = .str (txtP p) ∧ h' = h) := by
  refine .b fn69 ntm69 ?_
  have hgl := qN hp.toGH p.globals.length (Nat.le_refl _)
  have hmx := qO hp.toGH hgl.1 p.c4.length (Nat.le_refl _)
  have hgl0 := hp.gl
  have hml0 := hp.ml
  have hfl0 := hp.fl
  have htot := hp.wt
  have hwm : ∀ i, i ≤ p.funcs.length → pZ p.funcs i ≤ 48 := fun i hi => Nat.le_trans (BP hi) htot
  refine c78z ?_
  refine .iB (fun m st => ∃ (i : Nat), (m = p.globals.length - i ∧ i ≤ p.globals.length) ∧ st = ⟨mkS 131 [(1, AV.ptr h.length 0 0), (3, AV.str (jS p.globals i)), (4, AV.int .i64 ((i : Nat) : Int))], h ++ [⟨0, false, 27, 3, [.vec p.globals.length (o7 p.globals), .vec p.c4.length (j6 p.c4), .vec p.funcs.length (n4 p.funcs)], 0⟩]⟩) _ (.v ⟨0, ⟨rfl, by omega⟩, rfl⟩ (hs := t43)) ?_
  rintro m sl h' ⟨i, ⟨hm, hi⟩, hst⟩
  obtain ⟨rfl, rfl⟩ := St.mk.inj hst
  have hsz := (qN hp.toGH i hi).2
  refine c0z ?_
  refine .spl 14 rfl rfl (fun e1 => ?_) (fun e1 => ?_)
  ·try simp only [e1]
   have qe1 := fact e1
   refine c11z ?_
   have hgn := eI (hp.toGH.Y4 (l7 (d := kH) (l := p.globals) (i := i) (by omega)))
   have hgi := (hp.gn i (by omega)).2
   refine .s ?_
   refine c77z ?_
   refine c149z ?_
   refine .z ?_
   refine .spl 32 rfl rfl (fun e2 => ?_) (fun e2 => ?_)
   ·try simp only [e2]
    have qe2 := fact e2
    refine .T ?_
    have hns := (rY hgi.1 hgi.2).2
    refine c118z ?_
    refine .ca rfl rfl (GK _ (by omega) (by omega)) ?_
    refine c45z ?_
    refine .c7 [1, 3, 4] ?_
    refine c32z ?_
    exact ⟨_, by omega, .v ⟨(i + 1), ⟨rfl, by omega⟩, rfl⟩ (hs := t43)⟩
   try simp only [e2]
   have qe2 := fact e2
   refine c4z ?_
   refine c86z ?_
   exact ⟨_, by omega, .v ⟨(i + 1), ⟨rfl, by omega⟩, rfl⟩ (hs := t43)⟩
  try simp only [e1]
  have qe1 := fact e1
  refine c3z ?_
  obtain rfl : i = p.globals.length := by omega
  change c8 ..
  refine c12z ?_
  refine .dU (fun m st => ∃ (i : Nat), (m = p.c4.length - i ∧ i ≤ p.c4.length) ∧ st = ⟨mkS 131 [(1, AV.ptr h.length 0 0), (3, AV.str (eA p.c4 (jS p.globals p.globals.length) i)), (5, AV.int .i64 ((i : Nat) : Int))], h ++ [⟨0, false, 27, 3, [.vec p.globals.length (o7 p.globals), .vec p.c4.length (j6 p.c4), .vec p.funcs.length (n4 p.funcs)], 0⟩]⟩) (.v ⟨0, ⟨rfl, by omega⟩, rfl⟩ (hs := t16)) ?_
  rintro m sl h' ⟨i, ⟨hm, hi⟩, hst⟩
  obtain ⟨rfl, rfl⟩ := St.mk.inj hst; clear hst
  have hsz := (qO hp.toGH hgl.1 i hi).2
  refine c0z ?_
  refine .spl 49 rfl rfl (fun e3 => ?_) (fun e3 => ?_)
  ·try simp only [e3]
   have qe3 := fact e3
   refine c11z ?_
   have hmn := eI (hp.toGH.FU (l7 (d := bL) (l := p.c4) (i := i) (by omega)))
   have hmi := (hp.mn i (by omega)).2
   refine c33z ?_
   refine .c7 [1, 3, 5, 6] ?_
   refine .z ?_
   refine .spl 58 rfl rfl (fun e4 => ?_) (fun e4 => ?_)
   ·try simp only [e4]
    have qe4 := fact e4
    refine c64z ?_
    refine c33z ?_
    refine .c7 [1, 3, 5, 6] ?_
    refine .z ?_
    refine .spl 68 rfl rfl (fun e5 => ?_) (fun e5 => ?_)
    ·try simp only [e5]
     have qe5 := fact e5
     refine .T ?_
     have hns := (rY (n := (p.c4.getD i bL).size) (by omega) (by omega)).2
     refine c142z ?_
     refine .ca rfl rfl (GK _ (by omega) (by omega)) ?_
     refine c45z ?_
     refine .c7 [1, 3, 5] ?_
     refine c32z ?_
     exact ⟨_, by omega, .v ⟨(i + 1), ⟨rfl, by omega⟩, rfl⟩ (he := t32) (hs := t16)⟩
    try simp only [e5]
    have qe5 := fact e5
    refine c4z ?_
    refine c32z ?_
    exact ⟨_, by omega, .v ⟨(i + 1), ⟨rfl, by omega⟩, rfl⟩ (he := t32) (hs := t16)⟩
   try simp only [e4]
   have qe4 := fact e4
   refine c4z ?_
   refine c79z ?_
   refine .spl 68 rfl rfl (fun e6 => ?_) (fun e6 => ?_)
   ·try simp only [e6]
    have qe6 := fact e6
    refine .T ?_
    refine .c7 [1, 3, 5, 6] ?_
    have hns := (rY (n := (p.c4.getD i bL).size) (by omega) (by omega)).2
    refine c142z ?_
    refine .ca rfl rfl (GK _ (by omega) (by omega)) ?_
    refine c45z ?_
    refine .c7 [1, 3, 5] ?_
    refine c32z ?_
    exact ⟨_, by omega, .v ⟨(i + 1), ⟨rfl, by omega⟩, rfl⟩ (he := t32) (hs := t16)⟩
   try simp only [e6]
   have qe6 := fact e6
   refine c4z ?_
   refine .c7 [1, 3, 5] ?_
   refine c32z ?_
   exact ⟨_, by omega, .v ⟨(i + 1), ⟨rfl, by omega⟩, rfl⟩ (he := t32) (hs := t16)⟩
  try simp only [e3]
  have qe3 := fact e3
  refine c3z ?_
  obtain rfl : i = p.c4.length := by omega
  change c8 ..
  refine c12z ?_
  refine .dU (fun m st => ∃ (i : Nat), (m = p.funcs.length - i ∧ i ≤ p.funcs.length) ∧ st = ⟨mkS 131 [(1, AV.ptr h.length 0 0), (3, AV.str (pY p.funcs (eA p.c4 (jS p.globals p.globals.length) p.c4.length) i)), (7, AV.int .i64 ((i : Nat) : Int))], h ++ [⟨0, false, 27, 3, [.vec p.globals.length (o7 p.globals), .vec p.c4.length (j6 p.c4), .vec p.funcs.length (n4 p.funcs)], 0⟩]⟩) (.v ⟨0, ⟨rfl, by omega⟩, rfl⟩) ?_
  rintro m sl h' ⟨i, ⟨hm, hi⟩, hst⟩
  obtain ⟨rfl, rfl⟩ := St.mk.inj hst; clear hst
  have hsz := (vS hp hmx.1 i hi).2
  have hwi := hwm i hi
  refine c0z ?_
  refine .spl 82 rfl rfl (fun e7 => ?_) (fun e7 => ?_)
  ·try simp only [e7]
   have qe7 := fact e7
   refine c11z ?_
   have hfm := l7 (d := j4) (l := p.funcs) (i := i) (by omega)
   have hfn := eI (hp.toGH.Y5 hfm)
   have hpn := hp.toGH.nP hfm
   have hbd := hp.body i (by omega)
   have hwt := C7 (l := p.funcs) (i := i) (by omega)
   have hww := hp.wt
   have hlw := dG (p.funcs.getD i j4).body
   refine .z ?_
   refine .c7 [1, 3, 7, 8] ?_
   refine c22z ?_
   refine .iB (fun m st => ∃ (j : Nat), (m = (p.funcs.getD i j4).params.length - j ∧ j ≤ (p.funcs.getD i j4).params.length) ∧ st = ⟨mkS 131 [(1, AV.ptr h.length 0 0), (3, AV.str (eU (p.funcs.getD i j4).params (pY p.funcs (eA p.c4 (jS p.globals p.globals.length) p.c4.length) i ++ pN ++ (p.funcs.getD i j4).name ++ tL) j)), (7, AV.int .i64 ((i : Nat) : Int)), (8, AV.ptr (h.length + 1) 0 0), (9, AV.int .i64 ((j : Nat) : Int))], h ++ [⟨0, false, 27, 3, [.vec p.globals.length (o7 p.globals), .vec p.c4.length (j6 p.c4), .vec p.funcs.length (n4 p.funcs)], 0⟩, ⟨0, false, 104, 3, [.str (p.funcs.getD i j4).name, .vec (p.funcs.getD i j4).params.length (v8 (p.funcs.getD i j4).params), .vec (p.funcs.getD i j4).body.len (n8 (p.funcs.getD i j4).body)], 0⟩]⟩) _ (.v ⟨0, ⟨rfl, by omega⟩, rfl⟩ (hs := t23)) ?_
   rintro m sl h' ⟨j, ⟨hm, hj⟩, hst⟩
   obtain ⟨rfl, rfl⟩ := St.mk.inj hst
   have hsp := K5 (l := (p.funcs.getD i j4).params) hpn.2 (pY p.funcs (eA p.c4 (jS p.globals p.globals.length) p.c4.length) i ++ pN ++ (p.funcs.getD i j4).name ++ tL) j hj
   have hs0 : (pY p.funcs (eA p.c4 (jS p.globals p.globals.length) p.c4.length) i ++ pN ++ (p.funcs.getD i j4).name ++ tL).size ≤ (pY p.funcs (eA p.c4 (jS p.globals p.globals.length) p.c4.length) i).size + 30 := by simp only [aH]; have e1 : pN.size = 5 := rfl; have e2 : tL.size = 1 := rfl; omega
   refine c0z ?_
   refine .spl 100 rfl rfl (fun e8 => ?_) (fun e8 => ?_)
   ·try simp only [e8]
    have qe8 := fact e8
    refine c11z ?_
    refine c0z ?_
    refine .spl 104 rfl rfl (fun e9 => ?_) (fun e9 => ?_)
    ·try simp only [e9]
     have qe9 := fact e9
     refine c64z ?_
     refine .seq ?_
     refine .c7 [1, 3, 7, 8, 9] ?_
     have hpj := eI (hpn.2 _ (l7 (d := gL) (l := (p.funcs.getD i j4).params) (i := j) (by omega)))
     refine .z ?_
     refine .spl 112 rfl rfl (fun e10 => ?_) (fun e10 => ?_)
     ·try simp only [e10]
      have qe10 := fact e10
      refine c64z ?_
      refine .c7 [1, 3, 7, 8, 9] ?_
      refine c166z ?_
      refine .rz ?_
      exact ⟨_, by omega, .v ⟨(j + 1), ⟨rfl, by omega⟩, rfl⟩ (hs := t23)⟩
     try simp only [e10]
     have qe10 := fact e10
     refine c4z ?_
     refine c166z ?_
     refine .rz ?_
     exact ⟨_, by omega, .v ⟨(j + 1), ⟨rfl, by omega⟩, rfl⟩ (hs := t23)⟩
    try simp only [e9]
    have qe9 := fact e9
    refine c55z ?_
    have hpj := eI (hpn.2 _ (l7 (d := gL) (l := (p.funcs.getD i j4).params) (i := j) (by omega)))
    refine .z ?_
    refine .spl 112 rfl rfl (fun e11 => ?_) (fun e11 => ?_)
    ·try simp only [e11]
     have qe11 := fact e11
     refine .T ?_
     refine .c7 [1, 3, 7, 8, 9] ?_
     refine c1z ?_
     refine c166z ?_
     refine .rz ?_
     exact ⟨_, by omega, .v ⟨(j + 1), ⟨rfl, by omega⟩, rfl⟩ (hs := t23)⟩
    try simp only [e11]
    have qe11 := fact e11
    refine c4z ?_
    refine .c7 [1, 3, 7, 8, 9] ?_
    refine c166z ?_
    refine .rz ?_
    exact ⟨_, by omega, .v ⟨(j + 1), ⟨rfl, by omega⟩, rfl⟩ (hs := t23)⟩
   try simp only [e8]
   have qe8 := fact e8
   refine c3z ?_
   obtain rfl : j = (p.funcs.getD i j4).params.length := by omega
   change c8 ..
   have htab : gA.size = 1 := rfl
   have hbs := (iW (hp.toGH.genv hfm) (p.funcs.getD i j4).body _ gA ByteArray.empty 0 (hp.toGH.NA hfm) hbd.1 (by omega) yG Cl.nil).2
   have he0 : ByteArray.empty.size = 0 := rfl
   refine c142z ?_
   refine .ca rfl rfl (AW (hp.toGH.genv hfm) 1000 _ (by omega) (Nat.le_refl _) _ gA (BO hp.toGH hfm) hbd.1 (by omega) yG _) ?_
   refine c45z ?_
   refine .c7 [1, 3, 7] ?_
   refine .rz ?_
   exact ⟨_, by omega, .v ⟨(i + 1), ⟨rfl, by omega⟩, rfl⟩ (he := t32)⟩
  try simp only [e7]
  have qe7 := fact e7
  refine c3z ?_
  obtain rfl : i = p.funcs.length := by omega
  change c8 ..
  refine .z ?_
  exact .ret (.ex (hq := by rfl))
theorem c_valid {h : c6} {p : Go.Un.Pg} (hp : GP p) : CallA Try.prog cfg 43 [.agg [.vec p.globals.length (o7 p.globals), .vec p.c4.length (j6 p.c4), .vec p.funcs.length (n4 p.funcs)]] h (fun y' h' => y' = .bool true ∧ h' = h) := by
  refine .b fn43 ntm43 ?_
  have hgl0 := hp.gl
  have hml0 := hp.ml
  have hfl0 := hp.fl
  refine c33z ?_
  refine c31z ?_
  refine .spl 16 rfl rfl (fun e1 => by exfalso; have q := fact e1; omega) (fun e1 => ?_)
  try simp only [e1]
  have qe1 := fact e1
  refine .k 6 [(4, 16)] ?_
  refine .spl 22 rfl rfl (fun e2 => by exfalso; have q := fact e2; omega) (fun e2 => ?_)
  try simp only [e2]
  have qe2 := fact e2
  refine .m [(10, 22)] ?_
  refine .spl 27 rfl rfl (fun e3 => by exfalso; have q := fact e3; omega) (fun e3 => ?_)
  try simp only [e3]
  have qe3 := fact e3
  refine c55z ?_
  refine .c7 [1] ?_
  refine c28z ?_
  refine .iB (fun m st => ∃ (i : Nat), (m = p.globals.length - i ∧ i ≤ p.globals.length) ∧ st = ⟨mkS 140 [(1, AV.ptr h.length 0 0), (3, AV.int .i64 ((i : Nat) : Int))], h ++ [⟨0, false, 27, 3, [.vec p.globals.length (o7 p.globals), .vec p.c4.length (j6 p.c4), .vec p.funcs.length (n4 p.funcs)], 0⟩]⟩) _ (.v ⟨0, ⟨rfl, by omega⟩, rfl⟩) ?_
  rintro m sl h' ⟨i, ⟨hm, hi⟩, hst⟩
  obtain ⟨rfl, rfl⟩ := St.mk.inj hst
  refine c0z ?_
  refine .spl 32 rfl rfl (fun e4 => ?_) (fun e4 => ?_)
  ·try simp only [e4]
   have qe4 := fact e4
   refine c11z ?_
   have hgi := (hp.gn i (by omega)).2
   have hgr : qT (p.globals.getD i kH).name = false := by rw [(hp.gn i (by omega)).1]; exact AS i (by omega)
   refine c103z ?_
   refine .ca rfl rfl (lG _ (hp.toGH.Y4 (l7 (d := kH) (l := p.globals) (i := i) (by omega))) hgr) ?_
   refine .k 8 [(8, 43)] ?_
   refine .m [(8, 43)] ?_
   refine .spl 51 rfl rfl (fun e5 => by exfalso; have q := fact e5; omega) (fun e5 => ?_)
   try simp only [e5]
   have qe5 := fact e5
   refine c13z ?_
   refine .c7 [1, 3] ?_
   refine .rz ?_
   exact ⟨_, by omega, .v ⟨(i + 1), ⟨rfl, by omega⟩, rfl⟩⟩
  try simp only [e4]
  have qe4 := fact e4
  refine c18z ?_
  refine c12z ?_
  refine .dU (fun m st => ∃ (i : Nat), (m = p.c4.length - i ∧ i ≤ p.c4.length) ∧ st = ⟨mkS 140 [(1, AV.ptr h.length 0 0), (4, AV.int .i64 ((i : Nat) : Int))], h ++ [⟨0, false, 27, 3, [.vec p.globals.length (o7 p.globals), .vec p.c4.length (j6 p.c4), .vec p.funcs.length (n4 p.funcs)], 0⟩]⟩) (.v ⟨0, ⟨rfl, by omega⟩, rfl⟩) ?_
  rintro m sl h' ⟨i, ⟨hm, hi⟩, hst⟩
  obtain ⟨rfl, rfl⟩ := St.mk.inj hst; clear hst
  refine c0z ?_
  refine .spl 56 rfl rfl (fun e6 => ?_) (fun e6 => ?_)
  ·try simp only [e6]
   have qe6 := fact e6
   refine c11z ?_
   have hmi := (hp.mn i (by omega)).2
   have hmr : qT (p.c4.getD i bL).name = false := by rw [(hp.mn i (by omega)).1]; exact AT i (by omega)
   refine .z ?_
   refine .c7 [1, 4, 5] ?_
   refine c25z ?_
   refine .ca rfl rfl (lG _ (hp.toGH.FU (l7 (d := bL) (l := p.c4) (i := i) (by omega))) hmr) ?_
   refine .k 7 [(4, 68)] ?_
   refine .spl 73 rfl rfl (fun e7 => by exfalso; have q := fact e7; omega) (fun e7 => ?_)
   try simp only [e7]
   have qe7 := fact e7
   refine .k 5 [(9, 73)] ?_
   refine .spl 78 rfl rfl (fun e8 => by exfalso; have q := fact e8; omega) (fun e8 => ?_)
   try simp only [e8]
   have qe8 := fact e8
   refine .k 3 [(14, 78)] ?_
   refine .spl 81 rfl rfl (fun e9 => ?_) (fun e9 => ?_)
   ·try simp only [e9]
    have qe9 := fact e9
    refine .m [(14, 78), (17, 81)] ?_
    refine .spl 86 rfl rfl (fun e10 => by exfalso; have q := fact e10; have := hmi.2.2 (by assumption); omega) (fun e10 => ?_)
    try simp only [e10]
    have qe10 := fact e10
    refine c13z ?_
    refine .c7 [1, 4] ?_
    refine .rz ?_
    exact ⟨_, by omega, .v ⟨(i + 1), ⟨rfl, by omega⟩, rfl⟩ (he := t32)⟩
   try simp only [e9]
   have qe9 := fact e9
   refine .m [(14, 78), (17, 81)] ?_
   refine c13z ?_
   refine .c7 [1, 4] ?_
   refine .rz ?_
   exact ⟨_, by omega, .v ⟨(i + 1), ⟨rfl, by omega⟩, rfl⟩ (he := t32)⟩
  try simp only [e6]
  have qe6 := fact e6
  refine c18z ?_
  refine c12z ?_
  refine .dU (fun m st => ∃ (i : Nat), (m = p.funcs.length - i ∧ i ≤ p.funcs.length) ∧ st = ⟨mkS 140 [(1, AV.ptr h.length 0 0), (6, AV.int .i64 ((i : Nat) : Int))], h ++ [⟨0, false, 27, 3, [.vec p.globals.length (o7 p.globals), .vec p.c4.length (j6 p.c4), .vec p.funcs.length (n4 p.funcs)], 0⟩]⟩) (.v ⟨0, ⟨rfl, by omega⟩, rfl⟩) ?_
  rintro m sl h' ⟨i, ⟨hm, hi⟩, hst⟩
  obtain ⟨rfl, rfl⟩ := St.mk.inj hst; clear hst
  refine c0z ?_
  refine .spl 91 rfl rfl (fun e11 => ?_) (fun e11 => ?_)
  ·try simp only [e11]
   have qe11 := fact e11
   refine c11z ?_
   have hfm := l7 (d := j4) (l := p.funcs) (i := i) (by omega)
   have hfn := eI (hp.toGH.Y5 hfm)
   have hpn := hp.toGH.nP hfm
   have hbd := hp.body i (by omega)
   have hwt := C7 (l := p.funcs) (i := i) (by omega)
   have hww := hp.wt
   have hlw := dG (p.funcs.getD i j4).body
   have hfr : qT (p.funcs.getD i j4).name = false := by rw [(hp.fn i (by omega)).1]; exact AU i (by omega)
   refine c33z ?_
   refine .c7 [1, 6, 7] ?_
   refine c25z ?_
   refine .ca rfl rfl (lG _ (hp.toGH.Y5 hfm) hfr) ?_
   refine .k 8 [(4, 103)] ?_
   refine .spl 109 rfl rfl (fun e12 => by exfalso; have q := fact e12; omega) (fun e12 => ?_)
   try simp only [e12]
   have qe12 := fact e12
   refine .k 2 [(10, 109)] ?_
   refine .ca rfl rfl (c_okS (hp.toGH.genv hfm) (GHgres hp.toGH hfm) 1000 _ (by omega) (Nat.le_refl _) _ 0 (BO hp.toGH hfm) hbd.1 (by omega) (by omega) _) ?_
   refine .m [(10, 109)] ?_
   refine c4z ?_
   refine .c7 [1, 6, 7] ?_
   refine c28z ?_
   refine .iB (fun m st => ∃ (j : Nat), (m = (p.funcs.getD i j4).params.length - j ∧ j ≤ (p.funcs.getD i j4).params.length) ∧ st = ⟨mkS 140 [(1, AV.ptr h.length 0 0), (6, AV.int .i64 ((i : Nat) : Int)), (7, AV.ptr (h.length + 1) 0 0), (8, AV.int .i64 ((j : Nat) : Int))], h ++ [⟨0, false, 27, 3, [.vec p.globals.length (o7 p.globals), .vec p.c4.length (j6 p.c4), .vec p.funcs.length (n4 p.funcs)], 0⟩, ⟨0, false, 104, 3, [.str (p.funcs.getD i j4).name, .vec (p.funcs.getD i j4).params.length (v8 (p.funcs.getD i j4).params), .vec (p.funcs.getD i j4).body.len (n8 (p.funcs.getD i j4).body)], 0⟩]⟩) _ (.v ⟨0, ⟨rfl, by omega⟩, rfl⟩) ?_
   rintro m sl h' ⟨j, ⟨hm, hj⟩, hst⟩
   obtain ⟨rfl, rfl⟩ := St.mk.inj hst
   refine c0z ?_
   refine .spl 119 rfl rfl (fun e13 => ?_) (fun e13 => ?_)
   ·try simp only [e13]
    have qe13 := fact e13
    refine c11z ?_
    refine c103z ?_
    refine .ca rfl rfl (lG _ (hpn.2 _ (l7 (d := gL) (l := (p.funcs.getD i j4).params) (i := j) (by omega))) (BN hp.toGH hfm _ (l7 (d := gL) (l := (p.funcs.getD i j4).params) (i := j) (by omega)))) ?_
    refine .n ?_
    refine c13z ?_
    refine .c7 [1, 6, 7, 8] ?_
    refine .rz ?_
    exact ⟨_, by omega, .v ⟨(j + 1), ⟨rfl, by omega⟩, rfl⟩⟩
   try simp only [e13]
   have qe13 := fact e13
   refine c18z ?_
   refine .rz ?_
   exact ⟨_, by omega, .v ⟨(i + 1), ⟨rfl, by omega⟩, rfl⟩ (he := t32)⟩
  try simp only [e11]
  have qe11 := fact e11
  refine c18z ?_
  have htx := txtP_ok hp
  refine c144z ?_
  refine .ca rfl rfl (c_progT hp) ?_
  refine .e 1 ?_
  refine .ca rfl rfl (c_lexB htx.1 htx.2) ?_
  refine .n ?_
  refine .c7 [11] ?_
  refine .z ?_
  exact .ret (.ex (hq := by rfl))
end Go.Proofs.Ytbmaijdkebjnhaa
end
section
namespace Go.Proofs.Ytbmaijdkebjnhaa
open Go.Ab Go.Un
def sc1 : AV → AV
  | .bool b => .bool b
  | .int k n => .int k n
  | .str s => .str s
  | _ => .any
def sc2 : AV → AV
  | .agg cs => .agg (cs.map sc1)
  | x => sc1 x
def PA : AV → AV
  | .tup xs => .tup (xs.map sc2)
  | x => sc2 x
section
variable {h1 h2 : c6} {φ1 φ2 : Map} {w : World} {v : Value} {x : AV}
theorem BQ (r : Rel h1 φ1 w v x) : Rel h2 φ2 w v (sc1 x) := by
  unfold sc1
  split
  · cases r.aU; exact .bD _
  · cases r.u4; exact .bU _ _
  · cases r.dT; exact .mY _
  · exact .iG _
theorem BS (r : Rel h1 φ1 w v x) : Rel h2 φ2 w v (sc2 x) := by
  unfold sc2
  split
  · rename_i cs
    obtain ⟨a, rfl, ha, hc, hr⟩ := r.iR
    refine .agg a _ (by simp [ha]) hc fun j u z hu hz => ?_
    rw [List.getElem?_map] at hz
    obtain ⟨y, hy, rfl⟩ := Option.map_eq_some_iff.1 hz
    exact BQ (hr j u y hu hy)
  · exact BQ r
theorem BT (r : Rel h1 φ1 w v x) : Rel h2 φ2 w v (PA x) := by
  unfold PA
  split
  · rename_i xs
    obtain ⟨a, rfl, ha, hr⟩ := r.kQ
    refine .tup a _ (by simp [ha]) fun j u z hu hz => ?_
    rw [List.getElem?_map] at hz
    obtain ⟨y, hy, rfl⟩ := Option.map_eq_some_iff.1 hz
    exact BS (hr j u y hu hy)
  · exact BS r
end
theorem borrowD {f : FuncId} {h : c6} {args args' : List AV} {x : AV} (ha : EW 0 h args' args) (r : CallA Try.prog cfg f args' (bX 0 h) fun y _ => y = x) : CallA Try.prog cfg f args h fun y k => y = PA x ∧ k = h := by
  intro B φ w cargs i hs hr
  obtain ⟨i', _⟩ := F5 0 i
  obtain ⟨k1, k2⟩ := ha.get
  refine (r B φ w cargs i' (by rw [k1]; exact hs) fun j v y h1 h2 => ?_).mono fun e w' hp => ?_
  · have hj : j < args.length := by rw [← k1]; exact (List.getElem?_eq_some_iff.1 h2).1
    have e1 : args'.getD j .any = y := by simp [List.getD, h2]
    have e2 : args.getD j .any = args[j] := by simp [List.getD, hj]
    rcases k2 j with h | h
    · rw [e1] at h
      rw [h]; exact .iG _
    · rw [e1, e2] at h
      exact F6 i 0 h (hr j v _ h1 (List.getElem?_eq_getElem hj))
  · obtain ⟨v, y, h', φ', rfl, h1, h2, h3, rfl⟩ := hp
    have hfree : ∀ k, k < w.heap.size → M9 (bX 0 h) φ w k := fun k hk => ⟨hk, fun β b hb hv => by
      rcases dC hb with ⟨hn, _⟩ | ⟨_, b', _, rfl⟩
      · omega
      · cases hv⟩
    have hk : ∀ k, k < w.heap.size → w'.heap[k]? = w.heap[k]? := fun k hk => (h2.kJ k (hfree k hk)).1
    have ev : Ev h φ w h φ w' := ⟨h2.os, h2.tape, h2.output, h2.size, fun k hs => ⟨hk k hs.1, Nat.lt_of_lt_of_le hs.1 h2.size, hs.2⟩, fun k j hs => ⟨World.cell?_of_block (hk k hs.1), Nat.lt_of_lt_of_le hs.1 h2.size, hs.2⟩, Nat.le_refl _, fun β b b' e1 e2 => by rw [e1] at e2; cases e2; exact ⟨Nat.le_refl _, fun _ => ⟨rfl, rfl, rfl⟩⟩⟩
    refine ⟨v, _, h, φ, rfl, ⟨fun β b hb hv => ?_, i.inj, i.base, i.cJ, Nat.le_trans i.room h2.size, fun g => ev.zL (i.eD g)⟩, ev, BT h3, rfl, rfl⟩
    obtain ⟨cur, q1, q2, q3, q4⟩ := i.blk β b hb hv
    exact ⟨cur, (hk _ (Array.getElem?_eq_some_iff.1 q1).1).trans q1, q2, q3, fun j v x a d => ⟨(q4 j v x a d).1, ev.rel (q4 j v x a d).2⟩⟩
theorem pD {H : c6} {β g n : Nat} {l : List Ent} {x : BA} (hb : H[β]? = some (p9 113 3 g (j5 l))) (hn : l.length = n) (hl : l.length < 1000000) (hf : bT l x = none) : CallA Try.prog cfg 45 [.own β g 0 n, .str x] H (fun y' h' => y' = .tup [.agg [.str ByteArray.empty, .int .i64 0, .int .i64 0], .bool false] ∧ h' = H) := by
  subst hn
  have e : DL 0 H (.own β g 0 l.length) = some (.vec l.length (j5 l)) := gV hb (Nat.zero_le _) (by rw [p6]; omega) (by omega) ((pB l).frz _ _ _)
  have ha : EW 0 H [.vec l.length (j5 l), .str x] [.own β g 0 l.length, .str x] := And.intro (.inr e) (And.intro (.inr rfl) trivial)
  exact borrowD ha ((BH hf hl).mono fun _ _ h => h.1)
theorem oB {p : Go.Un.Pg} : (aQ p).length = p.globals.length + (p.c4.length + p.funcs.length) := by simp [aQ]
theorem IK {p : Go.Un.Pg} {i : Nat} (h : i < (aQ p).length) : (aQ p).getD i iV = if i < p.globals.length then ⟨(p.globals.getD i kH).name, 1, (i : Int)⟩ else if i - p.globals.length < p.c4.length then ⟨(p.c4.getD (i - p.globals.length) bL).name, 2, ((i - p.globals.length : Nat) : Int)⟩ else ⟨(p.funcs.getD (i - p.globals.length - p.c4.length) j4).name, 3, ((i - p.globals.length - p.c4.length : Nat) : Int)⟩ := by
  rw [oB] at h
  unfold aQ
  rw [List.getD_eq_getElem?_getD]
  by_cases h1 : i < p.globals.length
  · rw [if_pos h1, List.getElem?_append_left t97]
    simp [h1]
  · rw [if_neg h1, List.getElem?_append_right (by simpa using Nat.le_of_not_lt h1)]
    simp only [List.length_map, List.length_range]
    by_cases h2 : i - p.globals.length < p.c4.length
    · rw [if_pos h2, List.getElem?_append_left t85]
      simp [h2]
    · rw [if_neg h2, List.getElem?_append_right (by simpa using Nat.le_of_not_lt h2)]
      simp only [List.length_map, List.length_range]
      have h3 : i - p.globals.length - p.c4.length < p.funcs.length := by omega
      simp [h3]
theorem BU {p : Go.Un.Pg} {i : Nat} (h : i < (aQ p).length) : (aQ p).getD i iV = if i < p.globals.length then ⟨(p.globals.getD i kH).name, 1, (i : Int)⟩ else if (i : Int) - p.globals.length < p.c4.length then ⟨(p.c4.getD ((i : Int) - p.globals.length).toNat bL).name, 2, (i : Int) - p.globals.length⟩ else ⟨(p.funcs.getD ((i : Int) - p.globals.length - p.c4.length).toNat j4).name, 3, (i : Int) - p.globals.length - p.c4.length⟩ := by
  rw [IK h]
  by_cases h1 : i < p.globals.length
  · rw [if_pos h1, if_pos h1]
  · rw [if_neg h1, if_neg h1, show ((i : Int) - p.globals.length).toNat = i - p.globals.length from by omega, show ((i : Int) - p.globals.length - p.c4.length).toNat = i - p.globals.length - p.c4.length from by omega]
    by_cases h2 : i - p.globals.length < p.c4.length
    · rw [if_pos h2, if_pos (by omega), show ((i - p.globals.length : Nat) : Int) = (i : Int) - p.globals.length from by omega]
    · rw [if_neg h2, if_neg (by omega), show ((i - p.globals.length - p.c4.length : Nat) : Int) = (i : Int) - p.globals.length - p.c4.length from by omega]
theorem BV {l : List Ent} (hn : (l.map (·.name)).Nodup) {i : Nat} (hi : i < l.length) : bT (l.take i) (l.getD i iV).name = none := by
  refine rZ fun h => ?_
  obtain ⟨e, he, hx⟩ := List.mem_map.1 h
  obtain ⟨j, hj, rfl⟩ := List.mem_iff_getElem.1 he
  simp only [List.length_take] at hj
  have hjl : j < l.length := by omega
  simp only [List.getElem_take] at hx
  have e1 : l.getD i iV = l[i] := by simp [List.getD, hi]
  rw [e1] at hx
  have := (List.pairwise_iff_getElem.1 hn) j i (by simpa using hjl) (by simpa using hi) (by omega)
  simp only [List.getElem_map] at this
  exact this hx
theorem uE {p : Go.Un.Pg} (h : GP p) : ((aQ p).map (·.name)).Nodup := by
  have h1 := (sB h.toGH (i := 0) (by have := h.fl; omega)).nodup sA
  rw [List.map_append] at h1
  exact (List.nodup_append.1 h1).1
theorem takeD {l : List Ent} {i : Nat} (h : i < l.length) : l.take (i + 1) = l.take i ++ [l.getD i iV] := by
  rw [List.take_add_one]
  simp [List.getD, h]
theorem zB {l : List Ent} {x : Ent} : j5 (l ++ [x]) = j5 l ++ [.str x.name, .int .i64 x.kind, .int .i64 x.n] := by simp [j5, gX]
theorem app_ent {h : c6} {b0 b2 b3 : Blk} {l : c6} {es : List Ent} {x : BA} {k m : Int} {g n : Nat} (hn : es.length = n) (hl : n < 100000) : j7 cfg 113 (h ++ (b0 :: p9 113 3 g (j5 es) :: b2 :: b3 :: ⟨0, false, 113, 3, [.str x, .int .i64 k, .int .i64 m], 0⟩ :: l)) (.own (h.length + 1) g 0 n) (.own (h.length + 4) 0 0 1) = some (.own (h.length + 1) (g + 1) 0 (n + 1), h ++ (b0 :: p9 113 3 (g + 1) (j5 (es ++ [⟨x, k, m⟩])) :: b2 :: b3 :: ⟨0, false, 113, 3, [.str x, .int .i64 k, .int .i64 m], 0⟩ :: l)) := by
  subst hn
  rw [aR (C := cfg) (K := 3) (m := 1) (new := [.str x, .int .i64 k, .int .i64 m]) (zs := j5 es) t33 rfl (by omega) (by rw [p6]; omega) rfl (by omega) (by simp [rd, o5]) rfl (by decide) (by omega), zB, s3]
  rfl
theorem IL {l : List Gl} {i : Nat} (h : i < l.length) : List.take 1 (List.drop (i * 2) (o7 l)) = [.str (l.getD i kH).name] := Q3 O8 2 0 (fun _ => rfl) (by omega) kH h
theorem IM {l : List Mx} {i : Nat} (h : i < l.length) : List.take 1 (List.drop (i * 3) (j6 l)) = [.str (l.getD i bL).name] := Q3 FG 3 0 (fun _ => rfl) (by omega) bL h
theorem IN {l : List Fu} {i : Nat} (h : i < l.length) : List.take 1 (List.drop (i * 3) (n4 l)) = [.str (l.getD i j4).name] := Q3 dZ 3 0 (fun _ => rfl) (by omega) j4 h
attribute [local go_sem] rd p6 j8 bI cQ cC aS dM dL s9 bF aP n5 bK Int.natCast_nonneg Int.natCast_inj List.length_map wrap64 bW iM iN I7 yJ A9 I8 wU max2 eP cV bN Nat.reduceMul lR jE s8 gX nV kA sP IL IM IN app_ent
theorem c_decl {h : c6} {p : Go.Un.Pg} (hp : GP p) : CallA Try.prog cfg 44 [.agg [.vec p.globals.length (o7 p.globals), .vec p.c4.length (j6 p.c4), .vec p.funcs.length (n4 p.funcs)]] h (fun y' h' => y' = .tup [.vec (aQ p).length (j5 (aQ p)), .int .i64 (-1)] ∧ h' = h) := by
  refine .b fn44 ntm44 ?_
  have hdl := oB (p := p)
  have hnd := uE hp
  have hgl := hp.gl
  have hml := hp.ml
  have hfl := hp.fl
  refine .z ?_
  refine .z ?_
  refine c52z ?_
  refine c77z ?_
  refine .seq ?_
  refine .c7 [1, 4, 5, 6] ?_
  refine c28z ?_
  refine c8.O4 4 rfl ?_
  refine .dU (fun m st => ∃ (i : Nat), (m = (aQ p).length - i ∧ i ≤ (aQ p).length) ∧ st = ⟨mkS 94 [(1, AV.ptr h.length 0 0), (4, AV.own (h.length + 1) i 0 i), (5, AV.int .i64 (-1)), (6, AV.int .i64 ((aQ p).length : Int)), (7, AV.int .i64 ((i : Nat) : Int))], h ++ [⟨0, false, 27, 3, [.vec p.globals.length (o7 p.globals), .vec p.c4.length (j6 p.c4), .vec p.funcs.length (n4 p.funcs)], 0⟩, p9 113 3 i (j5 ((aQ p).take i))]⟩) (.v ⟨0, ⟨rfl, by omega⟩, rfl⟩ (hs := t37)) ?_
  rintro m sl h' ⟨i, ⟨hm, hi⟩, hst⟩
  obtain ⟨rfl, rfl⟩ := St.mk.inj hst; clear hst
  have htl : ((aQ p).take i).length = i := by simp; omega
  refine c0z ?_
  refine .spl 25 rfl rfl (fun e1 => ?_) (fun e1 => ?_)
  ·try simp only [e1]
   have qe1 := fact e1
   refine c11z ?_
   refine c33z ?_
   have hat := BU (p := p) (i := i) (by omega)
   have hfn := BV hnd (i := i) (by omega)
   refine c28z ?_
   refine .c7 [1, 4, 5, 6, 7, 8, 9] ?_
   refine .z ?_
   refine .spl 50 rfl rfl (fun e2 => ?_) (fun e2 => ?_)
   ·try simp only [e2]
    have qe2 := fact e2
    refine .T ?_
    refine c159z ?_
    refine .seq ?_
    refine .c7 [1, 4, 5, 6, 7, 8] ?_
    rw [if_pos (by omega)] at hat
    rw [hat] at hfn
    refine c20z ?_
    refine .ca rfl rfl (pD t33 htl (by omega) hfn) ?_
    refine .n ?_
    refine .c7 [1, 4, 5, 6, 7, 8, 11] ?_
    refine .zm [(1, 83)] ?_
    refine c4z ?_
    refine c1z ?_
    refine .c7 [1, 4, 5, 6, 7] ?_
    refine .rz ?_
    exact ⟨_, by omega, .v ⟨(i + 1), ⟨rfl, by omega⟩, rfl⟩ (he := t73) (hk := t71) (hs := t37)⟩
   try simp only [e2]
   have qe2 := fact e2
   refine c14z ?_
   refine .spl 61 rfl rfl (fun e3 => ?_) (fun e3 => ?_)
   ·try simp only [e3]
    have qe3 := fact e3
    refine .T ?_
    refine .c7 [1, 4, 5, 6, 7, 8, 9] ?_
    refine c159z ?_
    refine .seq ?_
    refine .c7 [1, 4, 5, 6, 7, 8] ?_
    rw [if_neg (by omega), if_pos (by omega)] at hat
    rw [hat] at hfn
    refine c20z ?_
    refine .ca rfl rfl (pD t33 htl (by omega) hfn) ?_
    refine .n ?_
    refine .c7 [1, 4, 5, 6, 7, 8, 11] ?_
    refine .zm [(1, 83)] ?_
    refine c4z ?_
    refine c1z ?_
    refine .c7 [1, 4, 5, 6, 7] ?_
    refine .rz ?_
    exact ⟨_, by omega, .v ⟨(i + 1), ⟨rfl, by omega⟩, rfl⟩ (he := t73) (hk := t71) (hs := t37)⟩
   try simp only [e3]
   have qe3 := fact e3
   refine .F ?_
   refine .c7 [1, 4, 5, 6, 7, 8, 9] ?_
   refine .so z7 (mkP 17 [0, 1, 0, 0, 8, 24, 60, 127, 255, 511, 0, 0, 2048, 6144, 15360, 32767, 65535] [16]) ?_
   refine .k 8 [] ?_
   refine c167z ?_
   change c8 ..
   refine .seq ?_
   refine .c7 [1, 4, 5, 6, 7, 8] ?_
   rw [if_neg (by omega), if_neg (by omega)] at hat
   rw [hat] at hfn
   refine c20z ?_
   refine .ca rfl rfl (pD t33 htl (by omega) hfn) ?_
   refine .n ?_
   refine .c7 [1, 4, 5, 6, 7, 8, 11] ?_
   refine .zm [(1, 83)] ?_
   refine c4z ?_
   refine c1z ?_
   refine .c7 [1, 4, 5, 6, 7] ?_
   refine .rz ?_
   exact ⟨_, by omega, .v ⟨(i + 1), ⟨rfl, by omega⟩, rfl⟩ (he := t73) (hk := t71) (hs := t37)⟩
  try simp only [e1]
  have qe1 := fact e1
  refine c3z ?_
  obtain rfl : i = (aQ p).length := by omega
  rw [List.take_length]
  refine c8.W3 (t := 4) (γ := h.length + 1) (len := (aQ p).length) t33 (by rw [p6]; omega) (by omega) (pB _) (A0 (by decide) rfl) ?_
  rw [bA]; simp only [s3, List.set_cons_succ, List.set_cons_zero]
  change c8 ..
  refine .z ?_
  exact .ret (.ex (hq := by rfl))
def s0F (p : Go.Un.Pg) (f : Fu) : Sco := ⟨p, aQ p ++ kI f.params 0 0, (fG f.params : Int), 0, [], []⟩
def s1F (p : Go.Un.Pg) (f : Fu) : Sco := cS (s0F p f).l (s0F p f) f.body
def s2F (p : Go.Un.Pg) (f : Fu) : Sco := m9 (s1F p f) ⟨8, 0, false, l3, bQ, [], []⟩ (s1F p f).st
theorem IP {h : c6} {a b c d : Blk} {s : Sco} {r : c6} : (h ++ (a :: b :: c :: d :: s8 (h.length + 4) s :: p9 56 12 (s).code.length (o6 (s).code) :: p9 3 1 (s).sites.length (l6 (s).sites) :: r)) = hT ⟨h ++ [a, b, c, d], r⟩ (s8 (h.length + 4) s) s.code s.sites := by simp [hT]
theorem hF_k {h : c6} {a b c d : Blk} {r : c6} : Frm.k ⟨h ++ [a, b, c, d], r⟩ = h.length + 4 := by simp [Frm.k]
theorem IQ {h : c6} {a b c d : Blk} {r : c6} {E : Env} {cx : Ctx} {S : Sl} (hw : S.wt ≤ 1000) {vars : List BA} {s : Sco} (sc : SC E cx vars s.l) (hG : GS E S vars) (bd : Bd E cx s.p) (B : Bnd s S.wt) : CallA Try.prog cfg 70 [.ptr (h.length + 4) 0 0, .vec S.len (n8 S)] (h ++ (a :: b :: c :: d :: s8 (h.length + 4) s :: p9 56 12 (s).code.length (o6 (s).code) :: p9 3 1 (s).sites.length (l6 (s).sites) :: r)) (fun y' h' => y' = .tup [] ∧ h' = (h ++ (a :: b :: c :: d :: s8 (h.length + 4) (cS s.l s S) :: p9 56 12 ((cS s.l s S)).code.length (o6 ((cS s.l s S)).code) :: p9 3 1 ((cS s.l s S)).sites.length (l6 ((cS s.l s S)).sites) :: r))) := by
  have := K4 1000 S hw (Nat.le_refl _) vars s sc hG bd B ⟨h ++ [a, b, c, d], r⟩
  rw [hF_k, ← IP, ← IP] at this
  exact this
theorem c_putF {h : c6} {a b c d : Blk} {r : c6} {s : Sco} (hc : s.code.length < 10000) (hs : s.sites.length < 10000) (i : Ins) (t : Int) {zs : List AV} (hz : mV (eF i) zs) : CallA Try.prog cfg 71 [.ptr (h.length + 4) 0 0, .agg zs, .int .i64 t] (h ++ (a :: b :: c :: d :: s8 (h.length + 4) s :: p9 56 12 (s).code.length (o6 (s).code) :: p9 3 1 (s).sites.length (l6 (s).sites) :: r)) (fun y' h' => y' = .int .i64 ((s.code.length : Nat) : Int) ∧ h' = (h ++ (a :: b :: c :: d :: s8 (h.length + 4) (m9 s i t) :: p9 56 12 ((m9 s i t)).code.length (o6 ((m9 s i t)).code) :: p9 3 1 ((m9 s i t)).sites.length (l6 ((m9 s i t)).sites) :: r))) := by
  have := jG (e := ⟨h ++ [a, b, c, d], r⟩) hc hs i t hz
  rw [hF_k, ← IP, ← IP] at this
  exact this
theorem app_cpF {h : c6} {b0 b1 b2 : Blk} {l : c6} {es : List Ent} {n : Nat} (hz : es.length = n) (h0 : 0 < n) (hn : n < 1000) : j7 cfg 113 (h ++ (b0 :: b1 :: b2 :: ⟨0, false, 113, 3, [], 0⟩ :: l)) (.own (h.length + 3) 0 0 0) (.vec n (j5 es)) = some (.own (h.length + 3) 1 0 n, h ++ (b0 :: b1 :: b2 :: ⟨1, false, 113, 3, j5 es, 0⟩ :: l)) := by
  subst hz
  have e1 : cfg.sz 113 = 3 := rfl
  have e2 : (cfg.ti 113).bytes = 32 := rfl
  have hm : es.length ≤ maxLen := by
    have : (1000 : Nat) ≤ maxLen := by decide
    omega
  have hb : es.length * 32 ≤ 140737488355328 := by omega
  have h1 : (j5 es).length = es.length * 3 := by rw [p6]; omega
  have h2 : ¬ es.length = 0 := by omega
  have h3 : ¬ es.length * 3 = 0 := by omega
  simp [j7, rd, lenOf, e1, e2, h1, hm, hb, o5, s3, h0, h2, h3]
theorem app_onF {h : c6} {b0 b1 b2 b4 b5 b6 b7 b8 : Blk} {l : c6} {es : List Ent} {x : BA} {k m : Int} {g n : Nat} (hz : es.length = n) (hn : n < 1000) : j7 cfg 113 (h ++ (b0 :: b1 :: b2 :: ⟨g, false, 113, 3, j5 es, 0⟩ :: b4 :: b5 :: b6 :: b7 :: b8 :: ⟨0, false, 113, 3, [.str x, .int .i64 k, .int .i64 m], 0⟩ :: l)) (.own (h.length + 3) g 0 n) (.own (h.length + 9) 0 0 1) = some (.own (h.length + 3) (g + 1) 0 (n + 1), h ++ (b0 :: b1 :: b2 :: ⟨g + 1, false, 113, 3, j5 (es ++ [⟨x, k, m⟩]), 0⟩ :: b4 :: b5 :: b6 :: b7 :: b8 :: ⟨0, false, 113, 3, [.str x, .int .i64 k, .int .i64 m], 0⟩ :: l)) := by
  subst hz
  have e1 : cfg.sz 113 = 3 := rfl
  have e2 : (cfg.ti 113).bytes = 32 := rfl
  have hm : es.length + 1 ≤ maxLen := by
    have : (1001 : Nat) ≤ maxLen := by decide
    omega
  have hb : (es.length + 1) * 32 ≤ 140737488355328 := by omega
  have h1 : (j5 es).length = es.length * 3 := by rw [p6]; omega
  have ht : List.take (es.length * 3) (j5 es) = j5 es := List.take_of_length_le (by omega)
  have hnl : ¬ (es.length + 1) * 3 ≤ es.length * 3 := by omega
  have hs : j5 (es ++ [⟨x, k, m⟩]) = j5 es ++ [.str x, .int .i64 k, .int .i64 m] := by simp [j5, gX]
  simp [j7, rd, lenOf, e1, e2, h1, hm, hb, ht, hnl, o5, s3, hs]
theorem oC : ∀ {l : List Pm} {x : Pm} {a b : Nat}, kI (l ++ [x]) a b = kI l a b ++ [if x.mu then ⟨x.name, 5, ((b + bC l : Nat) : Int)⟩ else ⟨x.name, 4, ((a + fG l : Nat) : Int)⟩]
  | [], x, a, b => by simp [kI, bC, fG]; split <;> rfl
  | y :: l, x, a, b => by
    simp only [List.cons_append, kI]
    cases hy : y.mu with
    | true =>
      simp only [if_true, oC (l := l), List.cons_append, bC, fG, List.filter_cons, hy, Bool.not_true, Bool.false_eq_true, if_false, List.length_cons]
      rw [show b + 1 + (l.filter fun x => x.mu).length = b + ((l.filter fun x => x.mu).length + 1) from by omega]
    | false =>
      simp only [Bool.false_eq_true, if_false, oC (l := l), List.cons_append, bC, fG, List.filter_cons, hy, Bool.not_false, if_true, List.length_cons]
      rw [show a + 1 + (l.filter fun x => !x.mu).length = a + ((l.filter fun x => !x.mu).length + 1) from by omega]
theorem K6 {l : List Pm} {a b : Nat} : (kI l a b).length = l.length := by
  have := congrArg List.length (gR l a b)
  simpa using this
theorem K7 {l : List Pm} : fG l ≤ l.length := List.length_filter_le _ _
theorem pE {l : List Pm} {i : Nat} (h : i < l.length) : l.take (i + 1) = l.take i ++ [l.getD i gL] := by
  rw [List.take_add_one]
  simp [List.getD, h]
theorem uF {l : List Pm} {x : Pm} : fG (l ++ [x]) = fG l + (if x.mu then 0 else 1) := by
  simp only [fG, List.filter_append, List.length_append]
  cases h : x.mu <;> simp [h]
theorem sU {l : List Pm} {x : Pm} : bC (l ++ [x]) = bC l + (if x.mu then 1 else 0) := by
  simp only [bC, List.filter_append, List.length_append]
  cases h : x.mu <;> simp [h]
theorem drop_pm {l : List Pm} {i : Nat} (hi : i < l.length) : l.drop i = l.getD i gL :: l.drop (i + 1) := by
  rw [List.drop_eq_getElem_cons hi]
  simp [List.getD, hi]
theorem findP {p : Go.Un.Pg} (hp : GP p) {j : Nat} (hj : j < p.funcs.length) {i : Nat} (hi : i < (p.funcs.getD j j4).params.length) : bT (aQ p ++ kI ((p.funcs.getD j j4).params.take i) 0 0) ((p.funcs.getD j j4).params.getD i gL).name = none := by
  have hn := (sB hp.toGH hj).nodup sA
  rw [List.map_append, gR] at hn
  have hs : ((p.funcs.getD j j4).params.map (·.name)) = (((p.funcs.getD j j4).params.take i).map (·.name)) ++ ((p.funcs.getD j j4).params.getD i gL).name :: (((p.funcs.getD j j4).params.drop (i + 1)).map (·.name)) := by
    have h1 : (p.funcs.getD j j4).params = (p.funcs.getD j j4).params.take i ++ ((p.funcs.getD j j4).params.getD i gL :: (p.funcs.getD j j4).params.drop (i + 1)) := by
      have h2 := drop_pm hi
      rw [← h2, List.take_append_drop]
    have h3 := congrArg (List.map (fun x : Pm => x.name)) h1
    rw [List.map_append, List.map_cons] at h3
    exact h3
  rw [hs, ← List.append_assoc] at hn
  refine rZ fun hm => ?_
  rw [List.map_append, gR] at hm
  exact (List.nodup_append.1 hn).2.2 _ hm _ (by simp) rfl
theorem bd_of {p : Go.Un.Pg} (hp : GP p) {f : Fu} : Bd (FO p f) (ctxP p f) p := ⟨rfl, rfl, rfl, fun x hx => by
  obtain ⟨g, hg, rfl⟩ := List.mem_map.1 hx
  exact (hp.toGH.nP hg).1⟩
theorem IS {l : List Pm} {i : Nat} (h : i < l.length) : List.take 1 (List.drop (i * 2) (v8 l)) = [.str (l.getD i gL).name] := Q3 O7 2 0 (fun _ => rfl) (by omega) gL h
section
attribute [local go_sem] app_cpF app_onF wL sQ sR wM wN oZ lU IS
theorem c_func {h : c6} {p : Go.Un.Pg} (hp : GP p) {j : Nat} (hj : j < p.funcs.length) : CallA Try.prog cfg 46 [.agg [.vec p.globals.length (o7 p.globals), .vec p.c4.length (j6 p.c4), .vec p.funcs.length (n4 p.funcs)], .vec (aQ p).length (j5 (aQ p)), .agg (dZ (p.funcs.getD j j4))] h (fun y' h' => y' = .tup [.agg (rW (mA p (p.funcs.getD j j4))), .vec (s2F p (p.funcs.getD j j4)).sites.length (l6 (s2F p (p.funcs.getD j j4)).sites), .int .i64 0, .int .i64 0] ∧ h' = h) := by
  unfold dZ
  refine .b fn46 ntm46 ?_
  have hdl := oB (p := p)
  have hgl := hp.gl
  have hml := hp.ml
  have hfl := hp.fl
  have hpn := (hp.toGH.nP (l7 (d := j4) hj)).1
  have hbd := hp.body j hj
  have hwt := C7 (l := p.funcs) hj
  have hww := hp.wt
  refine .z ?_
  refine .sg z7 (mkG 7 [0, 0, 0, 6, 15, 31, 63] [1, 3, 5] [0, 0, 0, 2, 10, 10, 42] [32, 40, 40, 32, 32, 0, 0] [] [0, 2, 10, 42] [0]) 0 ?_
  refine .rm [true] ?_
  refine .en [true] [2, 0] [_] ?_
  refine .p 1 ?_
  refine .en [true, false] [10, 2, 0] [_] ?_
  refine .p 1 ?_
  refine .en [true, false, false] [42, 10, 2, 0] [_] ?_
  refine .p 1 ?_
  refine .po [false, true, true, true] ?_
  refine u9.nil rfl ?_
  refine .c7 [5, 6, 10] ?_
  refine c8.lZ (β := h.length + 4) (k := 8) t33 rfl ?_
  simp only [List.append_assoc, List.cons_append, List.nil_append, o5, s3, List.set_cons_succ, List.set_cons_zero, List.length_append, List.length_cons, List.length_nil, Nat.reduceAdd, Nat.zero_add]
  refine c8.lZ (β := h.length + 4) (k := 9) t33 rfl ?_
  simp only [List.append_assoc, List.cons_append, List.nil_append, o5, s3, List.set_cons_succ, List.set_cons_zero, List.length_append, List.length_cons, List.length_nil, Nat.reduceAdd, Nat.zero_add]
  refine c22z ?_
  refine .dU (fun m st => ∃ (i : Nat), (m = (p.funcs.getD j j4).params.length - i ∧ i ≤ (p.funcs.getD j j4).params.length) ∧ st = ⟨mkS 136 [(5, AV.ptr (h.length + 1) 0 0), (6, AV.ptr (h.length + 2) 0 0), (10, AV.ptr (h.length + 4) 0 0), (11, AV.ptr (h.length + 7) 0 0), (12, AV.int .i64 ((i : Nat) : Int))], h ++ [⟨0, false, 27, 3, [.vec p.globals.length (o7 p.globals), .vec p.c4.length (j6 p.c4), .vec p.funcs.length (n4 p.funcs)], 0⟩, ⟨0, false, 104, 3, [.str (p.funcs.getD j j4).name, .vec (p.funcs.getD j j4).params.length (v8 (p.funcs.getD j j4).params), .vec (p.funcs.getD j j4).body.len (n8 (p.funcs.getD j j4).body)], 0⟩, ⟨0, false, 59, 5, [.str ByteArray.empty, .int .i64 0, .int .i64 0, .int .i64 0, .g6], 0⟩, ⟨1 + i, false, 113, 3, j5 (aQ p ++ kI ((p.funcs.getD j j4).params.take i) 0 0), 0⟩, ⟨0, false, 164, 10, [.vec p.globals.length (o7 p.globals), .vec p.c4.length (j6 p.c4), .vec p.funcs.length (n4 p.funcs), .own (h.length + 3) (1 + i) 0 ((aQ p).length + i), .int .i64 0, .int .i64 0, .int .i64 0, .int .i64 0, .own (h.length + 5) 0 0 0, .own (h.length + 6) 0 0 0], 0⟩, ⟨0, true, 0, 0, [], 0⟩, ⟨0, true, 0, 0, [], 0⟩, ⟨0, false, 59, 5, [.str (p.funcs.getD j j4).name, .int .i64 ((fG ((p.funcs.getD j j4).params.take i) : Nat) : Int), .int .i64 ((bC ((p.funcs.getD j j4).params.take i) : Nat) : Int), .int .i64 0, .g6], 0⟩]⟩) (.v ⟨0, ⟨rfl, by omega⟩, rfl⟩) ?_ (he := by (simp [kI, fG, bC]))
  rintro m sl h' ⟨i, ⟨hm, hi⟩, hst⟩
  obtain ⟨rfl, rfl⟩ := St.mk.inj hst; clear hst
  have hLl : (aQ p ++ kI ((p.funcs.getD j j4).params.take i) 0 0).length = (aQ p).length + i := by simp only [List.length_append, K6, List.length_take]; omega
  have hpl : (kI ((p.funcs.getD j j4).params.take i) 0 0).length = i := by simp only [K6, List.length_take]; omega
  have hne : j5 (aQ p ++ kI ((p.funcs.getD j j4).params.take i) 0 0) ≠ [] := by intro h0; have := congrArg List.length h0; rw [p6] at this; simp only [List.length_nil] at this; omega
  have hni := K7 (l := (p.funcs.getD j j4).params.take i); have hnl := yI (l := (p.funcs.getD j j4).params.take i); rw [List.length_take] at hni hnl
  refine c0z ?_
  refine .spl 28 rfl rfl (fun e1 => ?_) (fun e1 => ?_)
  ·try simp only [e1]
   have qe1 := fact e1
   refine c11z ?_
   refine .seq ?_
   have hfn := findP hp hj (i := i) (by omega)
   refine .sg z7 (mkG 17 [0, 1, 3, 7, 0, 16, 0, 112, 240, 496, 1023, 2047, 4095, 4095, 0, 24575, 65535] [10, 14, 15] [0, 0, 0, 0, 0, 0, 0, 0, 0, 0, 0, 1024, 1024, 1024, 0, 17408, 50176] [33792, 33792, 33792, 33792, 33792, 33792, 33792, 33792, 33792, 33792, 32768, 32768, 32768, 0, 32768, 0, 0] [(14, 0)] [0, 1024, 16384, 17408, 50176] [0, 1, 2, 3, 4, 5, 6, 7, 8, 9, 10, 11, 12, 13]) 1 ?_
   refine u9.aD t19 ?_
   refine .p 3 ?_
   refine c84z ?_
   refine .p 3 ?_
   refine .rm [true] ?_
   refine .cm [true] [1024, 0] [_] rfl rfl (by simp only [jL, and_true, List.cons_append, List.nil_append]; exact pD (by rw [o5, fC hne]; rfl) hLl (by omega) hfn) ?_
   refine .p 3 ?_
   refine .en [true, true] [17408, 16384, 1024, 0] [_, _] ?_
   refine .en [true, false, false, false] [50176, 17408, 16384, 1024, 0] [_] ?_
   refine .p 1 ?_
   refine u9.pop [false, false, true, false, true] (by kernel_rfl) (by simp only [pK, and_true, List.cons_append, List.nil_append]; exact ⟨cY.p8 rfl rfl rfl rfl hb45 (pD (by rw [o5, fC hne]; rfl) hLl (by omega) hfn) rfl, cY.p8 rfl rfl rfl rfl hb45 (pD (by rw [o5, fC hne]; rfl) hLl (by omega) hfn) rfl⟩) ?_
   refine c109z ?_
   refine .po [false, false, true, false, true] ?_
   refine u9.nil rfl ?_
   refine .c7 [5, 6, 10, 11, 12, 14] ?_
   refine .z ?_
   refine c83z ?_
   refine .spl 52 rfl rfl (fun e2 => ?_) (fun e2 => ?_)
   ·try simp only [e2]
    have qe2 := fact e2
    refine .T ?_
    refine .c7 [5, 6, 10, 11, 12] ?_
    refine .sg z7 (mkG 19 [0, 0, 2, 6, 14, 0, 32, 0, 224, 480, 992, 0, 2048, 8160, 16352, 32766, 65535, 131071, 262143] [14, 15, 18] [0, 0, 0, 0, 0, 0, 0, 0, 0, 0, 0, 0, 0, 0, 0, 16384, 49152, 49152, 49152] [262144, 294912, 294912, 294912, 294912, 311296, 311296, 311296, 311296, 311296, 311296, 311296, 311296, 311296, 294912, 262144, 262144, 262144, 0] [] [0, 16384, 49152, 311296] [0, 1, 2, 3, 4]) 0 ?_
    refine .p 4 ?_
    refine c124z ?_
    refine c85z ?_
    refine .rn [true] ?_
    refine .p 1 ?_
    refine .rn [true] ?_
    refine .p 1 ?_
    refine .en [true] [16384, 0] [_] ?_
    refine .en [true, false] [49152, 16384, 0] [_] ?_
    refine .p 2 ?_
    refine .en [true, false, false] [311296, 49152, 16384, 0] [_] ?_
    refine c26z ?_
    refine .c7 [5, 6, 10, 11, 12, 59] ?_
    refine c32z ?_
    have hmu : ((p.funcs.getD j j4).params.getD i gL).mu = true := by simp_all
    have hs1 : kI ((p.funcs.getD j j4).params.take (i + 1)) 0 0 = kI ((p.funcs.getD j j4).params.take i) 0 0 ++ [⟨((p.funcs.getD j j4).params.getD i gL).name, 5, ((bC ((p.funcs.getD j j4).params.take i) : Nat) : Int)⟩] := by rw [pE (by omega), oC, hmu]; simp
    have hs2 : fG ((p.funcs.getD j j4).params.take (i + 1)) = fG ((p.funcs.getD j j4).params.take i) + 0 := by rw [pE (by omega), uF, hmu]; rfl
    have hs3 : bC ((p.funcs.getD j j4).params.take (i + 1)) = bC ((p.funcs.getD j j4).params.take i) + 1 := by rw [pE (by omega), sU, hmu]; rfl
    exact ⟨_, by omega, .v ⟨(i + 1), ⟨rfl, by omega⟩, rfl⟩ (he := t90) (hk := t54)⟩
   try simp only [e2]
   have qe2 := fact e2
   refine .F ?_
   refine .c7 [5, 6, 10, 11, 12] ?_
   refine .sg z7 (mkG 19 [0, 0, 2, 6, 14, 0, 32, 0, 224, 480, 992, 0, 2048, 8160, 16352, 32766, 65535, 131071, 262143] [14, 15, 18] [0, 0, 0, 0, 0, 0, 0, 0, 0, 0, 0, 0, 0, 0, 0, 16384, 49152, 49152, 49152] [262144, 294912, 294912, 294912, 294912, 311296, 311296, 311296, 311296, 311296, 311296, 311296, 311296, 311296, 294912, 262144, 262144, 262144, 0] [] [0, 16384, 49152, 311296] [0, 1, 2, 3, 4]) 0 ?_
   refine .p 4 ?_
   refine c124z ?_
   refine c85z ?_
   refine .rn [true] ?_
   refine .p 1 ?_
   refine .rn [true] ?_
   refine .p 1 ?_
   refine .en [true] [16384, 0] [_] ?_
   refine .en [true, false] [49152, 16384, 0] [_] ?_
   refine .p 2 ?_
   refine .en [true, false, false] [311296, 49152, 16384, 0] [_] ?_
   refine c26z ?_
   refine .c7 [5, 6, 10, 11, 12] ?_
   refine c32z ?_
   have hmu : ((p.funcs.getD j j4).params.getD i gL).mu = false := by simp_all
   have hs1 : kI ((p.funcs.getD j j4).params.take (i + 1)) 0 0 = kI ((p.funcs.getD j j4).params.take i) 0 0 ++ [⟨((p.funcs.getD j j4).params.getD i gL).name, 4, ((fG ((p.funcs.getD j j4).params.take i) : Nat) : Int)⟩] := by rw [pE (by omega), oC, hmu]; simp
   have hs2 : fG ((p.funcs.getD j j4).params.take (i + 1)) = fG ((p.funcs.getD j j4).params.take i) + 1 := by rw [pE (by omega), uF, hmu]; rfl
   have hs3 : bC ((p.funcs.getD j j4).params.take (i + 1)) = bC ((p.funcs.getD j j4).params.take i) + 0 := by rw [pE (by omega), sU, hmu]; rfl
   exact ⟨_, by omega, .v ⟨(i + 1), ⟨rfl, by omega⟩, rfl⟩ (he := t90) (hk := t54)⟩
  try simp only [e1]
  have qe1 := fact e1
  refine c3z ?_
  obtain rfl : i = (p.funcs.getD j j4).params.length := by omega
  rw [List.take_length] at hLl hne ⊢
  rw [← hLl]
  refine c8.O2 (γ := h.length + 3) (β := h.length + 4) (k := 3) (off := 0) (len := (aQ p ++ kI (p.funcs.getD j j4).params 0 0).length) (cs := j5 (aQ p ++ kI (p.funcs.getD j j4).params 0 0)) t33 rfl (by simp only [p6]; omega) (by rw [List.drop_zero, List.take_of_length_le (by simp only [p6]; omega)]; exact (pB _).QT) t33 (by omega) rfl ?_
  simp only [List.append_assoc, List.cons_append, List.nil_append, o5, s3, List.set_cons_succ, List.set_cons_zero, List.length_append, List.length_cons, List.length_nil, Nat.reduceAdd, Nat.zero_add]
  change c8 ..
  refine .z ?_
  refine .c7 [5, 6, 10, 11] ?_
  refine c8.aD (h ++ [⟨0, false, 27, 3, [.vec p.globals.length (o7 p.globals), .vec p.c4.length (j6 p.c4), .vec p.funcs.length (n4 p.funcs)], 0⟩, ⟨0, false, 104, 3, [.str (p.funcs.getD j j4).name, .vec (p.funcs.getD j j4).params.length (v8 (p.funcs.getD j j4).params), .vec (p.funcs.getD j j4).body.len (n8 (p.funcs.getD j j4).body)], 0⟩, ⟨0, false, 59, 5, [.str ByteArray.empty, .int .i64 0, .int .i64 0, .int .i64 0, .g6], 0⟩, eT ⟨1 + (p.funcs.getD j j4).params.length, false, 113, 3, j5 (aQ p ++ kI (p.funcs.getD j j4).params 0 0), 0⟩ (0 + (aQ p ++ kI (p.funcs.getD j j4).params 0 0).length * 3), s8 (h.length + 4) (s0F p (p.funcs.getD j j4)), p9 56 12 (s0F p (p.funcs.getD j j4)).code.length (o6 (s0F p (p.funcs.getD j j4)).code), p9 3 1 (s0F p (p.funcs.getD j j4)).sites.length (l6 (s0F p (p.funcs.getD j j4)).sites), ⟨0, false, 59, 5, [.str (p.funcs.getD j j4).name, .int .i64 ((fG (p.funcs.getD j j4).params : Nat) : Int), .int .i64 ((bC (p.funcs.getD j j4).params : Nat) : Int), .int .i64 0, .g6], 0⟩]) (by simp only [s0F, s8, List.length_append, Nat.zero_add]; rfl) ?_
  generalize eT ⟨1 + (p.funcs.getD j j4).params.length, false, 113, 3, j5 (aQ p ++ kI (p.funcs.getD j j4).params 0 0), 0⟩ (0 + (aQ p ++ kI (p.funcs.getD j j4).params 0 0).length * 3) = Lb
  have hni2 := K7 (l := (p.funcs.getD j j4).params)
  have hB0 : Bnd (s0F p (p.funcs.getD j j4)) (p.funcs.getD j j4).body.wt := ⟨by show 0 < (aQ p ++ kI (p.funcs.getD j j4).params 0 0).length; omega, by show (aQ p ++ kI (p.funcs.getD j j4).params 0 0).length + _ ≤ _; omega, by show 0 + _ ≤ _; omega, by show 0 + _ ≤ _; omega, by show 0 ≤ ((fG (p.funcs.getD j j4).params : Nat) : Int); omega, by show ((fG (p.funcs.getD j j4).params : Nat) : Int) + _ ≤ _; omega, Int.le_refl _, by show 0 + _ ≤ _; omega⟩
  refine c20z ?_
  refine .ch rfl rfl (IQ (s := (s0F p (p.funcs.getD j j4))) (by omega) (sc_of hp.toGH hj) hbd.1 (bd_of hp) hB0) ?_
  refine .nil ?_
  have hc1 := hY (l0 := (s0F p (p.funcs.getD j j4)).l) (s := (s0F p (p.funcs.getD j j4))) (S := (p.funcs.getD j j4).body)
  have hc2 := gT (l0 := (s0F p (p.funcs.getD j j4)).l) (s := (s0F p (p.funcs.getD j j4))) (S := (p.funcs.getD j j4).body)
  change _ ≤ (s1F p (p.funcs.getD j j4)).code.length ∧ (s1F p (p.funcs.getD j j4)).code.length ≤ 0 + _ at hc1
  change _ ≤ (s1F p (p.funcs.getD j j4)).sites.length ∧ (s1F p (p.funcs.getD j j4)).sites.length ≤ 0 + _ at hc2
  refine c8.aD (h ++ [⟨0, false, 27, 3, [.vec p.globals.length (o7 p.globals), .vec p.c4.length (j6 p.c4), .vec p.funcs.length (n4 p.funcs)], 0⟩, ⟨0, false, 104, 3, [.str (p.funcs.getD j j4).name, .vec (p.funcs.getD j j4).params.length (v8 (p.funcs.getD j j4).params), .vec (p.funcs.getD j j4).body.len (n8 (p.funcs.getD j j4).body)], 0⟩, ⟨0, false, 59, 5, [.str ByteArray.empty, .int .i64 0, .int .i64 0, .int .i64 0, .g6], 0⟩, Lb, s8 (h.length + 4) (s1F p (p.funcs.getD j j4)), p9 56 12 (s1F p (p.funcs.getD j j4)).code.length (o6 (s1F p (p.funcs.getD j j4)).code), p9 3 1 (s1F p (p.funcs.getD j j4)).sites.length (l6 (s1F p (p.funcs.getD j j4)).sites), ⟨0, false, 59, 5, [.str (p.funcs.getD j j4).name, .int .i64 ((fG (p.funcs.getD j j4).params : Nat) : Int), .int .i64 ((bC (p.funcs.getD j j4).params : Nat) : Int), .int .i64 0, .g6], 0⟩]) rfl ?_
  refine c103z ?_
  refine .ch rfl rfl (c_putF (s := (s1F p (p.funcs.getD j j4))) (by omega) (by omega) ⟨8, 0, false, l3, bQ, [], []⟩ _ (by repeat' (first | exact trivial | exact mV.refl _ | exact .inl rfl | exact .inr ⟨rfl, rfl⟩ | refine ⟨?_, ?_⟩))) ?_
  refine .nil ?_
  refine .c7 [6, 10, 11] ?_
  refine c8.aD (h ++ [⟨0, false, 27, 3, [.vec p.globals.length (o7 p.globals), .vec p.c4.length (j6 p.c4), .vec p.funcs.length (n4 p.funcs)], 0⟩, ⟨0, false, 104, 3, [.str (p.funcs.getD j j4).name, .vec (p.funcs.getD j j4).params.length (v8 (p.funcs.getD j j4).params), .vec (p.funcs.getD j j4).body.len (n8 (p.funcs.getD j j4).body)], 0⟩, ⟨0, false, 59, 5, [.str ByteArray.empty, .int .i64 0, .int .i64 0, .int .i64 0, .g6], 0⟩, Lb, s8 (h.length + 4) (s2F p (p.funcs.getD j j4)), p9 56 12 (s2F p (p.funcs.getD j j4)).code.length (o6 (s2F p (p.funcs.getD j j4)).code), p9 3 1 (s2F p (p.funcs.getD j j4)).sites.length (l6 (s2F p (p.funcs.getD j j4)).sites), ⟨0, false, 59, 5, [.str (p.funcs.getD j j4).name, .int .i64 ((fG (p.funcs.getD j j4).params : Nat) : Int), .int .i64 ((bC (p.funcs.getD j j4).params : Nat) : Int), .int .i64 0, .g6], 0⟩]) rfl ?_
  refine c8.lA (γ := h.length + 5) (β := h.length + 4) (k := 8) (len := (s2F p (p.funcs.getD j j4)).code.length) t33 (by rw [cC]; omega) (by omega) (KR _) t33 (by omega) rfl ?_
  simp only [wL, sQ, sR, wM, wN, oZ, List.append_assoc, List.cons_append, List.nil_append, o5, s3, List.set_cons_succ, List.set_cons_zero, List.length_append, List.length_cons, List.length_nil, Nat.reduceAdd, Nat.zero_add]
  generalize iC 56 12 (s2F p (p.funcs.getD j j4)).code.length (o6 (s2F p (p.funcs.getD j j4)).code) ((s2F p (p.funcs.getD j j4)).code.length * 12) = Cb
  refine c8.lA (γ := h.length + 6) (β := h.length + 4) (k := 9) (len := (s2F p (p.funcs.getD j j4)).sites.length) t33 (by rw [n5]; omega) (by omega) (tM _) t33 (by omega) rfl ?_
  simp only [List.append_assoc, List.cons_append, List.nil_append, o5, s3, List.set_cons_succ, List.set_cons_zero, List.length_append, List.length_cons, List.length_nil, Nat.reduceAdd, Nat.zero_add]
  generalize iC 3 1 (s2F p (p.funcs.getD j j4)).sites.length (l6 (s2F p (p.funcs.getD j j4)).sites) ((s2F p (p.funcs.getD j j4)).sites.length * 1) = Sb
  refine .sg z7 (mkG 12 [0, 1, 3, 7, 0, 16, 48, 112, 15, 271, 1023, 2047] [9, 11] [0, 0, 0, 0, 0, 0, 0, 0, 0, 0, 512, 512] [2560, 2560, 2560, 2560, 2048, 2048, 2048, 2048, 2560, 2048, 2048, 0] [] [0, 512, 2560] [4, 5, 6, 7]) 0 ?_
  refine .p 3 ?_
  refine c85z ?_
  refine c124z ?_
  refine .en [true] [512, 0] [_] ?_
  refine .p 1 ?_
  refine .en [true, false] [2560, 512, 0] [_] ?_
  refine c132z ?_
  refine .c7 [6, 10, 11] ?_
  refine .sg z7 (mkG 17 [0, 0, 2, 6, 14, 0, 32, 96, 224, 0, 512, 1536, 3584, 1, 8223, 25087, 65535] [13] [0, 0, 0, 0, 0, 0, 0, 0, 0, 0, 0, 0, 0, 0, 8192, 8192, 8192] [8192, 0, 0, 0, 0, 0, 0, 0, 0, 0, 0, 0, 0, 0, 0, 0, 0] [] [0, 8192] [1, 2, 3, 4, 5, 6, 7, 8, 9, 10, 11, 12]) 0 ?_
  refine c85z ?_
  refine .rm [true] ?_
  refine .p 3 ?_
  refine .rm [true] ?_
  refine .p 3 ?_
  refine .rm [true] ?_
  refine .en [true] [8192, 0] [_] ?_
  refine .p 3 ?_
  refine .po [true, true] ?_
  refine .po [true, true] ?_
  refine .po [true, true] ?_
  refine u9.nil rfl ?_
  exact .ret (.ex (hq := by rfl))
end
theorem plnMx (l : List Mx) : bE (j6 l) := bE.flat fun _ => bE.cons .str (bE.cons .bool (bE.cons .int .nil))
theorem plnPr (l : List Pr) : bE (s5 l) := bE.flat fun _ => bE.cons .str (bE.cons .int (bE.cons .int (bE.cons .int (bE.cons .vec .nil))))
theorem C8 {l : List Pr} {x : Pr} : s5 (l ++ [x]) = s5 l ++ rW x := by simp [s5]
theorem Q7 {l : List Gl} {i : Nat} (h : i < l.length) : List.take 1 (List.drop (i * 2 + 1) (o7 l)) = [.int .i64 (l.getD i kH).init] := Q3 O8 2 1 (fun _ => rfl) (by omega) kH h
theorem app_cpM {h : c6} {b0 b1 b2 : Blk} {l : c6} {ms : List Mx} {n : Nat} (hz : ms.length = n) (h0 : 0 < n) (hn : n < 1000) : j7 cfg 78 (h ++ (b0 :: b1 :: b2 :: ⟨1, false, 78, 3, [], 0⟩ :: l)) (.own (h.length + 3) 1 0 0) (.vec n (j6 ms)) = some (.own (h.length + 3) 2 0 n, h ++ (b0 :: b1 :: b2 :: ⟨2, false, 78, 3, j6 ms, 0⟩ :: l)) := by
  subst hz
  have e1 : cfg.sz 78 = 3 := rfl
  have e2 : (cfg.ti 78).bytes = 32 := rfl
  have hm : ms.length ≤ maxLen := by
    have : (1000 : Nat) ≤ maxLen := by decide
    omega
  have hb : ms.length * 32 ≤ 140737488355328 := by omega
  have h1 : (j6 ms).length = ms.length * 3 := by rw [s9]; omega
  have h2 : ¬ ms.length = 0 := by omega
  have h3 : ¬ ms.length * 3 = 0 := by omega
  simp [j7, rd, lenOf, e1, e2, h1, hm, hb, o5, s3, h0, h2, h3]
theorem app_gi {h : c6} {b0 b1 b2 b3 b4 : Blk} {l : c6} {is : List Int} {x : Int} {g n : Nat} (hn : is.length = n) (hl : n < 100000) : j7 cfg 3 (h ++ (b0 :: b1 :: b2 :: b3 :: b4 :: p9 3 1 g (l6 is) :: ⟨0, false, 3, 1, [.int .i64 x], 0⟩ :: l)) (.own (h.length + 5) g 0 n) (.own (h.length + 6) 0 0 1) = some (.own (h.length + 5) (g + 1) 0 (n + 1), h ++ (b0 :: b1 :: b2 :: b3 :: b4 :: p9 3 1 (g + 1) (l6 (is ++ [x])) :: ⟨0, false, 3, 1, [.int .i64 x], 0⟩ :: l)) := by
  subst hn
  rw [aR (C := cfg) (K := 1) (m := 1) (new := [.int .i64 x]) (zs := l6 is) t33 rfl (by omega) (by rw [n5, Nat.mul_one]) rfl (by omega) (by simp [rd, o5]) rfl (by decide) (by omega), ← nW, s3]
  rfl
theorem app_pr {h : c6} {b0 b1 b2 b3 b4 b5 b7 : Blk} {l : c6} {ps : List Pr} {x : Pr} {g n : Nat} (hn : ps.length = n) (hl : n < 100000) : j7 cfg 59 (h ++ (b0 :: b1 :: b2 :: b3 :: b4 :: b5 :: p9 59 5 g (s5 ps) :: b7 :: ⟨0, false, 59, 5, rW x, 0⟩ :: l)) (.own (h.length + 6) g 0 n) (.own (h.length + 8) 0 0 1) = some (.own (h.length + 6) (g + 1) 0 (n + 1), h ++ (b0 :: b1 :: b2 :: b3 :: b4 :: b5 :: p9 59 5 (g + 1) (s5 (ps ++ [x])) :: b7 :: ⟨0, false, 59, 5, rW x, 0⟩ :: l)) := by
  subst hn
  rw [aR (C := cfg) (K := 5) (m := 1) (new := rW x) (zs := s5 ps) t33 rfl (by omega) (by rw [fE, Nat.mul_comm]) rfl (by omega) (by simp [rd, o5, rW]) rfl (by decide) (by omega), ← C8, s3]
  rfl
theorem IT {l : List Fu} (h : 0 < l.length) : List.take 1 (List.drop 1 (n4 l)) = [AV.vec (l.getD 0 j4).params.length (v8 (l.getD 0 j4).params)] := lU (i := 0) h
theorem BW {p : Go.Un.Pg} (hp : GP p) : bT (aQ p) ⟨#[109, 97, 105, 110]⟩ = some ⟨⟨#[109, 97, 105, 110]⟩, 3, 0⟩ := by
  have hf := hp.fl.1
  have hn : (p.funcs.getD 0 j4).name = ⟨#[109, 97, 105, 110]⟩ := (hp.fn 0 (by omega)).1
  have := oW (uE hp) (e := ⟨(p.funcs.getD 0 j4).name, 3, ((0 : Nat) : Int)⟩) (List.mem_append.2 (.inr (List.mem_append.2 (.inr (List.mem_map.2 ⟨0, List.mem_range.2 (by omega), rfl⟩)))))
  rw [hn] at this
  exact this
theorem taken {α : Type} {l : List α} {d : α} {i : Nat} (h : i < l.length) : l.take (i + 1) = l.take i ++ [l.getD i d] := by
  rw [List.take_add_one]
  simp [List.getD, h]
theorem BX {x : Pr} : (rW x).length = 5 := rfl
theorem takePr {x : Pr} : List.take 5 (rW x) = rW x := rfl
section
attribute [local go_sem] app_cpM app_gi app_pr lU IT Q7 rV BX takePr
theorem c_lower {h : c6} {p : Go.Un.Pg} (hp : GP p) : CallA Try.prog cfg 25 [.agg [.vec p.globals.length (o7 p.globals), .vec p.c4.length (j6 p.c4), .vec p.funcs.length (n4 p.funcs)]] h (fun y' h' => y' = .tup [.agg (encUn (dF p)), .int .i64 0, .int .i64 0, .int .i64 0] ∧ h' = h) := by
  refine .b fn25 ntm25 ?_
  have hdl := oB (p := p)
  have hgl := hp.gl
  have hml := hp.ml
  have hfl := hp.fl
  have hmain := BW hp
  have hz0 : (p.funcs.getD 0 j4).params.length = 0 := by rw [(hp.fn 0 (by omega)).2.1 rfl]; rfl
  refine c33z ?_
  refine c144z ?_
  refine .ca rfl rfl (c_valid hp) ?_
  refine .n ?_
  refine c4z ?_
  refine c144z ?_
  refine .ca rfl rfl (c_decl hp) ?_
  refine .n ?_
  refine .seq ?_
  refine .c7 [1, 2, 6, 7] ?_
  refine .z ?_
  refine c4z ?_
  refine c144z ?_
  refine .ca rfl rfl (mR hmain (by omega)) ?_
  refine .n ?_
  refine .seq ?_
  refine .s ?_
  refine .k 8 [(2, 37)] ?_
  refine .k 8 [(7, 42)] ?_
  refine .m [(7, 42)] ?_
  refine .spl 52 rfl rfl (fun e1 => by exfalso; have q := fact e1; omega) (fun e1 => ?_)
  try simp only [e1]
  have qe1 := fact e1
  refine c4z ?_
  refine .c7 [1, 2, 6, 8, 30] ?_
  refine .sg z7 (mkG 9 [0, 1, 0, 0, 8, 28, 63, 0, 255] [2, 5, 7, 8] [0, 0, 0, 0, 0, 4, 36, 0, 164] [256, 256, 288, 288, 288, 256, 256, 256, 0] [(2, 0), (7, 1)] [0, 4, 36, 128, 132, 164, 420] [0, 1, 2, 3, 4, 5, 6]) 2 ?_
  refine c30z ?_
  refine .em [true] [4, 0] [_] ?_
  refine .p 1 ?_
  refine .rm [true, true] ?_
  refine .em [true, false] [36, 4, 0] [_] ?_
  refine .p 1 ?_
  refine .en [true, true, true] [164, 132, 128, 36, 4, 0] [_, _, _] ?_
  refine .en [true, false, false, false, false, false] [420, 164, 132, 128, 36, 4, 0] [_] ?_
  refine .po [false, false, true, false, false, true, false] ?_
  refine .po [false, false, true, true, false, true, true] ?_
  refine .po [false, false, false, true, false, false, true] ?_
  refine .po [false, true, true, true, true, true, true] ?_
  refine u9.nil rfl ?_
  refine .seq ?_
  refine .c7 [1, 2, 6, 10, 30] ?_
  refine c28z ?_
  refine c8.lZ (β := h.length + 4) (k := 0) t33 rfl ?_
  simp only [List.append_assoc, List.cons_append, List.nil_append, o5, s3, List.set_cons_succ, List.set_cons_zero, List.length_append, List.length_cons, List.length_nil, Nat.reduceAdd, Nat.zero_add]
  refine .dU (fun m st => ∃ (i : Nat), (m = p.globals.length - i ∧ i ≤ p.globals.length) ∧ st = ⟨mkS 112 [(1, AV.ptr h.length 0 0), (2, AV.ptr (h.length + 1) 0 0), (6, AV.vec (aQ p).length (j5 (aQ p))), (10, AV.ptr (h.length + 4) 1 0), (11, AV.int .i64 ((i : Nat) : Int))], h ++ [⟨0, false, 27, 3, [.vec p.globals.length (o7 p.globals), .vec p.c4.length (j6 p.c4), .vec p.funcs.length (n4 p.funcs)], 0⟩, ⟨0, false, 30, 4, [.g6, .g6, .g6, .int .i64 0], 0⟩, ⟨0, false, 113, 3, [.str ⟨#[109, 97, 105, 110]⟩, .int .i64 3, .int .i64 0], 0⟩, ⟨2, false, 78, 3, j6 p.c4, 0⟩, ⟨1, false, 30, 4, [.own (h.length + 5) i 0 i, .own (h.length + 3) 2 0 p.c4.length, .g6, .int .i64 0], 0⟩, p9 3 1 i (l6 ((dF p).globals.take i))]⟩) (.v ⟨0, ⟨rfl, by omega⟩, rfl⟩) ?_
  rintro m sl h' ⟨i, ⟨hm, hi⟩, hst⟩
  obtain ⟨rfl, rfl⟩ := St.mk.inj hst; clear hst
  have htl : ((dF p).globals.take i).length = i := by simp [dF]; omega
  refine c0z ?_
  refine .spl 65 rfl rfl (fun e2 => ?_) (fun e2 => ?_)
  ·try simp only [e2]
   have qe2 := fact e2
   refine c11z ?_
   refine .og z7 (mkG 12 [0, 1, 0, 4, 0, 28, 60, 124, 252, 511, 1023, 2047] [8, 9, 11] [0, 0, 0, 0, 0, 0, 0, 0, 0, 256, 768, 768] [2560, 2560, 2816, 2816, 2816, 2816, 2816, 2816, 2560, 2048, 2048, 0] [] [0, 256, 768, 2816] [0, 1]) 0 ?_
   refine c30z ?_
   refine .p 1 ?_
   refine c85z ?_
   refine .rn [true] ?_
   refine .en [true] [256, 0] [_] ?_
   refine .en [true, false] [768, 256, 0] [_] ?_
   refine .p 1 ?_
   refine .en [true, false, false] [2816, 768, 256, 0] [_] ?_
   refine c112z ?_
   refine .c7 [1, 2, 6, 10, 11] ?_
   refine .rz ?_
   exact ⟨_, by omega, .v ⟨(i + 1), ⟨rfl, by omega⟩, rfl⟩ (he := by (rw [taken (d := 0) (l := (dF p).globals) (by simp [dF]; omega), show (dF p).globals.getD i 0 = (p.globals.getD i kH).init from getD_map (by omega)]; simp only [List.append_assoc, List.cons_append, List.nil_append]; rfl)) (hk := by exact (cI.refl _).app rfl ⟨.inl rfl, .inl rfl, .inl rfl, .inl rfl, .inr (fR.get ⟨.own _ _ _ _ (by simp), .own _ _ _ _ (by simp), .g6, .int _ _, trivial⟩), .inr (by rw [o9]; exact (tM _).refs _), trivial⟩)⟩
  try simp only [e2]
  have qe2 := fact e2
  refine c3z ?_
  obtain rfl : i = p.globals.length := by omega
  change c8 ..
  refine c12z ?_
  refine c8.lZ (β := h.length + 4) (k := 2) t33 rfl ?_
  simp only [List.append_assoc, List.cons_append, List.nil_append, o5, s3, List.set_cons_succ, List.set_cons_zero, List.length_append, List.length_cons, List.length_nil, Nat.reduceAdd, Nat.zero_add]
  refine .dU (fun m st => ∃ (i : Nat), (m = p.funcs.length - i ∧ i ≤ p.funcs.length) ∧ st = ⟨mkS 112 [(1, AV.ptr h.length 0 0), (2, AV.ptr (h.length + 1) 0 0), (6, AV.vec (aQ p).length (j5 (aQ p))), (10, AV.ptr (h.length + 4) 1 0), (12, AV.int .i64 ((i : Nat) : Int))], h ++ [⟨0, false, 27, 3, [.vec p.globals.length (o7 p.globals), .vec p.c4.length (j6 p.c4), .vec p.funcs.length (n4 p.funcs)], 0⟩, ⟨0, false, 30, 4, [.g6, .g6, .g6, .int .i64 0], 0⟩, ⟨0, false, 113, 3, [.str ⟨#[109, 97, 105, 110]⟩, .int .i64 3, .int .i64 0], 0⟩, ⟨2, false, 78, 3, j6 p.c4, 0⟩, ⟨1, false, 30, 4, [.own (h.length + 5) p.globals.length 0 p.globals.length, .own (h.length + 3) 2 0 p.c4.length, .own (h.length + 6) i 0 i, .int .i64 0], 0⟩, p9 3 1 p.globals.length (l6 ((dF p).globals.take p.globals.length)), p9 59 5 i (s5 ((dF p).procs.take i))]⟩) (.v ⟨0, ⟨rfl, by omega⟩, rfl⟩) ?_
  rintro m sl h' ⟨i, ⟨hm, hi⟩, hst⟩
  obtain ⟨rfl, rfl⟩ := St.mk.inj hst; clear hst
  have htl : ((dF p).procs.take i).length = i := by simp [dF]; omega
  refine c0z ?_
  refine .spl 83 rfl rfl (fun e3 => ?_) (fun e3 => ?_)
  ·try simp only [e3]
   have qe3 := fact e3
   refine c11z ?_
   refine .sg z7 (mkG 18 [0, 0, 0, 4, 0, 28, 60, 127, 255, 511, 511, 511, 511, 0, 9215, 26623, 61439, 131071] [13, 14] [0, 0, 0, 0, 0, 0, 0, 0, 0, 0, 0, 0, 0, 0, 8192, 24576, 24576, 24576] [16384, 16384, 16384, 16384, 16384, 16384, 16384, 16384, 16384, 16384, 0, 0, 0, 16384, 0, 0, 0, 0] [] [0, 8192, 24576] [0, 1, 2, 3, 4, 5, 6, 7, 8, 9, 10, 11, 12]) 0 ?_
   refine .rm [true] ?_
   refine .p 2 ?_
   refine .rm [true] ?_
   refine .p 2 ?_
   refine .rm [true] ?_
   refine .cl rfl rfl (fun _ => c_func hp (by omega)) ?_
   refine .p 5 ?_
   refine .en [true] [8192, 0] [_] ?_
   refine .en [true, false] [24576, 8192, 0] [_] ?_
   refine .p 3 ?_
   refine c35z ?_
   refine c132z ?_
   refine .seq ?_
   refine .c7 [1, 2, 6, 10, 12, 13, 15, 16] ?_
   refine .z ?_
   refine c4z ?_
   refine c1z ?_
   refine .c7 [1, 2, 6, 10, 12] ?_
   refine .rz ?_
   exact ⟨_, by omega, .v ⟨(i + 1), ⟨rfl, by omega⟩, rfl⟩ (he := by (rw [taken (d := nO) (l := (dF p).procs) (by simp [dF]; omega), show (dF p).procs.getD i nO = mA p (p.funcs.getD i j4) from getD_map (by omega)]; simp only [List.append_assoc, List.cons_append, List.nil_append]; rfl)) (hk := by exact (cI.refl _).app rfl ⟨.inl rfl, .inl rfl, .inl rfl, .inl rfl, .inr (fR.get ⟨.own _ _ _ _ (by simp), .own _ _ _ _ (by simp), .own _ _ _ _ (by simp), .int _ _, trivial⟩), .inl rfl, .inr (by rw [o9]; exact (plnPr _).refs _), trivial⟩)⟩
  try simp only [e3]
  have qe3 := fact e3
  refine c3z ?_
  obtain rfl : i = p.funcs.length := by omega
  have hgt : (dF p).globals.take p.globals.length = (dF p).globals := List.take_of_length_le (by simp [dF])
  have hpt : (dF p).procs.take p.funcs.length = (dF p).procs := List.take_of_length_le (by simp [dF])
  rw [hgt, hpt]
  have hgl2 : (dF p).globals.length = p.globals.length := by simp [dF]
  have hpl2 : (dF p).procs.length = p.funcs.length := by simp [dF]
  refine c8.lA (γ := h.length + 5) (β := h.length + 4) (k := 0) (len := p.globals.length) t33 (by rw [n5, hgl2, Nat.mul_one]) (by omega) (tM _) t33 (by omega) rfl ?_
  simp only [List.append_assoc, List.cons_append, List.nil_append, o5, s3, List.set_cons_succ, List.set_cons_zero, List.length_append, List.length_cons, List.length_nil, Nat.reduceAdd, Nat.zero_add]
  generalize iC 3 1 p.globals.length (l6 (dF p).globals) (p.globals.length * 1) = Gb
  refine c8.lA (γ := h.length + 6) (β := h.length + 4) (k := 2) (len := p.funcs.length) t33 (by rw [fE, hpl2, Nat.mul_comm]) (by omega) (plnPr _) t33 (by omega) rfl ?_
  simp only [List.append_assoc, List.cons_append, List.nil_append, o5, s3, List.set_cons_succ, List.set_cons_zero, List.length_append, List.length_cons, List.length_nil, Nat.reduceAdd, Nat.zero_add]
  generalize iC 59 5 p.funcs.length (s5 (dF p).procs) (p.funcs.length * 5) = Pb
  refine c8.O2 (γ := h.length + 3) (β := h.length + 4) (k := 1) (off := 0) (len := p.c4.length) (cs := j6 p.c4) t33 rfl (by simp only [s9]; omega) (by rw [List.drop_zero, List.take_of_length_le (by simp only [s9]; omega)]; exact (plnMx _).QT) t33 (by omega) rfl ?_
  simp only [List.append_assoc, List.cons_append, List.nil_append, o5, s3, List.set_cons_succ, List.set_cons_zero, List.length_append, List.length_cons, List.length_nil, Nat.reduceAdd, Nat.zero_add]
  change c8 ..
  refine .c7 [2, 10] ?_
  refine .z ?_
  exact .ret (.ex (hq := by (simp only [encUn, hgl2, hpl2]; rfl)))
end
end Go.Proofs.Ytbmaijdkebjnhaa
end
section
namespace Go.Proofs.Ytbmaijdkebjnhaa
open Go.Ab Go.Un
theorem PJ {a b : List Int} {i : Nat} (h : a.getD i 0 ≠ b.getD i 0) : ¬ a = b := fun e => h (by rw [e])
theorem BY {a b : List Int} (hl : a.length = b.length) (h : ∀ d, d < a.length → a.getD d 0 = b.getD d 0) : a = b := by
  refine List.ext_getElem hl fun i h1 h2 => ?_
  have := h i h1
  simpa [List.getD, h1, h2] using this
theorem all_nx {a b : List Int} {i : Nat} (h : ∀ d, d < i → a.getD d 0 = b.getD d 0) (e : a.getD i 0 = b.getD i 0) : ∀ d, d < i + 1 → a.getD d 0 = b.getD d 0 := fun d hd => by
  by_cases hdi : d = i
  · rw [hdi]; exact e
  · exact h d (by omega)
theorem no_nx {l : List Int} {n : Int} {i : Nat} (h : ∀ d, d < i → l.getD d 0 ≠ n) (e : l.getD i 0 ≠ n) : ∀ d, d < i + 1 → l.getD d 0 ≠ n := fun d hd => by
  by_cases hdi : d = i
  · rw [hdi]; exact e
  · exact h d (by omega)
theorem KT {l : List Int} {n : Int} (h : ∀ d, d < l.length → l.getD d 0 ≠ n) : ¬ n ∈ l := fun hm => by
  obtain ⟨i, hi, rfl⟩ := bZ (d := (0 : Int)) hm
  exact h i hi rfl
theorem take_I {l : List Int} {k : Nat} : List.take k (l6 l) = l6 (l.take k) := by simp [l6, List.map_take]
theorem dropt_I {l : List Int} {k : Nat} : List.take (l.length - k) (List.drop k (l6 l)) = l6 (l.drop k) := by
  rw [l6, ← List.map_drop, List.take_of_length_le (by simp)]; rfl
theorem zC {l : List Int} {i : Nat} (h : i < l.length) : List.take 1 (List.drop i (l6 l)) = [.int .i64 (l.getD i 0)] := by
  have h2 : i < (l6 l).length := by rw [n5]; exact h
  rw [List.drop_eq_getElem_cons h2]
  simp [l6, List.getD, h]
def gW (g n : Nat) : Nat := if n = 0 then g else g + 1
def kW (l : List Int) (n : Int) : Nat := (l.takeWhile fun x => decide (x < n)).length
def iE (l : List Int) (n : Int) : List Int := if n ∈ l then l else l.take (kW l n) ++ n :: l.drop (kW l n)
theorem kW_at {l : List Int} {n : Int} : ∀ {k : Nat}, k ≤ l.length → (∀ d, d < k → l.getD d 0 < n) → (k < l.length → ¬ l.getD k 0 < n) → k = kW l n := by
  induction l with
  | nil => intro k hk _ _; simp at hk; subst hk; rfl
  | cons x l ih =>
    intro k hk h1 h2
    cases k with
    | zero =>
      have := h2 (by simp)
      simp only [List.getD_cons_zero] at this
      simp [kW, List.takeWhile, this]
    | succ k =>
      have h0 := h1 0 (by omega)
      simp only [List.getD_cons_zero] at h0
      have := ih (k := k) (by simpa using hk) (fun d hd => by have := h1 (d + 1) (by omega); simpa using this) (fun hl => by have := h2 (by simpa using hl); simpa using this)
      rw [kW, List.takeWhile_cons_of_pos (by simpa using h0), List.length_cons, this]
      rfl
theorem lt_nx {l : List Int} {n : Int} {i : Nat} (h : ∀ d, d < i → l.getD d 0 < n) (e : l.getD i 0 < n) : ∀ d, d < i + 1 → l.getD d 0 < n := fun d hd => by
  by_cases hdi : d = i
  · rw [hdi]; exact e
  · exact h d (by omega)
theorem app_w {h : c6} {l : c6} {a b : List Int} {g n m : Nat} (ha : a.length = n) (hb : b.length = m) (hn : n < 150000) (hm : m < 100000) : j7 cfg 3 (h ++ (⟨g, false, 3, 1, l6 a, 0⟩ :: l)) (.own h.length g 0 n) (.vec m (l6 b)) = some (.own h.length (gW g m) 0 (n + m), h ++ (⟨gW g m, false, 3, 1, l6 (a ++ b), 0⟩ :: l)) := by
  subst ha hb
  have e1 : cfg.sz 3 = 1 := rfl
  have e2 : (cfg.ti 3).bytes = 8 := rfl
  have h1 : a.length + b.length ≤ maxLen := by
    have : (300000 : Nat) ≤ maxLen := by decide
    omega
  have h2 : (a.length + b.length) * 8 ≤ 140737488355328 := by omega
  have ht : List.take a.length (l6 a) = l6 a := List.take_of_length_le (by rw [n5]; exact Nat.le_refl _)
  have hs : l6 (a ++ b) = l6 a ++ l6 b := by simp [l6]
  cases b with
  | nil =>
    simp only [List.length_nil, Nat.add_zero] at h1 h2
    simp [j7, rd, lenOf, e1, e2, gW, hs, l6, h1, h2]
  | cons x b =>
    simp only [List.length_cons] at h1 h2
    have h3 : ¬ a.length + (b.length + 1) ≤ a.length := by omega
    simp [j7, rd, lenOf, e1, e2, n5, h1, h2, ht, h3, gW, hs, dK, uZ]
theorem app_w0 {h : c6} {l : c6} {b : List Int} {g m : Nat} (hb : b.length = m) (hm : m < 100000) : j7 cfg 3 (h ++ (⟨g, false, 3, 1, [], 0⟩ :: l)) (.own h.length g 0 0) (.vec m (l6 b)) = some (.own h.length (gW g m) 0 m, h ++ (⟨gW g m, false, 3, 1, l6 b, 0⟩ :: l)) := by
  have := app_w (h := h) (l := l) (a := []) (b := b) (g := g) (n := 0) rfl hb (by omega) hm
  rw [Nat.zero_add] at this
  exact this
theorem app_w1 {h : c6} {l : c6} {a : List Int} {x : Int} {g n : Nat} (ha : a.length = n) (hn : n < 100000) : j7 cfg 3 (h ++ (⟨g, false, 3, 1, l6 a, 0⟩ :: ⟨1, false, 3, 1, [.int .i64 x], 0⟩ :: l)) (.own h.length g 0 n) (.own (h.length + 1) 1 0 1) = some (.own h.length (g + 1) 0 (n + 1), h ++ (⟨g + 1, false, 3, 1, l6 (a ++ [x]), 0⟩ :: ⟨1, false, 3, 1, [.int .i64 x], 0⟩ :: l)) := by
  subst ha
  have e1 : cfg.sz 3 = 1 := rfl
  have e2 : (cfg.ti 3).bytes = 8 := rfl
  have h1 : a.length + 1 ≤ maxLen := by
    have : (200000 : Nat) ≤ maxLen := by decide
    omega
  have h2 : (a.length + 1) * 8 ≤ 140737488355328 := by omega
  have ht : List.take a.length (l6 a) = l6 a := List.take_of_length_le (by rw [n5]; exact Nat.le_refl _)
  have hs : l6 (a ++ [x]) = l6 a ++ [.int .i64 x] := nW
  have h3 : ¬ a.length + 1 ≤ a.length := by omega
  simp [j7, rd, lenOf, e1, e2, n5, h1, h2, ht, h3, hs, o5, dK, uZ]
theorem frz_I {n d : Nat} {H : c6} {l : List Int} : l9 (gG n H (d + 1)) (l6 l) = some (l6 l) := (tM l).frz _ _ _
theorem C9 {n β g len : Nat} {H : c6} {a : List Int} (hb : H[β]? = some ⟨g, false, 3, 1, l6 a, 0⟩) (hn : n ≤ β) (hl : a.length = len) : fO n H 6 (.own β g 0 len) = some (.vec len (l6 a)) := by
  subst hl
  rw [s4, if_neg (by omega), v5, hb]
  simp only [hn, and_self, if_true, Bool.false_eq_true, if_false, Nat.zero_add, Nat.mul_one, n5, Nat.le_refl, List.drop_zero]
  rw [List.take_of_length_le (by rw [n5]; exact Nat.le_refl _), frz_I]
def fI : List u6 → u6 → Int
  | [], _ => -1
  | a :: l, x => if a = x then 0 else if fI l x < 0 then -1 else fI l x + 1
theorem fI_at : ∀ {l : List u6} {x : u6} {i : Nat}, i < l.length → (∀ d, d < i → l.getD d g7 ≠ x) → l.getD i g7 = x → fI l x = i
  | [], x, i, h, _, _ => by simp at h
  | a :: l, x, 0, _, _, h => by simp only [List.getD_cons_zero] at h; rw [fI, if_pos h]; rfl
  | a :: l, x, i + 1, hi, h1, h2 => by
    have h0 := h1 0 (by omega)
    simp only [List.getD_cons_zero] at h0
    have ih := fI_at (l := l) (x := x) (i := i) (by simpa using hi) (fun d hd => by have := h1 (d + 1) (by omega); simpa using this) t85
    rw [fI, if_neg h0, ih, if_neg (by omega)]
    omega
theorem PL : ∀ {l : List u6} {x : u6}, (∀ d, d < l.length → l.getD d g7 ≠ x) → fI l x = -1
  | [], x, _ => rfl
  | a :: l, x, h => by
    have h0 := h 0 (by simp)
    simp only [List.getD_cons_zero] at h0
    have ih := PL (l := l) (x := x) (fun d hd => by have := h (d + 1) (by simpa using hd); simpa using this)
    rw [fI, if_neg h0, ih, if_pos (by omega)]
theorem K8 : ∀ {l : List u6} {x : u6}, x ∈ l → 0 ≤ fI l x ∧ fI l x < l.length ∧ l.getD (fI l x).toNat g7 = x
  | [], x, h => by simp at h
  | a :: l, x, h => by
    by_cases hx : a = x
    · rw [fI, if_pos hx]; simp [hx]
    · have ih := K8 (l := l) (x := x) (by simpa [Ne.symm hx] using h)
      rw [fI, if_neg hx, if_neg (by omega)]
      refine ⟨by omega, by simp; omega, ?_⟩
      rw [show (fI l x + 1).toNat = (fI l x).toNat + 1 from by omega]
      simpa using ih.2.2
theorem fI_not {l : List u6} {x : u6} (h : x ∉ l) : fI l x = -1 := PL fun d hd e => h (e ▸ l7 hd)
theorem it_ne {l : List u6} {x : u6} {i : Nat} (h : ∀ d, d < i → l.getD d g7 ≠ x) (e : l.getD i g7 ≠ x) : ∀ d, d < i + 1 → l.getD d g7 ≠ x := fun d hd => by
  by_cases hdi : d = i
  · rw [hdi]; exact e
  · exact h d (by omega)
theorem KU {l : List u6} {x : u6} {i : Nat} (h : ¬ (l.getD i g7).proc = x.proc) : l.getD i g7 ≠ x := fun e => h (by rw [e])
theorem KV {l : List u6} {x : u6} {i : Nat} (h : ¬ (l.getD i g7).l4 = x.l4) : l.getD i g7 ≠ x := fun e => h (by rw [e])
theorem oD {l : List u6} {i : Nat} (h : i < l.length) : List.take 1 (List.drop (i * 2) (aJ l)) = [.int .i64 (l.getD i g7).proc] := Q3 O9 2 0 (fun _ => rfl) (by omega) g7 h
theorem K9 {l : List u6} {i : Nat} (h : i < l.length) : List.take 1 (List.drop (i * 2 + 1) (aJ l)) = [.vec (l.getD i g7).l4.length (l6 (l.getD i g7).l4)] := Q3 O9 2 1 (fun _ => rfl) (by omega) g7 h
theorem oE {l : List u6} {i : Nat} (h : i < l.length) : List.take 2 (List.drop (i * 2) (aJ l)) = [.int .i64 (l.getD i g7).proc, .vec (l.getD i g7).l4.length (l6 (l.getD i g7).l4)] := read_it h
theorem lJ {u : Un} {it : u6} (h : it.proc.toNat < u.procs.length) : List.take 1 (List.drop (it.proc.toNat * 5 + 4) (s5 u.procs)) = [.vec (c9 u it).length (o6 (c9 u it))] := Q3 rW 5 4 (fun _ => rfl) (by omega) nO h
theorem wP {l : List Ins} {i : Nat} (h : i < l.length) : List.take 1 (List.drop (i * 12) (o6 l)) = [.int .i64 (l.getD i g9).op] := by
  rw [show i * 12 = i * 12 + 0 from rfl, o6, Q3 eF 12 0 aS (by omega) g9 h, iO]; rfl
theorem IU {l : List Ins} {i : Nat} (h : i < l.length) : List.take 1 (List.drop (i * 12 + 1) (o6 l)) = [.int .i64 (l.getD i g9).target] := by
  rw [o6, Q3 eF 12 1 aS (by omega) g9 h, iO]; rfl
theorem IV {l : List Ins} {i : Nat} (h : i < l.length) : List.take 1 (List.drop (i * 12 + 11) (o6 l)) = [.vec (l.getD i g9).y0.length (dD (l.getD i g9).y0)] := by
  rw [o6, Q3 eF 12 11 aS (by omega) g9 h, iO]; rfl
theorem IW {l : List Pl} {i : Nat} (h : i < l.length) : List.take 3 (List.drop (i * 3) (dD l)) = [.bool (l.getD i bQ).param, .int .i64 (l.getD i bQ).index, .vec (l.getD i bQ).at'.length (m7 (l.getD i bQ).at')] := read_pl h
theorem app_lk {h : c6} {b0 b1 b2 b3 : Blk} {l : c6} {is : List Int} {x : Int} {g n : Nat} (hn : is.length = n) (hl : n < 100000) : j7 cfg 3 (h ++ (b0 :: b1 :: b2 :: b3 :: p9 3 1 g (l6 is) :: ⟨0, false, 3, 1, [.int .i64 x], 0⟩ :: l)) (.own (h.length + 4) g 0 n) (.own (h.length + 5) 0 0 1) = some (.own (h.length + 4) (g + 1) 0 (n + 1), h ++ (b0 :: b1 :: b2 :: b3 :: p9 3 1 (g + 1) (l6 (is ++ [x])) :: ⟨0, false, 3, 1, [.int .i64 x], 0⟩ :: l)) := by
  subst hn
  rw [aR (C := cfg) (K := 1) (m := 1) (new := [.int .i64 x]) (zs := l6 is) t33 rfl (by omega) (by rw [n5, Nat.mul_one]) rfl (by omega) (by simp [rd, o5]) rfl (by decide) (by omega), ← nW, s3]
  rfl
attribute [local go_sem] rd p6 j8 bI cQ cC aS dM dL s9 bF aP n5 bK Int.natCast_nonneg Int.natCast_inj List.length_map wrap64 bW iM iN I7 yJ A9 I8 wU max2 eP cV bN Nat.reduceMul lR jE gX sP zC app_w app_w0 app_w1 Nat.sub_zero Option.bind_eq_bind take_I dropt_I oD K9 oE lJ wP IU IV IW app_lk cR fE
theorem KW {h : c6} (a b : List Int) (hl : a.length < 1000000) : CallA Try.prog cfg 14 [.vec a.length (l6 a), .vec b.length (l6 b)] h (fun y' h' => y' = .bool (decide (a = b)) ∧ h' = h) := by
  refine .b fn14 ntm14 ?_
  refine c79z ?_
  refine .spl 10 rfl rfl (fun e1 => ?_) (fun e1 => ?_)
  ·try simp only [e1]
   have qe1 := fact e1
   refine c67z ?_
   refine c16z ?_
   exact ⟨[], _, (List.append_nil _).symm, by first | rfl | rfl, by (first | exact congrArg AV.bool (decide_eq_false (fun e => by have := congrArg List.length e; omega)).symm | exact congrArg AV.bool (decide_eq_false (PJ (by omega))).symm | exact congrArg AV.bool (decide_eq_true (BY (by omega) (fun d hd => hI d (by omega)))).symm)⟩
  try simp only [e1]
  have qe1 := fact e1
  refine c4z ?_
  refine c12z ?_
  refine .iB (fun m st => ∃ (i : Nat), (m = a.length - i ∧ ((∀ d, d < i → a.getD d 0 = b.getD d 0) ∧ i ≤ a.length)) ∧ st = ⟨mkS 26 [(0, AV.vec a.length (l6 a)), (1, AV.vec b.length (l6 b)), (5, AV.int .i64 ((i : Nat) : Int))], h⟩) _ (.v ⟨0, ⟨rfl, ⟨by intro d hd; omega, by omega⟩⟩, rfl⟩) ?_
  rintro m sl h' ⟨i, ⟨hm, ⟨hI, hi⟩⟩, hst⟩
  obtain ⟨rfl, rfl⟩ := St.mk.inj hst
  refine c0z ?_
  refine .spl 14 rfl rfl (fun e2 => ?_) (fun e2 => ?_)
  ·try simp only [e2]
   have qe2 := fact e2
   refine c11z ?_
   refine .ss z7 (mkP 9 [0, 0, 3, 7, 0, 0, 48, 112, 255] []) ?_
   refine c167z ?_
   refine .spl 25 rfl rfl (fun e3 => ?_) (fun e3 => ?_)
   ·try simp only [e3]
    have qe3 := fact e3
    refine c67z ?_
    refine c16z ?_
    exact ⟨[], _, (List.append_nil _).symm, by first | rfl | rfl, by (first | exact congrArg AV.bool (decide_eq_false (fun e => by have := congrArg List.length e; omega)).symm | exact congrArg AV.bool (decide_eq_false (PJ (by omega))).symm | exact congrArg AV.bool (decide_eq_true (BY (by omega) (fun d hd => hI d (by omega)))).symm)⟩
   try simp only [e3]
   have qe3 := fact e3
   refine c13z ?_
   refine .c7 [0, 1, 5] ?_
   refine .rz ?_
   exact ⟨_, by omega, .v ⟨(i + 1), ⟨rfl, ⟨all_nx hI (by omega), by omega⟩⟩, rfl⟩⟩
  try simp only [e2]
  have qe2 := fact e2
  refine c18z ?_
  refine c62z ?_
  exact ⟨[], _, (List.append_nil _).symm, by first | rfl | rfl, by (first | exact congrArg AV.bool (decide_eq_false (fun e => by have := congrArg List.length e; omega)).symm | exact congrArg AV.bool (decide_eq_false (PJ (by omega))).symm | exact congrArg AV.bool (decide_eq_true (BY (by omega) (fun d hd => hI d (by omega)))).symm)⟩
theorem KX {h : c6} (l : List Int) (n : Int) (hl : l.length < 1000000) : CallA Try.prog cfg 60 [.vec l.length (l6 l), .int .i64 n] h (fun y' h' => y' = .bool (decide (n ∈ l)) ∧ h' = h) := by
  refine .b fn60 ntm60 ?_
  refine c22z ?_
  refine .iB (fun m st => ∃ (i : Nat), (m = l.length - i ∧ ((∀ d, d < i → l.getD d 0 ≠ n) ∧ i ≤ l.length)) ∧ st = ⟨mkS 18 [(0, AV.vec l.length (l6 l)), (1, AV.int .i64 n), (5, AV.int .i64 ((i : Nat) : Int))], h⟩) _ (.v ⟨0, ⟨rfl, ⟨by intro d hd; omega, by omega⟩⟩, rfl⟩) ?_
  rintro m sl h' ⟨i, ⟨hm, ⟨hI, hi⟩⟩, hst⟩
  obtain ⟨rfl, rfl⟩ := St.mk.inj hst
  refine c0z ?_
  refine .spl 9 rfl rfl (fun e1 => ?_) (fun e1 => ?_)
  ·try simp only [e1]
   have qe1 := fact e1
   refine c11z ?_
   refine .z ?_
   refine .spl 17 rfl rfl (fun e2 => ?_) (fun e2 => ?_)
   ·try simp only [e2]
    have qe2 := fact e2
    refine c67z ?_
    refine c16z ?_
    exact ⟨[], _, (List.append_nil _).symm, by first | rfl | rfl, by (first | exact congrArg AV.bool (decide_eq_true (by rw [← (show l.getD i 0 = n by omega)]; exact l7 (by omega))).symm | exact congrArg AV.bool (decide_eq_false (KT (fun d hd => hI d (by omega)))).symm)⟩
   try simp only [e2]
   have qe2 := fact e2
   refine c13z ?_
   refine .c7 [0, 1, 5] ?_
   refine .rz ?_
   exact ⟨_, by omega, .v ⟨(i + 1), ⟨rfl, ⟨no_nx hI (by omega), by omega⟩⟩, rfl⟩⟩
  try simp only [e1]
  have qe1 := fact e1
  refine c18z ?_
  refine c62z ?_
  exact ⟨[], _, (List.append_nil _).symm, by first | rfl | rfl, by (first | exact congrArg AV.bool (decide_eq_true (by rw [← (show l.getD i 0 = n by omega)]; exact l7 (by omega))).symm | exact congrArg AV.bool (decide_eq_false (KT (fun d hd => hI d (by omega)))).symm)⟩
theorem c_hasY {h : c6} {l : List Int} {n : Int} (hm : n ∈ l) (hl : l.length < 1000000) : CallA Try.prog cfg 60 [.vec l.length (l6 l), .int .i64 n] h (fun y' h' => y' = .bool true ∧ h' = h) := by
  have := KX (h := h) l n hl
  rw [decide_eq_true hm] at this
  exact this
theorem c_hasN {h : c6} {l : List Int} {n : Int} (hm : n ∉ l) (hl : l.length < 1000000) : CallA Try.prog cfg 60 [.vec l.length (l6 l), .int .i64 n] h (fun y' h' => y' = .bool false ∧ h' = h) := by
  have := KX (h := h) l n hl
  rw [decide_eq_false hm] at this
  exact this
theorem c_withY {h : c6} (l : List Int) (n : Int) (hl : l.length < 100000) (hmem : n ∈ l) : CallA Try.prog cfg 37 [.vec l.length (l6 l), .int .i64 n] h (fun y' h' => y' = .vec (iE l n).length (l6 (iE l n)) ∧ h' = h) := by
  refine .b fn37 ntm37 ?_
  refine c33z ?_
  refine c25z ?_
  refine .ca rfl rfl (c_hasY hmem (by omega)) ?_
  refine .nil ?_
  refine c108z ?_
  exact .ret (.ex (hq := by (rw [iE, if_pos hmem])))
theorem c_withN {h : c6} (l : List Int) (n : Int) (hl : l.length < 100000) (hmem : n ∉ l) : CallA Try.prog cfg 37 [.vec l.length (l6 l), .int .i64 n] h (fun y' h' => y' = .vec (iE l n).length (l6 (iE l n)) ∧ h' = h) := by
  refine .b fn37 ntm37 ?_
  refine c33z ?_
  refine c25z ?_
  refine .ca rfl rfl (c_hasN hmem (by omega)) ?_
  refine .nil ?_
  refine c83z ?_
  refine .sb ?_
  refine .iB (fun m st => ∃ (i : Nat), (m = l.length - i ∧ ((∀ d, d < i → l.getD d 0 < n) ∧ i ≤ l.length)) ∧ st = ⟨mkS 36 [(0, AV.vec l.length (l6 l)), (1, AV.int .i64 n), (5, AV.int .i64 ((i : Nat) : Int))], h⟩) _ (.v ⟨0, ⟨rfl, ⟨by intro d hd; omega, by omega⟩⟩, rfl⟩) ?_
  rintro m sl h' ⟨i, ⟨hm, ⟨hI, hi⟩⟩, hst⟩
  obtain ⟨rfl, rfl⟩ := St.mk.inj hst
  refine .seq ?_
  refine c31z ?_
  refine .spl 14 rfl rfl (fun e1 => ?_) (fun e1 => ?_)
  ·try simp only [e1]
   have qe1 := fact e1
   refine .m [(4, 14)] ?_
   refine .spl 21 rfl rfl (fun e2 => ?_) (fun e2 => ?_)
   ·try simp only [e2]
    have qe2 := fact e2
    refine c10z ?_
    refine .block ?_
    refine .c7 [0, 1, 5] ?_
    refine .rz ?_
    exact ⟨_, by omega, .v ⟨(i + 1), ⟨rfl, ⟨lt_nx hI (by omega), by omega⟩⟩, rfl⟩⟩
   try simp only [e2]
   have qe2 := fact e2
   refine c3z ?_
   have hkw : i = kW l n := kW_at hi hI (by intro _; omega)
   have hdl : (l.drop i).length = l.length - i := List.length_drop
   have htl : (l.take i).length = i := by rw [List.length_take]; omega
   have hcl : (l.take i ++ [n]).length = i + 1 := by rw [List.length_append, htl]; rfl
   change c8 ..
   refine .c7 [0, 1, 5] ?_
   refine .sg z7 (mkG 13 [0, 0, 0, 6, 15, 0, 32, 127, 0, 0, 768, 2047, 4095] [0, 4, 6, 7, 11] [0, 0, 0, 0, 1, 0, 0, 81, 0, 0, 0, 209, 2257] [2192, 2192, 2192, 2192, 2176, 2240, 2176, 2048, 2048, 2048, 2048, 0, 0] [(0, 0), (6, 1)] [0, 1, 17, 64, 65, 81, 209, 2257] [0, 1, 2, 3, 4]) 2 ?_
   refine .em [true] [1, 0] [_] ?_
   refine .p 3 ?_
   refine .em [true, false] [17, 1, 0] [_] ?_
   refine .p 1 ?_
   refine .en [true, true, true] [81, 65, 64, 17, 1, 0] [_, _, _] ?_
   refine .en [true, false, false, false, false, false] [209, 81, 65, 64, 17, 1, 0] [_] ?_
   refine .p 3 ?_
   refine .en [true, false, false, false, false, false, false] [2257, 209, 81, 65, 64, 17, 1, 0] [_] ?_
   refine .p 1 ?_
   refine c82z ?_
   refine u9.nil rfl ?_
   refine c16z ?_
   exact ⟨_, _, rfl, C9 (by rw [dK]; rfl) (Nat.le_refl _) t75, by (rw [iE, if_neg hmem, ← hkw]; exact congrArg (fun k => AV.vec k (l6 (l.take i ++ n :: l.drop i))) t75)⟩
  try simp only [e1]
  have qe1 := fact e1
  refine .m [(4, 14)] ?_
  refine c3z ?_
  have hkw : i = kW l n := kW_at hi hI (by intro _; omega)
  have hdl : (l.drop i).length = l.length - i := List.length_drop
  have htl : (l.take i).length = i := by rw [List.length_take]; omega
  have hcl : (l.take i ++ [n]).length = i + 1 := by rw [List.length_append, htl]; rfl
  change c8 ..
  refine .c7 [0, 1, 5] ?_
  refine .sg z7 (mkG 13 [0, 0, 0, 6, 15, 0, 32, 127, 0, 0, 768, 2047, 4095] [0, 4, 6, 7, 11] [0, 0, 0, 0, 1, 0, 0, 81, 0, 0, 0, 209, 2257] [2192, 2192, 2192, 2192, 2176, 2240, 2176, 2048, 2048, 2048, 2048, 0, 0] [(0, 0), (6, 1)] [0, 1, 17, 64, 65, 81, 209, 2257] [0, 1, 2, 3, 4]) 2 ?_
  refine .em [true] [1, 0] [_] ?_
  refine .p 3 ?_
  refine .em [true, false] [17, 1, 0] [_] ?_
  refine .p 1 ?_
  refine .en [true, true, true] [81, 65, 64, 17, 1, 0] [_, _, _] ?_
  refine .en [true, false, false, false, false, false] [209, 81, 65, 64, 17, 1, 0] [_] ?_
  refine .p 3 ?_
  refine .en [true, false, false, false, false, false, false] [2257, 209, 81, 65, 64, 17, 1, 0] [_] ?_
  refine .p 1 ?_
  refine c82z ?_
  refine u9.nil rfl ?_
  refine c16z ?_
  exact ⟨_, _, rfl, C9 (by rw [dK]; rfl) (Nat.le_refl _) t75, by (rw [iE, if_neg hmem, ← hkw]; exact congrArg (fun k => AV.vec k (l6 (l.take i ++ n :: l.drop i))) t75)⟩
theorem BZ {h : c6} (l : List Int) (n : Int) (hl : l.length < 100000) : CallA Try.prog cfg 37 [.vec l.length (l6 l), .int .i64 n] h (fun y' h' => y' = .vec (iE l n).length (l6 (iE l n)) ∧ h' = h) := by
  by_cases hm : n ∈ l
  · exact c_withY l n hl hm
  · exact c_withN l n hl hm
theorem CA {h : c6} (it : u6) (p : Pl) (hp : p.param = true → 0 ≤ p.index ∧ p.index.toNat < it.l4.length) : CallA Try.prog cfg 28 [.agg [.int .i64 it.proc, .vec it.l4.length (l6 it.l4)], .agg [.bool p.param, .int .i64 p.index, .vec p.at'.length (m7 p.at')]] h (fun y' h' => y' = .int .i64 (mE it p) ∧ h' = h) := by
  refine .b fn28 ntm28 ?_
  refine c79z ?_
  refine .spl 6 rfl rfl (fun e1 => ?_) (fun e1 => ?_)
  ·try simp only [e1]
   have qe1 := fact e1
   refine .T ?_
   have hpp := hp (by assumption)
   refine .z ?_
   exact .ret (.ex (hq := by (unfold mE; simp_all)))
  try simp only [e1]
  have qe1 := fact e1
  refine c83z ?_
  exact .ret (.ex (hq := by (unfold mE; simp_all)))
theorem bP {u : Un} (hu : WU u) {it : u6} (w : WIt u it) : (c9 u it).length ≤ 1664 := by
  have := (sC hu (l := [it]) (by simp) (by simpa using w)).2
  simpa using this
theorem CB {u : Un} (hu : WU u) {it : u6} (w : WIt u it) {pc : Nat} (hpc : pc < (c9 u it).length) (hc : gY ((c9 u it).getD pc g9)) : ∀ p ∈ ((c9 u it).getD pc g9).y0, p.param = true → 0 ≤ p.index ∧ p.index.toNat < it.l4.length := by
  obtain ⟨_, _, _, hh⟩ := (lB hu w).2.2 pc hpc
  intro p hp hpar
  obtain ⟨h0, ⟨_, h2⟩ | ⟨h1, _⟩⟩ := (hh hc).2.2 p hp
  · refine ⟨h0, ?_⟩
    rw [w.len]
    simp only at h2
    omega
  · rw [hpar] at h1; cases h1
theorem Q8 {u : Un} (hu : WU u) {it : u6} (w : WIt u it) {pc : Nat} (hpc : pc < (c9 u it).length) (hc : gY ((c9 u it).getD pc g9)) : ((c9 u it).getD pc g9).y0.length ≤ 2 := by
  have h1 := tW hu w hpc hc
  have h2 := h1.len
  have h3 := hu.l4 (dV u it pc).proc.toNat (by have := h1.lo; have := h1.hi; omega)
  simp only [dV, List.length_map] at h2 h3
  omega
theorem CC {h : c6} {u : Un} (hu : WU u) {it : u6} (w : WIt u it) {pc : Nat} (hpc : pc < (c9 u it).length) (hc : ¬ gY ((c9 u it).getD pc g9)) : CallA Try.prog cfg 47 [.agg [.vec u.globals.length (l6 u.globals), .vec u.c4.length (j6 u.c4), .vec u.procs.length (s5 u.procs), .int .i64 u.main], .agg [.int .i64 it.proc, .vec it.l4.length (l6 it.l4)], .int .i64 ((pc : Nat) : Int)] h (fun y' h' => y' = .tup [.agg [.int .i64 0, .vec 0 []], .bool false] ∧ h' = h) := by
  refine .b fn47 ntm47 ?_
  have w1 := w.lo
  have w2 := w.hi
  have hsz : (c9 u it).length ≤ 1664 := bP hu w
  refine c165z ?_
  refine .c7 [2, 4, 6, 8] ?_
  refine c20z ?_
  refine .spl 20 rfl rfl (fun e1 => by exfalso; have q := fact e1; omega) (fun e1 => ?_)
  try simp only [e1]
  have qe1 := fact e1
  refine .k 6 [(2, 20)] ?_
  refine .spl 26 rfl rfl (fun e2 => by exfalso; have q := fact e2; omega) (fun e2 => ?_)
  try simp only [e2]
  have qe2 := fact e2
  refine .k 7 [(8, 26)] ?_
  refine .spl 33 rfl rfl (fun e3 => ?_) (fun e3 => by exfalso; have q := fact e3; exact hc (.inl (by omega)))
  try simp only [e3]
  have qe3 := fact e3
  refine .m [(8, 26), (15, 33)] ?_
  refine .spl 41 rfl rfl (fun e4 => ?_) (fun e4 => by exfalso; have q := fact e4; exact hc (.inr (by omega)))
  try simp only [e4]
  have qe4 := fact e4
  refine .T ?_
  refine .c7 [6] ?_
  refine .z ?_
  exact .ret (.ex (hq := by rfl))
theorem CD {h : c6} {u : Un} (hu : WU u) {it : u6} (w : WIt u it) {pc : Nat} (hpc : pc < (c9 u it).length) (hc : gY ((c9 u it).getD pc g9)) : CallA Try.prog cfg 47 [.agg [.vec u.globals.length (l6 u.globals), .vec u.c4.length (j6 u.c4), .vec u.procs.length (s5 u.procs), .int .i64 u.main], .agg [.int .i64 it.proc, .vec it.l4.length (l6 it.l4)], .int .i64 ((pc : Nat) : Int)] h (fun y' h' => y' = .tup [.agg [.int .i64 (dV u it pc).proc, .vec (dV u it pc).l4.length (l6 (dV u it pc).l4)], .bool true] ∧ h' = h) := by
  refine .b fn47 ntm47 ?_
  have w1 := w.lo
  have w2 := w.hi
  have hsz : (c9 u it).length ≤ 1664 := bP hu w
  have hpl := CB hu w hpc hc
  have hpn := Q8 hu w hpc hc
  refine c165z ?_
  refine .c7 [2, 4, 6, 8] ?_
  refine c20z ?_
  refine .spl 20 rfl rfl (fun e1 => by exfalso; have q := fact e1; omega) (fun e1 => ?_)
  try simp only [e1]
  have qe1 := fact e1
  refine .k 6 [(2, 20)] ?_
  refine .spl 26 rfl rfl (fun e2 => by exfalso; have q := fact e2; omega) (fun e2 => ?_)
  try simp only [e2]
  have qe2 := fact e2
  refine .k 7 [(8, 26)] ?_
  refine .spl 33 rfl rfl (fun e3 => ?_) (fun e3 => ?_)
  ·try simp only [e3]
   have qe3 := fact e3
   refine .m [(8, 26), (15, 33)] ?_
   refine .spl 41 rfl rfl (fun e4 => by exfalso; have q := fact e4; rcases hc with hc | hc <;> omega) (fun e4 => ?_)
   try simp only [e4]
   have qe4 := fact e4
   refine c4z ?_
   refine .c7 [2, 4, 6, 8] ?_
   refine c22z ?_
   refine c8.lZ (β := h.length + 3) (k := 1) t33 rfl ?_
   simp only [List.append_assoc, List.cons_append, List.nil_append, o5, s3, List.set_cons_succ, List.set_cons_zero, List.length_append, List.length_cons, List.length_nil, Nat.reduceAdd, Nat.zero_add]
   refine .dU (fun m st => ∃ (q : Nat), (m = ((c9 u it).getD pc g9).y0.length - q ∧ q ≤ ((c9 u it).getD pc g9).y0.length) ∧ st = ⟨mkS 75 [(2, AV.int .i64 ((pc : Nat) : Int)), (4, AV.ptr (h.length + 1) 0 0), (6, AV.ptr (h.length + 2) 0 0), (8, AV.vec (c9 u it).length (o6 (c9 u it))), (9, AV.ptr (h.length + 3) 0 0), (10, AV.int .i64 ((q : Nat) : Int))], h ++ [⟨0, false, 30, 4, [.vec u.globals.length (l6 u.globals), .vec u.c4.length (j6 u.c4), .vec u.procs.length (s5 u.procs), .int .i64 u.main], 0⟩, ⟨0, false, 42, 2, [.int .i64 it.proc, .vec it.l4.length (l6 it.l4)], 0⟩, ⟨0, false, 42, 2, [.int .i64 0, .g6], 0⟩, ⟨0, false, 42, 2, [.int .i64 ((c9 u it).getD pc g9).target, .own (h.length + 4) q 0 q], 0⟩, p9 3 1 q (l6 ((((c9 u it).getD pc g9).y0.take q).map (mE it)))]⟩) (.v ⟨0, ⟨rfl, by omega⟩, rfl⟩) ?_
   rintro m sl h' ⟨q, ⟨hm, hq⟩, hst⟩
   obtain ⟨rfl, rfl⟩ := St.mk.inj hst; clear hst
   have htl : ((((c9 u it).getD pc g9).y0.take q).map (mE it)).length = q := by rw [List.length_map, List.length_take]; omega
   refine c0z ?_
   refine .spl 56 rfl rfl (fun e5 => ?_) (fun e5 => ?_)
   ·try simp only [e5]
    have qe5 := fact e5
    refine c11z ?_
    refine .c7 [2, 4, 6, 8, 9, 10] ?_
    refine .og z7 (mkG 16 [0, 1, 0, 0, 0, 24, 56, 120, 0, 504, 1016, 2044, 4092, 8191, 16383, 32767] [12, 13, 15] [0, 0, 0, 0, 0, 0, 0, 0, 0, 0, 0, 0, 0, 4096, 12288, 12288] [40960, 40960, 45056, 45056, 45056, 45056, 45056, 45056, 45056, 45056, 45056, 45056, 40960, 32768, 32768, 0] [] [0, 4096, 12288, 45056] [0, 1]) 0 ?_
    refine c30z ?_
    refine c151z ?_
    refine .rn [true] ?_
    refine c58z ?_
    refine .cl rfl rfl (fun _ => CA it (((c9 u it).getD pc g9).y0.getD q bQ) (hpl _ (l7 (d := bQ) (i := q) (by omega)))) ?_
    refine .en [true] [4096, 0] [_] ?_
    refine .en [true, false] [12288, 4096, 0] [_] ?_
    refine .p 1 ?_
    refine .en [true, false, false] [45056, 12288, 4096, 0] [_] ?_
    refine c112z ?_
    refine .c7 [2, 4, 6, 8, 9, 10] ?_
    refine .rz ?_
    exact ⟨_, by omega, .v ⟨(q + 1), ⟨rfl, by omega⟩, rfl⟩ (he := t87) (hk := t77)⟩
   try simp only [e5]
   have qe5 := fact e5
   refine c3z ?_
   obtain rfl : q = ((c9 u it).getD pc g9).y0.length := by omega
   rw [List.take_length] at htl ⊢
   refine c8.lA (γ := h.length + 4) (β := h.length + 3) (k := 1) (len := ((c9 u it).getD pc g9).y0.length) t33 (by rw [n5, htl, Nat.mul_one]) (by omega) (tM _) t33 (by omega) rfl ?_
   simp only [List.append_assoc, List.cons_append, List.nil_append, o5, s3, List.set_cons_succ, List.set_cons_zero, List.length_append, List.length_cons, List.length_nil, Nat.reduceAdd, Nat.zero_add]
   change c8 ..
   refine .c7 [6, 9] ?_
   refine .z ?_
   exact .ret (.ex (hq := by (simp only [dV, List.length_map])))
  try simp only [e3]
  have qe3 := fact e3
  refine .m [(8, 26), (15, 33)] ?_
  refine c4z ?_
  refine .c7 [2, 4, 6, 8] ?_
  refine c22z ?_
  refine c8.lZ (β := h.length + 3) (k := 1) t33 rfl ?_
  simp only [List.append_assoc, List.cons_append, List.nil_append, o5, s3, List.set_cons_succ, List.set_cons_zero, List.length_append, List.length_cons, List.length_nil, Nat.reduceAdd, Nat.zero_add]
  refine .dU (fun m st => ∃ (q : Nat), (m = ((c9 u it).getD pc g9).y0.length - q ∧ q ≤ ((c9 u it).getD pc g9).y0.length) ∧ st = ⟨mkS 75 [(2, AV.int .i64 ((pc : Nat) : Int)), (4, AV.ptr (h.length + 1) 0 0), (6, AV.ptr (h.length + 2) 0 0), (8, AV.vec (c9 u it).length (o6 (c9 u it))), (9, AV.ptr (h.length + 3) 0 0), (10, AV.int .i64 ((q : Nat) : Int))], h ++ [⟨0, false, 30, 4, [.vec u.globals.length (l6 u.globals), .vec u.c4.length (j6 u.c4), .vec u.procs.length (s5 u.procs), .int .i64 u.main], 0⟩, ⟨0, false, 42, 2, [.int .i64 it.proc, .vec it.l4.length (l6 it.l4)], 0⟩, ⟨0, false, 42, 2, [.int .i64 0, .g6], 0⟩, ⟨0, false, 42, 2, [.int .i64 ((c9 u it).getD pc g9).target, .own (h.length + 4) q 0 q], 0⟩, p9 3 1 q (l6 ((((c9 u it).getD pc g9).y0.take q).map (mE it)))]⟩) (.v ⟨0, ⟨rfl, by omega⟩, rfl⟩) ?_
  rintro m sl h' ⟨q, ⟨hm, hq⟩, hst⟩
  obtain ⟨rfl, rfl⟩ := St.mk.inj hst; clear hst
  have htl : ((((c9 u it).getD pc g9).y0.take q).map (mE it)).length = q := by rw [List.length_map, List.length_take]; omega
  refine c0z ?_
  refine .spl 56 rfl rfl (fun e6 => ?_) (fun e6 => ?_)
  ·try simp only [e6]
   have qe6 := fact e6
   refine c11z ?_
   refine .c7 [2, 4, 6, 8, 9, 10] ?_
   refine .og z7 (mkG 16 [0, 1, 0, 0, 0, 24, 56, 120, 0, 504, 1016, 2044, 4092, 8191, 16383, 32767] [12, 13, 15] [0, 0, 0, 0, 0, 0, 0, 0, 0, 0, 0, 0, 0, 4096, 12288, 12288] [40960, 40960, 45056, 45056, 45056, 45056, 45056, 45056, 45056, 45056, 45056, 45056, 40960, 32768, 32768, 0] [] [0, 4096, 12288, 45056] [0, 1]) 0 ?_
   refine c30z ?_
   refine c151z ?_
   refine .rn [true] ?_
   refine c58z ?_
   refine .cl rfl rfl (fun _ => CA it (((c9 u it).getD pc g9).y0.getD q bQ) (hpl _ (l7 (d := bQ) (i := q) (by omega)))) ?_
   refine .en [true] [4096, 0] [_] ?_
   refine .en [true, false] [12288, 4096, 0] [_] ?_
   refine .p 1 ?_
   refine .en [true, false, false] [45056, 12288, 4096, 0] [_] ?_
   refine c112z ?_
   refine .c7 [2, 4, 6, 8, 9, 10] ?_
   refine .rz ?_
   exact ⟨_, by omega, .v ⟨(q + 1), ⟨rfl, by omega⟩, rfl⟩ (he := t87) (hk := t77)⟩
  try simp only [e6]
  have qe6 := fact e6
  refine c3z ?_
  obtain rfl : q = ((c9 u it).getD pc g9).y0.length := by omega
  rw [List.take_length] at htl ⊢
  refine c8.lA (γ := h.length + 4) (β := h.length + 3) (k := 1) (len := ((c9 u it).getD pc g9).y0.length) t33 (by rw [n5, htl, Nat.mul_one]) (by omega) (tM _) t33 (by omega) rfl ?_
  simp only [List.append_assoc, List.cons_append, List.nil_append, o5, s3, List.set_cons_succ, List.set_cons_zero, List.length_append, List.length_cons, List.length_nil, Nat.reduceAdd, Nat.zero_add]
  change c8 ..
  refine .c7 [6, 9] ?_
  refine .z ?_
  exact .ret (.ex (hq := by (simp only [dV, List.length_map])))
theorem c_findI {h : c6} (l : List u6) (x : u6) {n2 n3 : Nat} {z2 z3 : List AV} (hl : l.length < 1000000) (hk : ∀ y ∈ l, y.l4.length < 1000000) : CallA Try.prog cfg 48 [.agg [.vec l.length (aJ l), .vec n2 z2, .vec n3 z3], .agg [.int .i64 x.proc, .vec x.l4.length (l6 x.l4)]] h (fun y' h' => y' = .int .i64 (fI l x) ∧ h' = h) := by
  refine .b fn48 ntm48 ?_
  refine c22z ?_
  refine .iB (fun m st => ∃ (i : Nat), (m = l.length - i ∧ ((∀ d, d < i → l.getD d g7 ≠ x) ∧ i ≤ l.length)) ∧ st = ⟨mkS 34 [(2, AV.ptr h.length 0 0), (3, AV.ptr (h.length + 1) 0 0), (5, AV.int .i64 ((i : Nat) : Int))], h ++ [⟨0, false, 34, 3, [.vec l.length (aJ l), .vec n2 z2, .vec n3 z3], 0⟩, ⟨0, false, 42, 2, [.int .i64 x.proc, .vec x.l4.length (l6 x.l4)], 0⟩]⟩) _ (.v ⟨0, ⟨rfl, ⟨by intro d hd; omega, by omega⟩⟩, rfl⟩) ?_
  rintro m sl h' ⟨i, ⟨hm, ⟨hI, hi⟩⟩, hst⟩
  obtain ⟨rfl, rfl⟩ := St.mk.inj hst
  refine c0z ?_
  refine .spl 10 rfl rfl (fun e1 => ?_) (fun e1 => ?_)
  ·try simp only [e1]
   have qe1 := fact e1
   refine c11z ?_
   refine .ss z7 (mkP 20 [0, 1, 0, 7, 15, 31, 0, 64, 255, 511, 1023, 2047, 1023, 8191, 16383, 32767, 1023, 66559, 262143, 524287] []) ?_
   refine .k 8 [] ?_
   refine .k 2 [] ?_
   refine .spl 22 rfl rfl (fun e2 => ?_) (fun e2 => ?_)
   ·try simp only [e2]
    have qe2 := fact e2
    refine .k 8 [(9, 22)] ?_
    refine .ca rfl rfl (KW _ _ (hk _ (l7 (by omega)))) ?_
    refine .n [] ?_
    refine .spl 32 rfl rfl (fun e3 => ?_) (fun e3 => ?_)
    ·try simp only [e3]
     have qe3 := fact e3
     refine .T ?_
     refine .c7 [5] ?_
     refine .z ?_
     exact .ret (.ex (hq := t76))
    try simp only [e3]
    have qe3 := fact e3
    refine c13z ?_
    refine .c7 [2, 3, 5] ?_
    refine .rz ?_
    exact ⟨_, by omega, .v ⟨(i + 1), ⟨rfl, ⟨it_ne hI (by first | exact KU (by omega) | exact KV (by assumption)), by omega⟩⟩, rfl⟩⟩
   try simp only [e2]
   have qe2 := fact e2
   refine .k 8 [(9, 22)] ?_
   refine .n [(9, 22)] ?_
   refine c13z ?_
   refine .c7 [2, 3, 5] ?_
   refine .rz ?_
   exact ⟨_, by omega, .v ⟨(i + 1), ⟨rfl, ⟨it_ne hI (by first | exact KU (by omega) | exact KV (by assumption)), by omega⟩⟩, rfl⟩⟩
  try simp only [e1]
  have qe1 := fact e1
  refine c18z ?_
  refine c23z ?_
  exact .ret (.ex (hq := t76))
end Go.Proofs.Ytbmaijdkebjnhaa
end
section
namespace Go.Proofs.Ytbmaijdkebjnhaa
open Go.Ab Go.Un
theorem l5.cx {P : Program} {C : Cfg} {h : c6} {ops : Array Oper} {o : Oper} {rest : List Oper} {Q : St → Prop} {n d : Nat} {l : List (Nat × AV)} {c : Call} {f : FuncId} {args : List AV} {K : AV → c6 → Prop} (ho : o.op = .call c) (ht : u3 C (O5 C n l) c = some (f, args)) (hb : n7 C f = true)
    (hc : CallA P C f args h K) (hk : ∀ y h', K y h' → l5 P C ops rest ⟨mkS n ((d, y) :: l), h'⟩ Q) (hw : vJ ops n l o = some true := by rfl) (hd : o.dst = some d := by rfl) : l5 P C ops (o :: rest) ⟨mkS n l, h⟩ Q :=
  l5.call (qH ▸ hw) ho (oS ▸ ht) hb (hc.mono fun y h' hq => by rw [hd]; show l5 P C ops rest ⟨(mkS n l).set d y, h'⟩ Q; rw [bA]; exact hk y h' hq)
def oF (u : Un) (L : List u6) (it : u6) (cs : List Int) (n : Nat) : Prop := ∀ j, j < n →
  (gY ((c9 u it).getD j g9) → 0 ≤ cs.getD j 0 ∧ cs.getD j 0 < L.length ∧ L.getD (cs.getD j 0).toNat g7 = dV u it j) ∧ (¬ gY ((c9 u it).getD j g9) → cs.getD j 0 = -1)
structure LI (u : Un) (L : List u6) : Prop where
  w : ∀ it ∈ L, WIt u it
  nd : L.Nodup
  z : 0 < L.length ∧ L.getD 0 g7 = ⟨0, []⟩
structure RI (L : List u6) (R : List Int) : Prop where
  p : 1 ≤ R.length
  r : ∀ x ∈ R, 0 ≤ x ∧ x < L.length
  s : R.Pairwise (· < ·)
def PI (u : Un) (L : List u6) (CS : List (List Int)) (i : Nat) : Prop := ∀ j, j < i → (CS.getD j []).length = (c9 u (L.getD j g7)).length ∧ oF u L (L.getD j g7) (CS.getD j []) (c9 u (L.getD j g7)).length
def jH (u : Un) (L : List u6) (i : Nat) : Nat := ((L.take i).map fun it => (c9 u it).length).sum
theorem lW {α : Type} {l m : List α} {d : α} {i : Nat} (h : i < l.length) : (l ++ m).getD i d = l.getD i d := by
  simp [List.getD, List.getElem?_append_left h]
theorem oF.app {u : Un} {L M : List u6} {it : u6} {cs : List Int} {n : Nat} (h : oF u L it cs n) : oF u (L ++ M) it cs n := fun j hj => by
  obtain ⟨h1, h2⟩ := h j hj
  refine ⟨fun hc => ?_, h2⟩
  obtain ⟨q1, q2, q3⟩ := h1 hc
  exact ⟨q1, by rw [List.length_append]; omega, by rw [lW (by omega), q3]⟩
theorem oF.set {u : Un} {L : List u6} {it : u6} {cs : List Int} {n : Nat} {x : Int} (h : oF u L it cs n) (hn : n < cs.length) (hx : (gY ((c9 u it).getD n g9) → 0 ≤ x ∧ x < L.length ∧ L.getD x.toNat g7 = dV u it n) ∧ (¬ gY ((c9 u it).getD n g9) → x = -1)) : oF u L it (cs.set n x) (n + 1) := fun j hj => by
  by_cases hjn : j = n
  · subst hjn
    have : (cs.set j x).getD j 0 = x := by simp [List.getD, hn]
    rw [this]; exact hx
  · have : (cs.set n x).getD j 0 = cs.getD j 0 := by simp [List.getD, List.getElem?_set_ne (Ne.symm hjn)]
    rw [this]; exact h j (by omega)
theorem LI.snoc {u : Un} {L : List u6} {x : u6} (h : LI u L) (hx : WIt u x) (hn : x ∉ L) : LI u (L ++ [x]) := by
  refine ⟨fun it hit => ?_, ?_, by simp, ?_⟩
  · rcases List.mem_append.1 hit with hit | hit
    · exact h.w it hit
    · simp only [List.mem_singleton] at hit
      subst hit; exact hx
  · rw [List.nodup_append]
    exact ⟨h.nd, by simp, fun a ha b hb => by simp only [List.mem_singleton] at hb; subst hb; exact fun e => hn (e ▸ ha)⟩
  · rw [lW h.z.1]; exact h.z.2
theorem LI.few {u : Un} (hu : WU u) {L : List u6} (h : LI u L) : L.length ≤ 64 := (sC hu h.nd h.w).1
theorem LI.sites {u : Un} (hu : WU u) {L : List u6} (h : LI u L) (i : Nat) : jH u L i ≤ 1664 := by
  have h1 := (sC hu (l := L.take i) (h.nd.sublist (List.take_sublist _ _)) (fun it hit => h.w it (List.mem_of_mem_take hit))).2
  exact h1
theorem LI.l4 {u : Un} (hu : WU u) {L : List u6} (h : LI u L) : ∀ y ∈ L, y.l4.length ≤ 2 := fun y hy => by
  have w := h.w y hy
  have h1 := w.len
  have h3 := hu.l4 y.proc.toNat (by have := w.lo; have := w.hi; omega)
  omega
theorem RI.app {L M : List u6} {R : List Int} (h : RI L R) : RI (L ++ M) R := ⟨h.p, fun x hx => by have := h.r x hx; rw [List.length_append]; omega, h.s⟩
theorem CE {l : List Int} {n x : Int} : x ∈ iE l n ↔ x ∈ l ∨ x = n := by
  unfold iE
  split
  · rename_i h
    constructor
    · exact .inl
    · rintro (h1 | rfl)
      · exact h1
      · exact h
  · rw [List.mem_append, List.mem_cons]
    constructor
    · rintro (h | h | h)
      · exact .inl (List.mem_of_mem_take h)
      · exact .inr h
      · exact .inl (List.mem_of_mem_drop h)
    · rintro (h | h)
      · rw [← List.take_append_drop (kW l n) l, List.mem_append] at h
        rcases h with h | h
        · exact .inl h
        · exact .inr (.inr h)
      · exact .inr (.inl h)
theorem take_kW {l : List Int} {n : Int} : l.take (kW l n) = l.takeWhile fun x => decide (x < n) := by
  conv => lhs; rw [← List.takeWhile_append_dropWhile (p := fun x => decide (x < n)) (l := l)]
  rw [List.take_append_of_le_length (by simp [kW])]
  exact List.take_of_length_le (by simp [kW])
theorem drop_kW {l : List Int} {n : Int} : l.drop (kW l n) = l.dropWhile fun x => decide (x < n) := by
  conv => lhs; rw [← List.takeWhile_append_dropWhile (p := fun x => decide (x < n)) (l := l)]
  rw [List.drop_append_of_le_length (by simp [kW])]
  rw [List.drop_of_length_le (by simp [kW]), List.nil_append]
theorem pR : ∀ {l : List Int} {n : Int}, l.Pairwise (· < ·) → n ∉ l → (l.takeWhile (fun x => decide (x < n)) ++ n :: l.dropWhile (fun x => decide (x < n))).Pairwise (· < ·)
  | [], n, _, _ => by simp
  | x :: l, n, h, hn => by
    rw [List.pairwise_cons] at h
    by_cases hx : x < n
    · have ih := pR (l := l) (n := n) h.2 (fun hm => hn (List.mem_cons_of_mem _ hm))
      rw [List.takeWhile_cons_of_pos (by simpa using hx), List.dropWhile_cons_of_pos (by simpa using hx), List.cons_append, List.pairwise_cons]
      refine ⟨fun y hy => ?_, ih⟩
      rcases List.mem_append.1 hy with hy | hy
      · exact h.1 y ((List.takeWhile_sublist _).subset hy)
      · rcases List.mem_cons.1 hy with rfl | hy
        · exact hx
        · exact h.1 y ((List.dropWhile_sublist _).subset hy)
    · have hne : n ≠ x := fun e => hn (by rw [e]; simp)
      rw [List.takeWhile_cons_of_neg (by simpa using hx), List.dropWhile_cons_of_neg (by simpa using hx), List.nil_append, List.pairwise_cons]
      refine ⟨fun y hy => ?_, List.pairwise_cons.2 h⟩
      rcases List.mem_cons.1 hy with rfl | hy
      · omega
      · have := h.1 y hy; omega
theorem RI.with {L : List u6} {R : List Int} (h : RI L R) {n : Int} (hn : 0 ≤ n ∧ n < L.length) : RI L (iE R n) := by
  refine ⟨?_, fun x hx => ?_, ?_⟩
  · unfold iE
    split
    · exact h.p
    · simp only [List.length_append, List.length_cons]; omega
  · rcases CE.1 hx with hx | rfl
    · exact h.r x hx
    · exact hn
  · unfold iE
    split
    · exact h.s
    · rename_i hm
      rw [take_kW, drop_kW]
      exact pR h.s hm
theorem uG : ∀ {R : List Int} {a b : Int}, R.Pairwise (· < ·) → (∀ x ∈ R, a ≤ x ∧ x < b) → R.length ≤ (b - a).toNat
  | [], a, b, _, _ => by simp
  | x :: R, a, b, h, hr => by
    rw [List.pairwise_cons] at h
    have h0 := hr x (by simp)
    have ih := uG (R := R) (a := x + 1) (b := b) h.2 (fun y hy => ⟨by have := h.1 y hy; omega, (hr y (by simp [hy])).2⟩)
    simp only [List.length_cons]
    omega
theorem RI.len {u : Un} (hu : WU u) {L : List u6} {R : List Int} (hl : LI u L) (h : RI L R) : R.length ≤ 64 := by
  have h1 := uG h.s (a := 0) (b := (L.length : Int)) h.r
  have h2 := hl.few hu
  omega
theorem Q9 {u : Un} {L : List u6} {i : Nat} (h : i < L.length) : jH u L (i + 1) = jH u L i + (c9 u (L.getD i g7)).length := by
  unfold jH
  rw [taken (d := g7) h]
  simp
theorem PI.step {u : Un} {L M : List u6} {CS : List (List Int)} {i : Nat} {v : List Int} (h : PI u L CS i) (hc : CS.length = i) (hi : i < L.length) (hv : v.length = (c9 u (L.getD i g7)).length) (hok : oF u (L ++ M) (L.getD i g7) v (c9 u (L.getD i g7)).length) : PI u (L ++ M) (CS ++ [v]) (i + 1) := fun j hj => by
  by_cases hji : j = i
  · subst hji
    have e1 : (CS ++ [v]).getD j [] = v := by subst hc; simp [List.getD]
    rw [e1, lW hi]
    exact ⟨hv, hok⟩
  · have e1 : (CS ++ [v]).getD j [] = CS.getD j [] := lW (by omega)
    obtain ⟨h1, h2⟩ := h j (by omega)
    rw [e1, lW (by omega)]
    exact ⟨h1, h2.app⟩
theorem D0 {l : List (List Int)} {x : List Int} : dE (l ++ [x]) = dE l ++ [.vec x.length (l6 x)] := by simp [dE]
theorem D1 {l : List u6} {x : u6} : aJ (l ++ [x]) = aJ l ++ [.int .i64 x.proc, .vec x.l4.length (l6 x.l4)] := by simp [aJ, O9]
theorem IX (l : List (List Int)) : bE (dE l) := bE.map fun _ => .vec
theorem IY (l : List u6) : bE (aJ l) := bE.flat fun _ => bE.cons .int (bE.cons .vec .nil)
theorem app_its {h : c6} {b0 b1 b3 b4 b5 b6 b7 : Blk} {l : c6} {L : List u6} {x : u6} {g n : Nat} (hz : L.length = n) (hn : n < 1000) : j7 cfg 42 (h ++ (b0 :: b1 :: ⟨g, false, 42, 2, aJ L, 0⟩ :: b3 :: b4 :: b5 :: b6 :: b7 :: ⟨0, false, 42, 2, [.int .i64 x.proc, .vec x.l4.length (l6 x.l4)], 0⟩ :: l)) (.own (h.length + 2) g 0 n) (.own (h.length + 8) 0 0 1) = some (.own (h.length + 2) (g + 1) 0 (n + 1), h ++ (b0 :: b1 :: ⟨g + 1, false, 42, 2, aJ (L ++ [x]), 0⟩ :: b3 :: b4 :: b5 :: b6 :: b7 :: ⟨0, false, 42, 2, [.int .i64 x.proc, .vec x.l4.length (l6 x.l4)], 0⟩ :: l)) := by
  subst hz
  have e1 : cfg.sz 42 = 2 := rfl
  have e2 : (cfg.ti 42).bytes = 32 := rfl
  have hm : L.length + 1 ≤ maxLen := by
    have : (1001 : Nat) ≤ maxLen := by decide
    omega
  have hb : (L.length + 1) * 32 ≤ 140737488355328 := by omega
  have h1 : (aJ L).length = L.length * 2 := by rw [cR]; omega
  have ht : List.take (L.length * 2) (aJ L) = aJ L := List.take_of_length_le (by omega)
  have hnl : ¬ (L.length + 1) * 2 ≤ L.length * 2 := by omega
  simp [j7, rd, lenOf, e1, e2, h1, hm, hb, ht, hnl, o5, s3, D1]
theorem app_cs {h : c6} {b0 b1 b2 b3 b4 b6 : Blk} {l : c6} {CS : List (List Int)} {x : List Int} {m g n : Nat} (hn : CS.length = n) (hx : x.length = m) (hl : n < 100000) : j7 cfg 22 (h ++ (b0 :: b1 :: b2 :: b3 :: b4 :: p9 22 1 g (dE CS) :: b6 :: ⟨0, false, 22, 1, [.vec m (l6 x)], 0⟩ :: l)) (.own (h.length + 5) g 0 n) (.own (h.length + 7) 0 0 1) = some (.own (h.length + 5) (g + 1) 0 (n + 1), h ++ (b0 :: b1 :: b2 :: b3 :: b4 :: p9 22 1 (g + 1) (dE (CS ++ [x])) :: b6 :: ⟨0, false, 22, 1, [.vec m (l6 x)], 0⟩ :: l)) := by
  subst hn hx
  rw [aR (C := cfg) (K := 1) (m := 1) (new := [.vec x.length (l6 x)]) (zs := dE CS) t33 rfl (by omega) (by simp [dE]) rfl (by omega) (by simp [rd, o5]) rfl (by decide) (by omega), ← D0, s3]
  rfl
theorem CF : ∀ {v : List Int} {i : Nat} {x : Int}, i < v.length → List.take i (l6 v) ++ AV.int .i64 x :: List.drop (i + 1) (l6 v) = l6 (v.set i x)
  | y :: v, 0, x, _ => rfl
  | y :: v, i + 1, x, h => by
    have ih := CF (v := v) (i := i) (x := x) (by simpa using h)
    simp only [l6, List.map_cons, List.set_cons_succ, List.take_succ_cons, List.drop_succ_cons, List.cons_append] at ih ⊢
    rw [ih]
theorem zeros_I {n : Nat} : (List.replicate n [AV.int .i64 0]).flatten = l6 (List.replicate n 0) := by
  induction n with
  | zero => rfl
  | succ n ih => rw [List.replicate_succ, List.flatten_cons, ih]; simp [l6, List.replicate_succ]
theorem frz_its {n d : Nat} {H : c6} {l : List u6} : l9 (gG n H (d + 1)) (aJ l) = some (aJ l) := (IY l).frz _ _ _
theorem D2 {H : c6} {β γ g i n1 n2 n3 : Nat} {L : List u6} {CS : List (List Int)} {x : u6} {z3 : List AV} (hb : H[β]? = some ⟨g, false, 42, 2, aJ L, 0⟩) (hc : H[γ]? = some (p9 22 1 i (dE CS))) (h1 : L.length = n1) (h2 : CS.length = n2) (hl : L.length < 1000000) (hk : ∀ y ∈ L, y.l4.length < 1000000) : CallA Try.prog cfg 48 [.agg [.own β g 0 n1, .own γ i 0 n2, .vec n3 z3], .agg [.int .i64 x.proc, .vec x.l4.length (l6 x.l4)]] H (fun y' h' => y' = .int .i64 (fI L x) ∧ h' = H) := by
  subst h1 h2
  have e1 : gG 0 H 6 (.own β g 0 L.length) = some (.vec L.length (aJ L)) := by
    rw [v5, hb]
    simp only [Nat.zero_le, and_self, if_true, Bool.false_eq_true, if_false, Nat.zero_add]
    rw [if_pos (by rw [cR]; omega), List.drop_zero, List.take_of_length_le (by rw [cR]; omega), frz_its]
  have e2 : gG 0 H 6 (.own γ i 0 CS.length) = some (.vec CS.length (dE CS)) := gV hc (Nat.zero_le _) (by simp [dE]) (by omega) ((IX CS).frz _ _ _)
  have e : DL 0 H (.agg [.own β g 0 L.length, .own γ i 0 CS.length, .vec n3 z3]) = some (.agg [.vec L.length (aJ L), .vec CS.length (dE CS), .vec n3 z3]) := by
    simp only [DL, l9, e1, e2, aA, Option.map_some]
  have ha : EW 0 H [.agg [.vec L.length (aJ L), .vec CS.length (dE CS), .vec n3 z3], .agg [.int .i64 x.proc, .vec x.l4.length (l6 x.l4)]] [.agg [.own β g 0 L.length, .own γ i 0 CS.length, .vec n3 z3], .agg [.int .i64 x.proc, .vec x.l4.length (l6 x.l4)]] := And.intro (.inr e) (And.intro (.inr rfl) trivial)
  exact CallA.borrow ha ((c_findI L x hl hk).mono fun _ _ h => h.1)
theorem uH {l : List (List Int)} : (dE l).length = l.length := by simp [dE]
theorem R0 {h : c6} {u : Un} (hu : WU u) {it : u6} (w : WIt u it) {pc : Nat} (hpc : pc < (c9 u it).length) (hc : gY ((c9 u it).getD pc g9)) {y : u6} (hy : dV u it pc = y) : CallA Try.prog cfg 47 [.agg [.vec u.globals.length (l6 u.globals), .vec u.c4.length (j6 u.c4), .vec u.procs.length (s5 u.procs), .int .i64 u.main], .agg [.int .i64 it.proc, .vec it.l4.length (l6 it.l4)], .int .i64 ((pc : Nat) : Int)] h (fun y' h' => y' = .tup [.agg [.int .i64 y.proc, .vec y.l4.length (l6 y.l4)], .bool true] ∧ h' = h) := by
  subst hy; exact CD hu w hpc hc
theorem R2 {h : c6} {u : Un} (hu : WU u) {L : List u6} {i : Nat} (w : WIt u (L.getD i g7)) {it : u6} (hi : L.getD i g7 = it) {pc : Nat} (hpc : pc < (c9 u it).length) (hc : gY ((c9 u it).getD pc g9)) {y : u6} (hy : dV u it pc = y) : CallA Try.prog cfg 47 [.agg [.vec u.globals.length (l6 u.globals), .vec u.c4.length (j6 u.c4), .vec u.procs.length (s5 u.procs), .int .i64 u.main], .agg [.int .i64 (L.getD i g7).proc, .vec (L.getD i g7).l4.length (l6 (L.getD i g7).l4)], .int .i64 ((pc : Nat) : Int)] h (fun y' h' => y' = .tup [.agg [.int .i64 y.proc, .vec y.l4.length (l6 y.l4)], .bool true] ∧ h' = h) := by
  subst hi; exact R0 hu w hpc hc hy
theorem R3 {h : c6} {u : Un} (hu : WU u) {L : List u6} {i : Nat} (w : WIt u (L.getD i g7)) {it : u6} (hi : L.getD i g7 = it) {pc : Nat} (hpc : pc < (c9 u it).length) (hc : ¬ gY ((c9 u it).getD pc g9)) : CallA Try.prog cfg 47 [.agg [.vec u.globals.length (l6 u.globals), .vec u.c4.length (j6 u.c4), .vec u.procs.length (s5 u.procs), .int .i64 u.main], .agg [.int .i64 (L.getD i g7).proc, .vec (L.getD i g7).l4.length (l6 (L.getD i g7).l4)], .int .i64 ((pc : Nat) : Int)] h (fun y' h' => y' = .tup [.agg [.int .i64 0, .vec 0 []], .bool false] ∧ h' = h) := by
  subst hi; exact CC hu w hpc hc
theorem mx2000 : (2000 : Nat) ≤ maxLen := by decide
theorem wQ {v : List Int} {i : Nat} {x : Int} (h : i < v.length) : (v.set i x).getD i 0 = x := by simp [List.getD, h]
theorem IZ {v : List Int} {i : Nat} {x : Int} (h : i < v.length) : List.take 1 (List.drop i (l6 (v.set i x))) = [.int .i64 x] := by rw [zC (by rw [List.length_set]; exact h), wQ h]
theorem CG {u : Un} {L M : List u6} {i : Nat} (h : i ≤ L.length) : jH u (L ++ M) i = jH u L i := by
  unfold jH
  rw [List.take_append_of_le_length h]
theorem wit0 {u : Un} (hu : WU u) : WIt u ⟨0, []⟩ := by
  have := hu.pl
  refine ⟨Int.le_refl _, by show (0 : Int) < u.procs.length; omega, ?_, fun x hx => by simp at hx⟩
  show 0 = (u.procs.getD 0 nO).l4.toNat
  rw [hu.zero]; rfl
theorem wc_of {u : Un} (hu : WU u) {L : List u6} {CS : List (List Int)} {R : List Int} (hL : LI u L) (hR : RI L R) (hc : CS.length = L.length) (hP : PI u L CS L.length) : WC u ⟨L, CS, R⟩ :=
  ⟨⟨hL.z.1, hL.few hu⟩, hL.z.2, hL.w, hL.nd, hc, fun i hi => (hP i hi).1, fun i hi pc hpc => (hP i hi).2 pc hpc, hR.p, hR.r, hR.s⟩
attribute [local go_sem] rd p6 j8 bI cQ cC aS dM dL s9 bF aP n5 bK Int.natCast_nonneg Int.natCast_inj List.length_map wrap64 bW iM iN I7 yJ A9 I8 wU max2 eP cV bN Nat.reduceMul lR jE gX sP zC oD K9 oE lJ wP cR fE app_its app_cs CF zeros_I uH
section
attribute [local go_sem] IZ List.length_set
theorem c_close {h : c6} {u : Un} (hu : WU u) : CallA Try.prog cfg 26 [.agg [.vec u.globals.length (l6 u.globals), .vec u.c4.length (j6 u.c4), .vec u.procs.length (s5 u.procs), .int .i64 u.main]] h (fun y' h' => (∃ c, WC u c ∧ y' = .tup [.agg (MQ c), .int .i64 0]) ∧ h' = h) := by
  refine .b fn26 ntm26 ?_
  refine .z ?_
  refine .z ?_
  refine .c7 [1, 2, 4] ?_
  refine c8.jC (β := h.length + 2) [.int .i64 0, .vec 0 []] t33 ?_ ?_
  exact ⟨.inl (by rw [hu.main]), .inr ⟨rfl, rfl⟩, trivial⟩
  simp only [List.append_assoc, List.cons_append, List.nil_append, o5, s3, List.set_cons_succ, List.set_cons_zero, List.length_append, List.length_cons, List.length_nil, Nat.reduceAdd, Nat.zero_add]
  refine c8.lZ (β := h.length + 4) (k := 1) t33 rfl ?_
  simp only [List.append_assoc, List.cons_append, List.nil_append, o5, s3, List.set_cons_succ, List.set_cons_zero, List.length_append, List.length_cons, List.length_nil, Nat.reduceAdd, Nat.zero_add]
  refine c8.O2 (γ := h.length + 3) (β := h.length + 4) (k := 2) (off := 0) (len := 1) (cs := [.int .i64 0]) t33 rfl (by simp) rfl t33 (by omega) rfl ?_
  simp only [List.append_assoc, List.cons_append, List.nil_append, o5, s3, List.set_cons_succ, List.set_cons_zero, List.length_append, List.length_cons, List.length_nil, Nat.reduceAdd, Nat.zero_add]
  generalize eT _ _ = Rb
  refine c22z ?_
  refine .dU (fun m st => ∃ (i : Nat) (L : List u6) (g : Nat) (R : List Int) (CS : List (List Int)), (m = 65 - i ∧ (LI u L ∧ RI L R ∧ i ≤ L.length ∧ CS.length = i ∧ PI u L CS i)) ∧ st = ⟨mkS 109 [(1, AV.ptr h.length 0 0), (2, AV.ptr (h.length + 1) 0 0), (4, AV.ptr (h.length + 4) 0 0), (5, AV.int .i64 ((jH u L i : Nat) : Int)), (6, AV.int .i64 ((i : Nat) : Int))], h ++ [⟨0, false, 30, 4, [.vec u.globals.length (l6 u.globals), .vec u.c4.length (j6 u.c4), .vec u.procs.length (s5 u.procs), .int .i64 u.main], 0⟩, ⟨0, false, 34, 3, [.g6, .g6, .g6], 0⟩, ⟨g, false, 42, 2, aJ L, 0⟩, Rb, ⟨0, false, 34, 3, [.own (h.length + 2) g 0 L.length, .own (h.length + 5) i 0 i, .vec R.length (l6 R)], 0⟩, p9 22 1 i (dE CS)]⟩) (.v ⟨0, ([⟨0, []⟩] : List u6), 0, ([0] : List Int), ([] : List (List Int)), ⟨rfl, ⟨⟨fun it hit => by simp only [List.mem_singleton] at hit; subst hit; exact wit0 hu, by simp, by simp⟩, ⟨by simp, by simp, by simp⟩, by omega, rfl, fun j hj => by omega⟩⟩, rfl⟩ (hs := t68)) ?_
  rintro m sl h' ⟨i, L, g, R, CS, ⟨hm, ⟨hL, hR, hi, hCS, hP⟩⟩, hst⟩
  obtain ⟨rfl, rfl⟩ := St.mk.inj hst; clear hst
  have hfew := hL.few hu
  have hrl := hR.len hu hL
  refine c0z ?_
  refine .spl 22 rfl rfl (fun e1 => ?_) (fun e1 => ?_)
  ·try simp only [e1]
   have qe1 := fact e1
   refine c11z ?_
   have hw : WIt u (L.getD i g7) := hL.w _ (l7 (by omega))
   have hw1 := hw.lo; have hw2 := hw.hi
   have hcd := lB hu hw
   have hs0 := hL.sites hu i
   have hs1 : jH u L (i + 1) = jH u L i + (c9 u (L.getD i g7)).length := by rw [Q9 (by omega)]
   have hs2 := hL.sites hu (i + 1)
   refine .ss z7 (mkP 12 [0, 1, 0, 4, 0, 28, 60, 124, 255, 511, 1023, 2047] []) ?_
   refine c167z ?_
   refine .c7 [1, 2, 4, 5, 6, 7, 34] ?_
   refine c33z ?_
   refine c20z ?_
   refine .spl 42 rfl rfl (fun e2 => by exfalso; have q := fact e2; omega) (fun e2 => ?_)
   try simp only [e2]
   have qe2 := fact e2
   refine .m [(2, 42)] ?_
   refine .spl 45 rfl rfl (fun e3 => by exfalso; have q := fact e3; omega) (fun e3 => ?_)
   try simp only [e3]
   have qe3 := fact e3
   refine c4z ?_
   refine .c7 [1, 2, 4, 5, 6, 7, 34] ?_
   have hcl1 := hcd.1
   have hclm : (c9 u (L.getD i g7)).length ≤ 2000 := by omega
   have hmx : ((c9 u (L.getD i g7)).length : Int) ≤ (maxLen : Int) := Int.ofNat_le.2 (Nat.le_trans hclm mx2000)
   refine c22z ?_
   refine .dU (fun m st => ∃ (pc : Nat) (L1 : List u6) (g1 : Nat) (R1 : List Int) (v : List Int), (m = (c9 u (L.getD i g7)).length - pc ∧ (LI u L1 ∧ RI L1 R1 ∧ (∃ M, L1 = L ++ M) ∧ pc ≤ (c9 u (L.getD i g7)).length ∧ v.length = (c9 u (L.getD i g7)).length ∧ oF u L1 (L.getD i g7) v pc)) ∧ st = ⟨mkS 109 [(1, AV.ptr h.length 0 0), (2, AV.ptr (h.length + 1) 0 0), (4, AV.ptr (h.length + 4) 0 0), (5, AV.int .i64 ((jH u L (i + 1) : Nat) : Int)), (6, AV.int .i64 ((i : Nat) : Int)), (7, AV.vec (c9 u (L.getD i g7)).length (o6 (c9 u (L.getD i g7)))), (8, AV.own (h.length + 6) 0 0 (c9 u (L.getD i g7)).length), (9, AV.int .i64 ((pc : Nat) : Int))], h ++ [⟨0, false, 30, 4, [.vec u.globals.length (l6 u.globals), .vec u.c4.length (j6 u.c4), .vec u.procs.length (s5 u.procs), .int .i64 u.main], 0⟩, ⟨0, false, 34, 3, [.g6, .g6, .g6], 0⟩, ⟨g1, false, 42, 2, aJ L1, 0⟩, Rb, ⟨0, false, 34, 3, [.own (h.length + 2) g1 0 L1.length, .own (h.length + 5) i 0 i, .vec R1.length (l6 R1)], 0⟩, p9 22 1 i (dE CS), ⟨0, false, 3, 1, l6 v, 0⟩]⟩) (.v ⟨0, L, g, R, (List.replicate (c9 u (L.getD i g7)).length 0), ⟨rfl, ⟨hL, hR, ⟨[], by simp⟩, by omega, by simp, fun j hj => by omega⟩⟩, rfl⟩) ?_
   rintro m sl h' ⟨pc, L1, g1, R1, v, ⟨hm, ⟨hL1, hR1, ⟨M, hM⟩, hpc, hv, hok⟩⟩, hst⟩
   obtain ⟨rfl, rfl⟩ := St.mk.inj hst; clear hst
   have hfew1 := hL1.few hu
   have hrl1 := hR1.len hu hL1
   have hit1 : L1.getD i g7 = L.getD i g7 := by rw [hM, lW (by omega)]
   have hw1 : WIt u (L1.getD i g7) := by rw [hit1]; exact hw
   have hil1 : i < L1.length := by rw [hM, List.length_append]; omega
   refine c0z ?_
   refine .spl 53 rfl rfl (fun e4 => ?_) (fun e4 => ?_)
   ·try simp only [e4]
    have qe4 := fact e4
    refine c11z ?_
    by_cases hcl : gY ((c9 u (L.getD i g7)).getD pc g9)
    ·generalize hy : dV u (L.getD i g7) pc = y
     have hwy : WIt u y := by rw [← hy]; exact tW hu hw (by omega) hcl
     refine .sg z7 (mkG 14 [0, 0, 2, 0, 14, 30, 0, 127, 255, 511, 511, 0, 3071, 8191] [11, 12] [0, 0, 0, 0, 0, 0, 0, 0, 0, 0, 0, 0, 2048, 6144] [4096, 4096, 4096, 4096, 4096, 4096, 4096, 4096, 4096, 4096, 0, 4096, 0, 0] [] [0, 2048, 6144] [0, 1, 2, 3, 4, 5, 6, 7, 8, 9, 10]) 0 ?_
     refine c84z ?_
     refine .p 2 ?_
     refine c124z ?_
     refine .cl rfl rfl (fun _ => R2 hu hw1 hit1 (by omega) hcl hy) ?_
     refine .p 3 ?_
     refine .en [true] [2048, 0] [_] ?_
     refine .en [true, false] [6144, 2048, 0] [_] ?_
     refine .p 1 ?_
     refine c35z ?_
     refine c132z ?_
     refine .seq ?_
     refine .c7 [1, 2, 4, 5, 6, 7, 8, 9, 10, 11] ?_
     refine .z ?_
     refine c55z ?_
     refine c25z ?_
     refine .ca rfl rfl (D2 t33 t33 rfl hCS (by omega) (fun y hy => Nat.lt_of_le_of_lt (LI.l4 hu hL1 y hy) (by omega))) ?_
     refine .n ?_
     refine .spl 75 rfl rfl (fun e5 => ?_) (fun e5 => ?_)
     ·try simp only [e5]
      have qe5 := fact e5
      refine c64z ?_
      refine .c7 [1, 2, 4, 5, 6, 7, 8, 9, 10] ?_
      have hny : y ∉ L1 := fun hm => by have := K8 hm; omega
      have hL2 := hL1.snoc hwy hny
      have hfew2 := hL2.few hu
      have hmy : y ∈ L1 ++ [y] := by simp
      have hR2 := hR1.app (M := [y])
      have hok2 := hok.app (M := [y])
      obtain ⟨hf1, hf2, hf3⟩ := K8 hmy
      have hsg := @wQ v pc (fI (L1 ++ [y]) y) (by omega)
      refine c24z ?_
      refine .ca rfl rfl (D2 (L := (L1 ++ [y])) t33 t33 (by rw [List.length_append]; rfl) hCS (by rw [List.length_append, List.length_singleton]; omega) (fun y hy => Nat.lt_of_le_of_lt (LI.l4 hu hL2 y hy) (by omega))) ?_
      refine .n ?_
      refine .z ?_
      refine .spl 93 rfl rfl (fun e6 => ?_) (fun e6 => ?_)
      ·try simp only [e6]
       have qe6 := fact e6
       refine .T ?_
       refine .c7 [1, 2, 4, 5, 6, 7, 8, 9] ?_
       refine .og z7 (mkG 9 [0, 1, 0, 0, 12, 28, 63, 127, 255] [8] [0, 0, 0, 0, 0, 0, 0, 0, 0] [256, 256, 256, 256, 256, 256, 256, 256, 0] [] [0, 256] []) 0 ?_
       refine .p 1 ?_
       refine c85z ?_
       refine .rn [true] ?_
       refine .cl rfl rfl (fun _ => BZ _ _ (by omega)) ?_
       refine .p 1 ?_
       refine .en [true] [256, 0] [_] ?_
       refine u9.nil rfl ?_
       change c8 ..
       refine .c7 [1, 2, 4, 5, 6, 7, 8, 9] ?_
       refine .rz ?_
       exact ⟨_, by omega, .v ⟨(pc + 1), (L1 ++ [y]), (g1 + 1), (iE R1 (fI (L1 ++ [y]) y)), (v.set pc (fI (L1 ++ [y]) y)), ⟨rfl, ⟨hL2, hR2.with ⟨hf1, hf2⟩, ⟨M ++ [y], by rw [hM, List.append_assoc]⟩, by omega, by rw [List.length_set]; exact hv, hok2.set (by omega) ⟨fun _ => ⟨hf1, hf2, hf3.trans hy.symm⟩, fun hc => absurd hcl hc⟩⟩⟩, rfl⟩ (he := t29) (hk := t26)⟩
      try simp only [e6]
      have qe6 := fact e6
      refine c13z ?_
      refine .c7 [1, 2, 4, 5, 6, 7, 8, 9] ?_
      refine .rz ?_
      exact ⟨_, by omega, .v ⟨(pc + 1), (L1 ++ [y]), (g1 + 1), R1, (v.set pc (fI (L1 ++ [y]) y)), ⟨rfl, ⟨hL2, hR2, ⟨M ++ [y], by rw [hM, List.append_assoc]⟩, by omega, by rw [List.length_set]; exact hv, hok2.set (by omega) ⟨fun _ => ⟨hf1, hf2, hf3.trans hy.symm⟩, fun hc => absurd hcl hc⟩⟩⟩, rfl⟩ (he := t29) (hk := t26)⟩
     try simp only [e5]
     have qe5 := fact e5
     refine c4z ?_
     have hmy : y ∈ L1 := Classical.byContradiction fun hm => by have := fI_not hm; omega
     have hL2 := hL1
     have hR2 := hR1
     have hok2 := hok
     obtain ⟨hf1, hf2, hf3⟩ := K8 hmy
     have hsg := @wQ v pc (fI L1 y) (by omega)
     refine c24z ?_
     refine .ca rfl rfl (D2 (L := L1) t33 t33 rfl hCS (by omega) (fun y hy => Nat.lt_of_le_of_lt (LI.l4 hu hL1 y hy) (by omega))) ?_
     refine .n ?_
     refine .c7 [1, 2, 4, 5, 6, 7, 8, 9] ?_
     refine .z ?_
     refine .spl 93 rfl rfl (fun e7 => ?_) (fun e7 => ?_)
     ·try simp only [e7]
      have qe7 := fact e7
      refine .T ?_
      refine .og z7 (mkG 9 [0, 1, 0, 0, 12, 28, 63, 127, 255] [8] [0, 0, 0, 0, 0, 0, 0, 0, 0] [256, 256, 256, 256, 256, 256, 256, 256, 0] [] [0, 256] []) 0 ?_
      refine .p 1 ?_
      refine c85z ?_
      refine .rn [true] ?_
      refine .cl rfl rfl (fun _ => BZ _ _ (by omega)) ?_
      refine .p 1 ?_
      refine .en [true] [256, 0] [_] ?_
      refine u9.nil rfl ?_
      change c8 ..
      refine .c7 [1, 2, 4, 5, 6, 7, 8, 9] ?_
      refine .rz ?_
      exact ⟨_, by omega, .v ⟨(pc + 1), L1, g1, (iE R1 (fI L1 y)), (v.set pc (fI L1 y)), ⟨rfl, ⟨hL2, hR2.with ⟨hf1, hf2⟩, ⟨M, by rw [hM]⟩, by omega, by rw [List.length_set]; exact hv, hok2.set (by omega) ⟨fun _ => ⟨hf1, hf2, hf3.trans hy.symm⟩, fun hc => absurd hcl hc⟩⟩⟩, rfl⟩ (he := t29) (hk := t26)⟩
     try simp only [e7]
     have qe7 := fact e7
     refine c13z ?_
     refine .rz ?_
     exact ⟨_, by omega, .v ⟨(pc + 1), L1, g1, R1, (v.set pc (fI L1 y)), ⟨rfl, ⟨hL2, hR2, ⟨M, by rw [hM]⟩, by omega, by rw [List.length_set]; exact hv, hok2.set (by omega) ⟨fun _ => ⟨hf1, hf2, hf3.trans hy.symm⟩, fun hc => absurd hcl hc⟩⟩⟩, rfl⟩ (he := t29) (hk := t26)⟩
    ·skip
     refine .sg z7 (mkG 14 [0, 0, 2, 0, 14, 30, 0, 127, 255, 511, 511, 0, 3071, 8191] [11, 12] [0, 0, 0, 0, 0, 0, 0, 0, 0, 0, 0, 0, 2048, 6144] [4096, 4096, 4096, 4096, 4096, 4096, 4096, 4096, 4096, 4096, 0, 4096, 0, 0] [] [0, 2048, 6144] [0, 1, 2, 3, 4, 5, 6, 7, 8, 9, 10]) 0 ?_
     refine c84z ?_
     refine .p 2 ?_
     refine c124z ?_
     refine .cl rfl rfl (fun _ => R3 hu hw1 hit1 (by omega) hcl) ?_
     refine .p 3 ?_
     refine .en [true] [2048, 0] [_] ?_
     refine .en [true, false] [6144, 2048, 0] [_] ?_
     refine .p 1 ?_
     refine c35z ?_
     refine c132z ?_
     refine .seq ?_
     refine .c7 [1, 2, 4, 5, 6, 7, 8, 9, 10, 11] ?_
     refine .z ?_
     refine c108z ?_
     refine .exit ?_
     change c8 ..
     refine .rz ?_
     exact ⟨_, by omega, .v ⟨(pc + 1), L1, g1, R1, (v.set pc (-1)), ⟨rfl, ⟨hL1, hR1, ⟨M, hM⟩, by omega, by rw [List.length_set]; exact hv, hok.set (by omega) ⟨fun hc => absurd hc hcl, fun _ => rfl⟩⟩⟩, rfl⟩ (he := t29) (hk := t26)⟩
   try simp only [e4]
   have qe4 := fact e4
   refine c3z ?_
   obtain rfl : pc = (c9 u (L.getD i g7)).length := by omega
   refine c8.W3 (t := 8) (γ := h.length + 6) (len := (c9 u (L.getD i g7)).length) (by rw [o5]; exact congrArg some (fC (by intro h0; have := congrArg List.length h0; rw [n5] at this; simp only [List.length_nil] at this; omega)).symm) (by rw [n5, hv, Nat.mul_one]) (by omega) (tM _) (A0 (by decide) rfl) ?_
   rw [bA]; simp only [s3, List.set_cons_succ, List.set_cons_zero]
   generalize iC _ _ _ _ _ = Vb
   change c8 ..
   refine c1z ?_
   refine .c7 [1, 2, 4, 5, 6] ?_
   refine .rz ?_
   have hP1 : PI u L1 (CS ++ [v]) (i + 1) := by rw [hM]; exact hP.step hCS (by omega) hv (by rw [← hM]; exact hok)
   have hs3 : jH u L1 (i + 1) = jH u L (i + 1) := by rw [hM, CG (by omega)]
   exact ⟨_, by omega, .v ⟨(i + 1), L1, g1, R1, (CS ++ [v]), ⟨rfl, ⟨hL1, hR1, by omega, by simp [hCS], hP1⟩⟩, rfl⟩ (he := by (simp only [List.append_assoc, List.cons_append, List.nil_append, List.length_append, List.length_cons, List.length_nil, hCS]; rfl)) (hk := by exact (cI.refl _).app rfl ⟨.inl rfl, .inl rfl, .inr ((IY _).refs _), .inl rfl, .inr (fR.get ⟨.own _ _ _ _ (by simp), .own _ _ _ _ (by simp), .vec _ _, trivial⟩), .inr (by rw [o9]; exact (IX _).refs _), trivial⟩) (hs := t68)⟩
  try simp only [e1]
  have qe1 := fact e1
  refine c3z ?_
  obtain rfl : i = L.length := by omega
  refine c8.O2 (γ := h.length + 2) (β := h.length + 4) (k := 0) (off := 0) (len := L.length) (cs := aJ L) t33 rfl (by simp only [cR]; omega) (by rw [List.drop_zero, List.take_of_length_le (by simp only [cR]; omega)]; exact (IY _).QT) t33 (by omega) rfl ?_
  simp only [List.append_assoc, List.cons_append, List.nil_append, o5, s3, List.set_cons_succ, List.set_cons_zero, List.length_append, List.length_cons, List.length_nil, Nat.reduceAdd, Nat.zero_add]
  refine c8.lA (γ := h.length + 5) (β := h.length + 4) (k := 1) (len := L.length) t33 (by rw [uH, hCS, Nat.mul_one]) (by omega) (IX _) t33 (by omega) rfl ?_
  simp only [List.append_assoc, List.cons_append, List.nil_append, o5, s3, List.set_cons_succ, List.set_cons_zero, List.length_append, List.length_cons, List.length_nil, Nat.reduceAdd, Nat.zero_add]
  change c8 ..
  refine .c7 [2, 4] ?_
  refine .z ?_
  exact .ret (.ex (hq := by exact ⟨⟨L, CS, R⟩, wc_of hu hL hR hCS hP, by simp only [MQ, hCS]⟩))
end
end Go.Proofs.Ytbmaijdkebjnhaa
end
section
namespace Go.Un
open Go.Ab
def shV (k : Nat) (n : Int) (d : Nat) : Int := if 0 ≤ (d : Int) + n ∧ (d : Int) + n ≤ k then 2 ^ ((d : Int) + n).toNat else 0
def shI (k : Nat) (n : Int) : List Int := (List.range (k + 1)).map (shV k n)
theorem D3 {k : Nat} {n : Int} : (shI k n).length = k + 1 := by simp [shI]
def chI (it : u6) (x : Ins) (m : Int) : Int := if x.op = 4 ∧ mE it x.pl = m then 1 else if x.op = 5 ∧ mE it x.pl = m then -1 else 0
theorem chI_1 {it : u6} {x : Ins} {m : Int} (h : x.op = 4) (h2 : mE it x.pl = m) : chI it x m = 1 := by rw [chI, if_pos ⟨h, h2⟩]
theorem chI_2 {it : u6} {x : Ins} {m : Int} (h : x.op = 5) (h2 : mE it x.pl = m) : chI it x m = -1 := by rw [chI, if_neg (by omega), if_pos ⟨h, h2⟩]
theorem chI_0 {it : u6} {x : Ins} {m : Int} (h : ¬ (x.op = 4 ∧ mE it x.pl = m)) (h2 : ¬ (x.op = 5 ∧ mE it x.pl = m)) : chI it x m = 0 := by rw [chI, if_neg h, if_neg h2]
theorem CH {it : u6} {x : Ins} {m : Int} : chI it x m = 1 ∨ chI it x m = -1 ∨ chI it x m = 0 := by
 unfold chI
 split
 ·exact .inl rfl
 ·split
  ·exact .inr (.inl rfl)
  ·exact .inr (.inr rfl)
def JA (m : Mx) : Nat := if m.size = 0 ∧ m.re = false then 1 else 8
theorem D4 {m : Mx} : JA m ≤ 8 := by unfold JA; split <;> omega
theorem D5 {u : Un} (hu : WU u) {it : u6} (w : WIt u it) {pc : Nat} (hpc : pc < (c9 u it).length) (ho : ((c9 u it).getD pc g9).op = 4 ∨ ((c9 u it).getD pc g9).op = 5) : ((c9 u it).getD pc g9).pl.param = true → 0 ≤ ((c9 u it).getD pc g9).pl.index ∧ ((c9 u it).getD pc g9).pl.index.toNat < it.l4.length := by
 obtain ⟨_, _, h3, _⟩ := (lB hu w).2.2 pc hpc
 intro hp
 obtain ⟨h0, ⟨_, h2⟩ | ⟨h1, _⟩⟩ := h3 ho
 ·refine ⟨h0, ?_⟩
  rw [w.len]
  simp only at h2
  omega
 ·rw [hp] at h1; cases h1
def eV (x : Ins) (pc : Nat) : List Int := if x.op = 8 then [] else if x.op = 7 then [x.target] else if x.op = 6 then (if x.target = (pc : Int) + 1 then [x.target] else [min x.target ((pc : Int) + 1), max x.target ((pc : Int) + 1)]) else [(pc : Int) + 1]
def iZ (x : Ins) (pc : Nat) : AV := .vec (eV x pc).length (l6 (eV x pc))
theorem CI {x : Ins} {pc : Nat} (h : x.op = 8) : iZ x pc = .vec 0 [] := by simp [iZ, eV, h, l6]
theorem CJ {x : Ins} {pc : Nat} (h : x.op = 7) : iZ x pc = .vec 1 [.int .i64 x.target] := by simp [iZ, eV, h, l6]
theorem L0 {x : Ins} {pc : Nat} (h : x.op = 6) (h2 : x.target = (pc : Int) + 1) : iZ x pc = .vec 1 [.int .i64 x.target] := by simp [iZ, eV, h, h2, l6]
theorem CK {x : Ins} {pc : Nat} (h : x.op = 6) (h2 : ¬ x.target = (pc : Int) + 1) : iZ x pc = .vec 2 [.int .i64 (min x.target ((pc : Int) + 1)), .int .i64 (max x.target ((pc : Int) + 1))] := by simp [iZ, eV, h, h2, l6]
theorem CL {x : Ins} {pc : Nat} (h8 : ¬ x.op = 8) (h7 : ¬ x.op = 7) (h6 : ¬ x.op = 6) : iZ x pc = .vec 1 [.int .i64 ((pc : Int) + 1)] := by simp [iZ, eV, h8, h7, h6, l6]
theorem oG {x : Ins} {pc : Nat} : (eV x pc).length ≤ 2 := by
 unfold eV
 split
 ·simp
 ·split
  ·simp
  ·split
   ·split <;> simp
   ·simp
def lkI (x : Ins) : Prop := x.op = 4 ∨ x.op = 5
theorem KY {u : Un} (hu : WU u) {it : u6} (w : WIt u it) {pc : Nat} (hpc : pc < (c9 u it).length) (ho : lkI ((c9 u it).getD pc g9)) : 0 ≤ mE it ((c9 u it).getD pc g9).pl ∧ mE it ((c9 u it).getD pc g9).pl < u.c4.length :=
 Y9 w ((lB hu w).2.2 pc hpc |>.2.2.1 ho)
theorem CM {u : Un} (hu : WU u) {it : u6} (w : WIt u it) {pc : Nat} (hpc : pc < (c9 u it).length) : ∀ d, d < (eV ((c9 u it).getD pc g9) pc).length → 0 ≤ (eV ((c9 u it).getD pc g9) pc).getD d 0 ∧ (eV ((c9 u it).getD pc g9) pc).getD d 0 < (c9 u it).length := by
 obtain ⟨h1, h2, h3⟩ := lB hu w
 obtain ⟨_, h4, _⟩ := h3 pc hpc
 have h5 : ¬ ((c9 u it).getD pc g9).op = 8 → pc + 1 < (c9 u it).length := fun h8 => by
  by_cases e : pc = (c9 u it).length - 1
  ·rw [← e] at h2; exact absurd h2 h8
  ·omega
 intro d hd
 have key : ∀ x ∈ eV ((c9 u it).getD pc g9) pc, 0 ≤ x ∧ x < (c9 u it).length := by
  intro x hx
  unfold eV at hx
  split at hx
  ·simp at hx
  ·rename_i h8
   have h6 := h5 h8
   split at hx
   ·rename_i h7
    have := h4 (.inr h7)
    simp only [List.mem_singleton] at hx
    omega
   ·split at hx
    ·rename_i h7
     have := h4 (.inl h7)
     split at hx
     ·simp only [List.mem_singleton] at hx
      omega
     ·simp only [List.mem_cons, List.not_mem_nil, or_false] at hx
      omega
    ·simp only [List.mem_singleton] at hx
     omega
 exact key _ (l7 hd)
theorem next_up {x : Ins} {pc k : Nat} (h0 : 0 < k) (hk : k < (eV x pc).length) : (eV x pc).getD ((k : Int) - 1).toNat 0 < (eV x pc).getD k 0 := by
 have h1 := oG (x := x) (pc := pc)
 obtain rfl : k = 1 := by omega
 unfold eV at hk ⊢
 split at hk
 ·simp at hk
 ·split at hk
  ·simp at hk
  ·split at hk
   ·split at hk
    ·simp at hk
    ·rename_i h8 h7 h6 hne
     simp only [h8, h7, h6, hne, if_false, if_true]
     show min x.target ((pc : Int) + 1) < max x.target ((pc : Int) + 1)
     omega
   ·simp at hk
theorem CN {x : Ins} {pc : Nat} (h : ¬ x.op = 8) : 0 < (eV x pc).length := by
 unfold eV
 rw [if_neg h]
 split
 ·simp
 ·split
  ·split <;> simp
  ·simp
end Go.Un
end
section
namespace Go.Proofs.Ytbmaijdkebjnhaa
open Go.Ab Go.Un
theorem L2 {l : List Ins} {i : Nat} (h : i < l.length) : List.take 12 (List.drop (i * 12) (o6 l)) = [.int .i64 (l.getD i g9).op, .int .i64 (l.getD i g9).target, .bool (l.getD i g9).global, .int .i64 (l.getD i g9).e.op, .int .i64 (l.getD i g9).e.num, .str (l.getD i g9).e.name, .vec (l.getD i g9).e.args.length (m7 (l.getD i g9).e.args), .bool (l.getD i g9).pl.param, .int .i64 (l.getD i g9).pl.index, .vec (l.getD i g9).pl.at'.length (m7 (l.getD i g9).pl.at'), .vec (l.getD i g9).ints.length (m7 (l.getD i g9).ints), .vec (l.getD i g9).y0.length (dD (l.getD i g9).y0)] := by rw [read_in h, iO]
theorem JB {l : List Mx} {i : Nat} (h : i < l.length) : List.take 3 (List.drop (i * 3) (j6 l)) = [.str (l.getD i bL).name, .bool (l.getD i bL).re, .int .i64 (l.getD i bL).size] := vL h
theorem flat_I (n : Nat) : (List.replicate n [AV.int .i64 0]).flatten = l6 (List.replicate n 0) := by
  induction n with
  | zero => rfl
  | succ n ih => simp only [List.replicate_succ, List.flatten_cons, ih]; rfl
theorem shl1N {e : Int} (h0 : 0 ≤ e) (h1 : e ≤ 9) : IntKind.wrap .i64 (1 * 2 ^ (min e.toNat 64)) = 2 ^ e.toNat := by
  obtain ⟨m, rfl⟩ := Int.eq_ofNat_of_zero_le h0
  have : m = 0 ∨ m = 1 ∨ m = 2 ∨ m = 3 ∨ m = 4 ∨ m = 5 ∨ m = 6 ∨ m = 7 ∨ m = 8 ∨ m = 9 := by omega
  rcases this with rfl | rfl | rfl | rfl | rfl | rfl | rfl | rfl | rfl | rfl <;> decide
theorem shl1M {m : Nat} (h1 : m ≤ 9) : IntKind.wrap .i64 (1 * 2 ^ (min m 64)) = 2 ^ m := by
  have := shl1N (e := (m : Int)) (by omega) (by omega)
  simpa using this
def uI (v : Nat → Int) (i : Nat) (zs : List Int) : Prop := (∀ d, d < i → zs.getD d 0 = v d) ∧ (∀ d, i ≤ d → zs.getD d 0 = 0)
theorem uI.zero (v : Nat → Int) (n : Nat) : uI v 0 (List.replicate n 0) := by
  refine ⟨fun d hd => by omega, fun d _ => ?_⟩
  rw [List.getD_eq_getElem?_getD, List.getElem?_replicate]
  split <;> rfl
theorem uI.set {v : Nat → Int} {zs : List Int} {i : Nat} {x : Int} (hi : i < zs.length) (h : uI v i zs) (hx : x = v i) : uI v (i + 1) (zs.set i x) := by
  refine ⟨fun d hd => ?_, fun d hd => ?_⟩
  · by_cases e : d = i
    · subst e; simp [List.getD, hi, hx]
    · have := h.1 d (by omega)
      simp only [List.getD_eq_getElem?_getD, List.getElem?_set_ne (Ne.symm e)] at this ⊢
      exact this
  · have := h.2 d (by omega)
    simp only [List.getD_eq_getElem?_getD, List.getElem?_set_ne (show i ≠ d from by omega)] at this ⊢
    exact this
theorem uI.skip {v : Nat → Int} {zs : List Int} {i : Nat} (h : uI v i zs) (hv : v i = 0) : uI v (i + 1) zs := by
  refine ⟨fun d hd => ?_, fun d hd => h.2 d (by omega)⟩
  by_cases e : d = i
  · subst e; rw [h.2 d (Nat.le_refl _), hv]
  · exact h.1 d (by omega)
theorem uI.all {v : Nat → Int} {zs : List Int} {i n : Nat} (h : uI v i zs) (hl : zs.length = n) (hi : n ≤ i) : zs = (List.range n).map v := by
  refine List.ext_getElem (by simp [hl]) fun d k1 k2 => ?_
  have := h.1 d (by omega)
  simp
  simpa [List.getD, k1] using this
theorem JC {h l : c6} {b0 : Blk} {g : Nat} {a : Int} : fO h.length (h ++ (b0 :: ⟨g, false, 3, 1, [.int .i64 a], 0⟩ :: l)) 6 (.own (h.length + 1) g 0 1) = some (.vec 1 [.int .i64 a]) := C9 (a := [a]) t33 (by omega) rfl
theorem frz_2 {h l : c6} {b0 : Blk} {g : Nat} {a b : Int} : fO h.length (h ++ (b0 :: ⟨g, false, 3, 1, [.int .i64 a, .int .i64 b], 0⟩ :: l)) 6 (.own (h.length + 1) g 0 2) = some (.vec 2 [.int .i64 a, .int .i64 b]) := C9 (a := [a, b]) t33 (by omega) rfl
theorem vec2 {a b c d : Int} (h1 : a = c) (h2 : b = d) : AV.vec 2 [.int .i64 a, .int .i64 b] = AV.vec 2 [.int .i64 c, .int .i64 d] := by rw [h1, h2]
theorem L3 {h l : c6} {b0 b1 b2 : Blk} {g : Nat} {a : Int} : fO h.length (h ++ (b0 :: b1 :: b2 :: ⟨g, false, 3, 1, [.int .i64 a], 0⟩ :: l)) 6 (.own (h.length + 3) g 0 1) = some (.vec 1 [.int .i64 a]) := C9 (a := [a]) t33 (by omega) rfl
theorem jI {C : Cfg} {ρ : Operand → AV} {c : Call} {r : Operand} {name : String} {t : TypeId} {v : AV} {f : FuncId} (hc : c.callee = .invoke r name) (hr : ρ r = .iface t v) (hm : C.S0 t name = some f) : u3 C ρ c = some (f, v :: c.args.toList.map ρ) := by simp only [u3, hc, hr, hm]
theorem R4 : cfg.S0 138 "lockorder/flow.next" = some 135 := by kernel_rfl
theorem CO : cfg.S0 140 "lockorder/flow.next" = some 136 := by kernel_rfl
theorem sV : cfg.S0 141 "lockorder/flow.next" = some 137 := by kernel_rfl
theorem zD : cfg.S0 142 "lockorder/flow.next" = some 138 := by kernel_rfl
attribute [local go_sem] rd cR fE cC s9 n5 Int.natCast_nonneg Int.natCast_inj oD lJ oE L2 JB zC CF flat_I shl1N shl1M List.length_set List.length_replicate Int.toNat_natCast_add_one maxLenI wrap64 wU max2
theorem c_cap {h : c6} (m : Mx) : CallA Try.prog cfg 29 [.agg [.str m.name, .bool m.re, .int .i64 m.size]] h (fun y' h' => y' = .int .i64 ((JA m : Nat) : Int) ∧ h' = h) := by
  refine .b fn29 ntm29 ?_
  refine c33z ?_
  refine c24z ?_
  refine .spl 6 rfl rfl (fun e1 => ?_) (fun e1 => ?_)
  ·try simp only [e1]
   have qe1 := fact e1
   refine .m [(3, 6)] ?_
   refine .spl 10 rfl rfl (fun e2 => ?_) (fun e2 => ?_)
   ·try simp only [e2]
    have qe2 := fact e2
    refine c67z ?_
    exact .ret (.ex (hq := t102))
   try simp only [e2]
   have qe2 := fact e2
   refine c4z ?_
   refine c23z ?_
   exact .ret (.ex (hq := t102))
  try simp only [e1]
  have qe1 := fact e1
  refine .m [(3, 6)] ?_
  refine c4z ?_
  refine c23z ?_
  exact .ret (.ex (hq := t102))
theorem c_capR {h : c6} (m : Mx) : CallA Try.prog cfg 34 [.agg [.str m.name, .bool m.re, .int .i64 m.size]] h (fun y' h' => y' = .int .i64 ((JA m : Nat) : Int) ∧ h' = h) := by
  refine .b fn34 ntm34 ?_
  refine c33z ?_
  refine c24z ?_
  refine .spl 6 rfl rfl (fun e1 => ?_) (fun e1 => ?_)
  ·try simp only [e1]
   have qe1 := fact e1
   refine .m [(3, 6)] ?_
   refine .spl 10 rfl rfl (fun e2 => ?_) (fun e2 => ?_)
   ·try simp only [e2]
    have qe2 := fact e2
    refine c67z ?_
    exact .ret (.ex (hq := t102))
   try simp only [e2]
   have qe2 := fact e2
   refine c4z ?_
   refine c23z ?_
   exact .ret (.ex (hq := t102))
  try simp only [e1]
  have qe1 := fact e1
  refine .m [(3, 6)] ?_
  refine c4z ?_
  refine c23z ?_
  exact .ret (.ex (hq := t102))
theorem sW {h : c6} (k : Nat) (n : Int) (hk : k ≤ 8) (h1 : -1 ≤ n) (h2 : n ≤ 1) : CallA Try.prog cfg 49 [.int .i64 ((k : Nat) : Int), .int .i64 n] h (fun y' h' => y' = .vec (shI k n).length (l6 (shI k n)) ∧ h' = h) := by
  refine .b fn49 ntm49 ?_
  refine c78z ?_
  refine .iB (fun m st => ∃ (i : Nat) (zs : List Int), (m = (k + 1) - i ∧ (uI (shV k n) i zs ∧ zs.length = (k + 1) ∧ i ≤ (k + 1))) ∧ st = ⟨mkS 35 [(0, AV.int .i64 ((k : Nat) : Int)), (1, AV.int .i64 n), (5, AV.own h.length 0 0 (k + 1)), (11, AV.int .i64 ((k + 1 : Nat) : Int)), (12, AV.int .i64 ((i : Nat) : Int))], h ++ [⟨0, false, 3, 1, l6 zs, 0⟩]⟩) _ (.v ⟨0, (List.replicate (k + 1) 0), ⟨rfl, ⟨uI.zero _ _, by simp, by omega⟩⟩, rfl⟩) ?_
  rintro m sl h' ⟨i, zs, ⟨hm, ⟨hI, hz, hi⟩⟩, hst⟩
  obtain ⟨rfl, rfl⟩ := St.mk.inj hst
  refine c33z ?_
  refine .spl 13 rfl rfl (fun e1 => ?_) (fun e1 => ?_)
  ·try simp only [e1]
   have qe1 := fact e1
   refine c11z ?_
   refine .z ?_
   refine c31z ?_
   refine .spl 19 rfl rfl (fun e2 => ?_) (fun e2 => ?_)
   ·try simp only [e2]
    have qe2 := fact e2
    refine .m [(4, 19)] ?_
    refine .spl 25 rfl rfl (fun e3 => ?_) (fun e3 => ?_)
    ·try simp only [e3]
     have qe3 := fact e3
     refine .T ?_
     refine .c7 [0, 1, 5, 6, 11, 12] ?_
     refine c1z ?_
     refine .c7 [0, 1, 5, 11, 12] ?_
     refine .rz ?_
     exact ⟨_, by omega, .v ⟨(i + 1), (zs.set i _), ⟨rfl, ⟨uI.set (by omega) hI (by rw [shV, if_pos (by omega)]), by simp only [List.length_set]; exact hz, by omega⟩⟩, rfl⟩⟩
    try simp only [e3]
    have qe3 := fact e3
    refine c13z ?_
    refine .c7 [0, 1, 5, 11, 12] ?_
    refine .rz ?_
    exact ⟨_, by omega, .v ⟨(i + 1), zs, ⟨rfl, ⟨uI.skip hI (by rw [shV, if_neg (by omega)]), hz, by omega⟩⟩, rfl⟩⟩
   try simp only [e2]
   have qe2 := fact e2
   refine .m [(4, 19)] ?_
   refine c13z ?_
   refine .c7 [0, 1, 5, 11, 12] ?_
   refine .rz ?_
   exact ⟨_, by omega, .v ⟨(i + 1), zs, ⟨rfl, ⟨uI.skip hI (by rw [shV, if_neg (by omega)]), hz, by omega⟩⟩, rfl⟩⟩
  try simp only [e1]
  have qe1 := fact e1
  refine c18z ?_
  refine c62z ?_
  exact ⟨_, _, rfl, C9 (by rw [dK]; rfl) (Nat.le_refl _) hz, by (rw [hI.all hz (by omega), D3]; rfl)⟩
theorem c_shift {h : c6} (k : Nat) (n : Int) (hk : k ≤ 8) (h1 : -1 ≤ n) (h2 : n ≤ 1) : CallA Try.prog cfg 33 [.int .i64 ((k : Nat) : Int), .int .i64 n] h (fun y' h' => y' = .vec (shI k n).length (l6 (shI k n)) ∧ h' = h) := by
  refine .b fn33 ntm33 ?_
  refine c78z ?_
  refine .iB (fun m st => ∃ (i : Nat) (zs : List Int), (m = (k + 1) - i ∧ (uI (shV k n) i zs ∧ zs.length = (k + 1) ∧ i ≤ (k + 1))) ∧ st = ⟨mkS 32 [(0, AV.int .i64 ((k : Nat) : Int)), (1, AV.int .i64 n), (5, AV.own h.length 0 0 (k + 1)), (6, AV.int .i64 ((i : Nat) : Int))], h ++ [⟨0, false, 3, 1, l6 zs, 0⟩]⟩) _ (.v ⟨0, (List.replicate (k + 1) 0), ⟨rfl, ⟨uI.zero _ _, by simp, by omega⟩⟩, rfl⟩) ?_
  rintro m sl h' ⟨i, zs, ⟨hm, ⟨hI, hz, hi⟩⟩, hst⟩
  obtain ⟨rfl, rfl⟩ := St.mk.inj hst
  refine c0z ?_
  refine .spl 13 rfl rfl (fun e1 => ?_) (fun e1 => ?_)
  ·try simp only [e1]
   have qe1 := fact e1
   refine c11z ?_
   refine c138z ?_
   refine .spl 21 rfl rfl (fun e2 => ?_) (fun e2 => ?_)
   ·try simp only [e2]
    have qe2 := fact e2
    refine .m [(2, 21)] ?_
    refine .spl 25 rfl rfl (fun e3 => ?_) (fun e3 => ?_)
    ·try simp only [e3]
     have qe3 := fact e3
     refine .T ?_
     refine .c7 [0, 1, 5, 6, 7] ?_
     refine c32z ?_
     exact ⟨_, by omega, .v ⟨(i + 1), (zs.set i _), ⟨rfl, ⟨uI.set (by omega) hI (by rw [shV, if_pos (by omega)]), by simp only [List.length_set]; exact hz, by omega⟩⟩, rfl⟩⟩
    try simp only [e3]
    have qe3 := fact e3
    refine c13z ?_
    refine .c7 [0, 1, 5, 6] ?_
    refine .rz ?_
    exact ⟨_, by omega, .v ⟨(i + 1), zs, ⟨rfl, ⟨uI.skip hI (by rw [shV, if_neg (by omega)]), hz, by omega⟩⟩, rfl⟩⟩
   try simp only [e2]
   have qe2 := fact e2
   refine .m [(2, 21)] ?_
   refine c13z ?_
   refine .c7 [0, 1, 5, 6] ?_
   refine .rz ?_
   exact ⟨_, by omega, .v ⟨(i + 1), zs, ⟨rfl, ⟨uI.skip hI (by rw [shV, if_neg (by omega)]), hz, by omega⟩⟩, rfl⟩⟩
  try simp only [e1]
  have qe1 := fact e1
  refine c18z ?_
  refine c62z ?_
  exact ⟨_, _, rfl, C9 (by rw [dK]; rfl) (Nat.le_refl _) hz, by (rw [hI.all hz (by omega), D3]; rfl)⟩
theorem c_up {h : c6} (k : Nat) (hk : k ≤ 8) : CallA Try.prog cfg 30 [.int .i64 ((k : Nat) : Int)] h (fun y' h' => y' = .vec (shI k 1).length (l6 (shI k 1)) ∧ h' = h) := by
  refine .b fn30 ntm30 ?_
  refine c96z ?_
  refine .ca rfl rfl (sW k 1 hk (by omega) (by omega)) ?_
  refine c139z ?_
  exact ⟨[], _, (List.append_nil _).symm, by first | rfl | rfl, by rfl⟩
theorem c_down {h : c6} (k : Nat) (hk : k ≤ 8) : CallA Try.prog cfg 31 [.int .i64 ((k : Nat) : Int)] h (fun y' h' => y' = .vec (shI k (-1)).length (l6 (shI k (-1))) ∧ h' = h) := by
  refine .b fn31 ntm31 ?_
  refine c96z ?_
  refine .ca rfl rfl (sW k (-1) hk (by omega) (by omega)) ?_
  refine c139z ?_
  exact ⟨[], _, (List.append_nil _).symm, by first | rfl | rfl, by rfl⟩
theorem c_id {h : c6} (k : Nat) (hk : k ≤ 8) : CallA Try.prog cfg 32 [.int .i64 ((k : Nat) : Int)] h (fun y' h' => y' = .vec (shI k 0).length (l6 (shI k 0)) ∧ h' = h) := by
  refine .b fn32 ntm32 ?_
  refine c96z ?_
  refine .ca rfl rfl (sW k 0 hk (by omega) (by omega)) ?_
  refine c139z ?_
  exact ⟨[], _, (List.append_nil _).symm, by first | rfl | rfl, by rfl⟩
theorem pF {h : c6} {u : Un} (hu : WU u) {it : u6} (w : WIt u it) {pc : Nat} (hpc : pc < (c9 u it).length) : CallA Try.prog cfg 27 [.agg [.vec u.globals.length (l6 u.globals), .vec u.c4.length (j6 u.c4), .vec u.procs.length (s5 u.procs), .int .i64 u.main], .agg [.int .i64 it.proc, .vec it.l4.length (l6 it.l4)], .int .i64 ((pc : Nat) : Int)] h (fun y' h' => y' = .agg [.int .i64 ((c9 u it).getD pc g9).op, .int .i64 ((c9 u it).getD pc g9).target, .bool ((c9 u it).getD pc g9).global, .int .i64 ((c9 u it).getD pc g9).e.op, .int .i64 ((c9 u it).getD pc g9).e.num, .str ((c9 u it).getD pc g9).e.name, .vec ((c9 u it).getD pc g9).e.args.length (m7 ((c9 u it).getD pc g9).e.args), .bool ((c9 u it).getD pc g9).pl.param, .int .i64 ((c9 u it).getD pc g9).pl.index, .vec ((c9 u it).getD pc g9).pl.at'.length (m7 ((c9 u it).getD pc g9).pl.at'), .vec ((c9 u it).getD pc g9).ints.length (m7 ((c9 u it).getD pc g9).ints), .vec ((c9 u it).getD pc g9).y0.length (dD ((c9 u it).getD pc g9).y0)] ∧ h' = h) := by
  refine .b fn27 ntm27 ?_
  have w1 := w.lo
  have w2 := w.hi
  have hsz : (c9 u it).length ≤ 1664 := bP hu w
  refine c52z ?_
  refine c77z ?_
  exact .ret (.ex (hq := by rfl))
theorem L4 {h : c6} (it : u6) (p : Pl) (hp : p.param = true → 0 ≤ p.index ∧ p.index.toNat < it.l4.length) : CallA Try.prog cfg 20 [.agg [.int .i64 it.proc, .vec it.l4.length (l6 it.l4)], .agg [.bool p.param, .int .i64 p.index, .vec p.at'.length (m7 p.at')]] h (fun y' h' => y' = .int .i64 (mE it p) ∧ h' = h) := by
  refine .b fn20 ntm20 ?_
  refine c33z ?_
  refine c20z ?_
  refine .spl 7 rfl rfl (fun e1 => ?_) (fun e1 => ?_)
  ·try simp only [e1]
   have qe1 := fact e1
   refine .k 5 [(2, 7)] ?_
   refine .spl 12 rfl rfl (fun e2 => ?_) (fun e2 => ?_)
   ·try simp only [e2]
    have qe2 := fact e2
    refine .m [(7, 12)] ?_
    refine .spl 19 rfl rfl (fun e3 => ?_) (fun e3 => ?_)
    ·try simp only [e3]
     have qe3 := fact e3
     refine .T ?_
     refine .c7 [2, 3] ?_
     refine .z ?_
     exact .ret (.ex (hq := t67))
    try simp only [e3]
    have qe3 := fact e3
    refine c4z ?_
    refine c135z ?_
    exact .ret (.ex (hq := t67))
   try simp only [e2]
   have qe2 := fact e2
   refine .m [(7, 12)] ?_
   refine c4z ?_
   refine c135z ?_
   exact .ret (.ex (hq := t67))
  try simp only [e1]
  have qe1 := fact e1
  refine .k 8 [(2, 7), (7, 12)] ?_
  refine .m [(7, 12)] ?_
  refine c4z ?_
  refine c135z ?_
  exact .ret (.ex (hq := t67))
theorem oH {h : c6} {u : Un} (hu : WU u) {it : u6} (w : WIt u it) {pc : Nat} (hpc : pc < (c9 u it).length) (m : Int) : CallA Try.prog cfg 12 [.agg [.vec u.globals.length (l6 u.globals), .vec u.c4.length (j6 u.c4), .vec u.procs.length (s5 u.procs), .int .i64 u.main], .agg [.int .i64 it.proc, .vec it.l4.length (l6 it.l4)], .int .i64 ((pc : Nat) : Int), .int .i64 m] h (fun y' h' => y' = .int .i64 (chI it ((c9 u it).getD pc g9) m) ∧ h' = h) := by
  refine .b fn12 ntm12 ?_
  have w1 := w.lo
  have w2 := w.hi
  have hsz : (c9 u it).length ≤ 1664 := bP hu w
  refine c138z ?_
  refine .ca rfl rfl (pF hu w hpc) ?_
  refine .n ?_
  refine .seq ?_
  refine .c7 [3, 5, 9] ?_
  refine c24z ?_
  refine .spl 17 rfl rfl (fun e1 => ?_) (fun e1 => ?_)
  ·try simp only [e1]
   have qe1 := fact e1
   refine .k 5 [(3, 17)] ?_
   refine .spl 22 rfl rfl (fun e2 => ?_) (fun e2 => ?_)
   ·try simp only [e2]
    have qe2 := fact e2
    refine .m [(8, 22)] ?_
    refine c67z ?_
    exact .ret (.ex (hq := t11))
   try simp only [e2]
   have qe2 := fact e2
   refine .k 3 [(8, 22)] ?_
   refine .ca rfl rfl (L4 it ((c9 u it).getD pc g9).pl (D5 hu w hpc (by omega))) ?_
   refine .m [(8, 22)] ?_
   refine .spl 29 rfl rfl (fun e3 => ?_) (fun e3 => ?_)
   ·try simp only [e3]
    have qe3 := fact e3
    refine c67z ?_
    exact .ret (.ex (hq := t11))
   try simp only [e3]
   have qe3 := fact e3
   refine c55z ?_
   refine .c7 [9] ?_
   refine .z ?_
   refine .spl 32 rfl rfl (fun e4 => ?_) (fun e4 => ?_)
   ·try simp only [e4]
    have qe4 := fact e4
    refine c108z ?_
    exact .ret (.ex (hq := t11))
   try simp only [e4]
   have qe4 := fact e4
   refine c83z ?_
   exact .ret (.ex (hq := t11))
  try simp only [e1]
  have qe1 := fact e1
  refine .k 8 [(3, 17), (8, 22)] ?_
  refine .ca rfl rfl (L4 it ((c9 u it).getD pc g9).pl (D5 hu w hpc (by omega))) ?_
  refine .m [(8, 22)] ?_
  refine .spl 29 rfl rfl (fun e5 => ?_) (fun e5 => ?_)
  ·try simp only [e5]
   have qe5 := fact e5
   refine c67z ?_
   exact .ret (.ex (hq := t11))
  try simp only [e5]
  have qe5 := fact e5
  refine c55z ?_
  refine .c7 [9] ?_
  refine .z ?_
  refine .spl 32 rfl rfl (fun e6 => ?_) (fun e6 => ?_)
  ·try simp only [e6]
   have qe6 := fact e6
   refine c108z ?_
   exact .ret (.ex (hq := t11))
  try simp only [e6]
  have qe6 := fact e6
  refine c83z ?_
  exact .ret (.ex (hq := t11))
theorem zE {h : c6} {u : Un} (hu : WU u) {it : u6} (w : WIt u it) {pc : Nat} (hpc : pc < (c9 u it).length) (m : Int) : CallA Try.prog cfg 13 [.agg [.vec u.globals.length (l6 u.globals), .vec u.c4.length (j6 u.c4), .vec u.procs.length (s5 u.procs), .int .i64 u.main], .agg [.int .i64 it.proc, .vec it.l4.length (l6 it.l4)], .int .i64 ((pc : Nat) : Int), .int .i64 m] h (fun y' h' => y' = .int .i64 (chI it ((c9 u it).getD pc g9) m) ∧ h' = h) := by
  refine .b fn13 ntm13 ?_
  have w1 := w.lo
  have w2 := w.hi
  have hsz : (c9 u it).length ≤ 1664 := bP hu w
  refine c52z ?_
  refine c77z ?_
  refine .sb ?_
  refine .c7 [3, 5, 9] ?_
  refine c24z ?_
  refine .spl 24 rfl rfl (fun e1 => ?_) (fun e1 => ?_)
  ·try simp only [e1]
   have qe1 := fact e1
   refine .k 3 [(3, 24)] ?_
   refine .ca rfl rfl (CA it ((c9 u it).getD pc g9).pl (D5 hu w hpc (by omega))) ?_
   refine .m [(3, 24)] ?_
   refine .spl 20 rfl rfl (fun e2 => ?_) (fun e2 => ?_)
   ·try simp only [e2]
    have qe2 := fact e2
    refine c67z ?_
    exact .ret (.ex (hq := t11))
   try simp only [e2]
   have qe2 := fact e2
   refine .F ?_
   refine .c7 [3, 5, 9] ?_
   refine c24z ?_
   refine .spl 36 rfl rfl (fun e3 => ?_) (fun e3 => ?_)
   ·try simp only [e3]
    have qe3 := fact e3
    refine .k 3 [(3, 36)] ?_
    refine .ca rfl rfl (CA it ((c9 u it).getD pc g9).pl (D5 hu w hpc (by omega))) ?_
    refine .m [(3, 36)] ?_
    refine .spl 32 rfl rfl (fun e4 => ?_) (fun e4 => ?_)
    ·try simp only [e4]
     have qe4 := fact e4
     refine c67z ?_
     exact .ret (.ex (hq := t11))
    try simp only [e4]
    have qe4 := fact e4
    refine c13z ?_
    refine c23z ?_
    exact .ret (.ex (hq := t11))
   try simp only [e3]
   have qe3 := fact e3
   refine .m [(3, 36)] ?_
   refine c13z ?_
   refine c23z ?_
   exact .ret (.ex (hq := t11))
  try simp only [e1]
  have qe1 := fact e1
  refine .m [(3, 24)] ?_
  refine .F ?_
  refine .c7 [3, 5, 9] ?_
  refine c24z ?_
  refine .spl 36 rfl rfl (fun e5 => ?_) (fun e5 => ?_)
  ·try simp only [e5]
   have qe5 := fact e5
   refine .k 3 [(3, 36)] ?_
   refine .ca rfl rfl (CA it ((c9 u it).getD pc g9).pl (D5 hu w hpc (by omega))) ?_
   refine .m [(3, 36)] ?_
   refine .spl 32 rfl rfl (fun e6 => ?_) (fun e6 => ?_)
   ·try simp only [e6]
    have qe6 := fact e6
    refine c67z ?_
    exact .ret (.ex (hq := t11))
   try simp only [e6]
   have qe6 := fact e6
   refine c13z ?_
   refine c23z ?_
   exact .ret (.ex (hq := t11))
  try simp only [e5]
  have qe5 := fact e5
  refine .m [(3, 36)] ?_
  refine c13z ?_
  refine c23z ?_
  exact .ret (.ex (hq := t11))
theorem c_rel {h : c6} {u : Un} (hu : WU u) {it : u6} (w : WIt u it) {pc : Nat} (hpc : pc < (c9 u it).length) {m : Nat} (hm : m < u.c4.length) : CallA Try.prog cfg 15 [.agg [.vec u.globals.length (l6 u.globals), .vec u.c4.length (j6 u.c4), .vec u.procs.length (s5 u.procs), .int .i64 u.main], .agg [.int .i64 it.proc, .vec it.l4.length (l6 it.l4)], .int .i64 ((pc : Nat) : Int), .int .i64 ((m : Nat) : Int)] h (fun y' h' => y' = .vec (shI (JA (u.c4.getD m bL)) (chI it ((c9 u it).getD pc g9) ((m : Nat) : Int))).length (l6 (shI (JA (u.c4.getD m bL)) (chI it ((c9 u it).getD pc g9) ((m : Nat) : Int)))) ∧ h' = h) := by
  refine .b fn15 ntm15 ?_
  have w1 := w.lo
  have w2 := w.hi
  have hsz : (c9 u it).length ≤ 1664 := bP hu w
  have hcp := D4 (m := (u.c4.getD m bL))
  have hml := hu.ml
  have hch := CH (it := it) (x := ((c9 u it).getD pc g9)) (m := (m : Int))
  refine .z ?_
  refine c31z ?_
  refine .ca rfl rfl (c_cap (u.c4.getD m bL)) ?_
  refine .n ?_
  refine .seq ?_
  refine .c7 [2, 3, 4, 5, 9] ?_
  refine c24z ?_
  refine .ca rfl rfl (oH hu w hpc _) ?_
  refine .nil ?_
  refine .block ?_
  refine .c7 [9, 20] ?_
  refine .z ?_
  refine .spl 21 rfl rfl (fun e1 => ?_) (fun e1 => ?_)
  ·try simp only [e1]
   have qe1 := fact e1
   refine .T ?_
   refine c144z ?_
   refine .ca rfl rfl (c_up _ hcp) ?_
   refine .n ?_
   exact .ret (.ex (hq := t46))
  try simp only [e1]
  have qe1 := fact e1
  refine c14z ?_
  refine .spl 25 rfl rfl (fun e2 => ?_) (fun e2 => ?_)
  ·try simp only [e2]
   have qe2 := fact e2
   refine .T ?_
   refine c144z ?_
   refine .ca rfl rfl (c_down _ hcp) ?_
   refine .n ?_
   exact .ret (.ex (hq := t46))
  try simp only [e2]
  have qe2 := fact e2
  refine c13z ?_
  refine c144z ?_
  refine .ca rfl rfl (c_id _ hcp) ?_
  refine .n ?_
  exact .ret (.ex (hq := t46))
theorem c_relR {h : c6} {u : Un} (hu : WU u) {it : u6} (w : WIt u it) {pc : Nat} (hpc : pc < (c9 u it).length) {m : Nat} (hm : m < u.c4.length) : CallA Try.prog cfg 16 [.agg [.vec u.globals.length (l6 u.globals), .vec u.c4.length (j6 u.c4), .vec u.procs.length (s5 u.procs), .int .i64 u.main], .agg [.int .i64 it.proc, .vec it.l4.length (l6 it.l4)], .int .i64 ((pc : Nat) : Int), .int .i64 ((m : Nat) : Int)] h (fun y' h' => y' = .vec (shI (JA (u.c4.getD m bL)) (chI it ((c9 u it).getD pc g9) ((m : Nat) : Int))).length (l6 (shI (JA (u.c4.getD m bL)) (chI it ((c9 u it).getD pc g9) ((m : Nat) : Int)))) ∧ h' = h) := by
  refine .b fn16 ntm16 ?_
  have w1 := w.lo
  have w2 := w.hi
  have hsz : (c9 u it).length ≤ 1664 := bP hu w
  have hcp := D4 (m := (u.c4.getD m bL))
  have hml := hu.ml
  have hch := CH (it := it) (x := ((c9 u it).getD pc g9)) (m := (m : Int))
  refine .z ?_
  refine .ss z7 (mkP 13 [0, 1, 0, 7, 15, 31, 0, 0, 0, 0, 1023, 2047, 4095] []) ?_
  refine .k 5 [] ?_
  refine .ca rfl rfl (c_capR (u.c4.getD m bL)) ?_
  refine .k 4 [] ?_
  refine .ca rfl rfl (zE hu w hpc _) ?_
  refine .ca rfl rfl (c_shift _ _ hcp (by omega) (by omega)) ?_
  refine .n [] ?_
  exact .ret (.ex (hq := by rfl))
theorem c_ended {h : c6} (pc : Nat) : CallA Try.prog cfg 135 [.agg [], .int .i64 ((pc : Nat) : Int)] h (fun y' h' => y' = .vec 0 [] ∧ h' = h) := by
  refine .b fn135 ntm135 ?_
  refine .z ?_
  refine .z ?_
  exact .ret (.ex (hq := by rfl))
theorem c_jump {h : c6} (pc : Nat) (t : Int) : CallA Try.prog cfg 136 [.agg [.int .i64 t], .int .i64 ((pc : Nat) : Int)] h (fun y' h' => y' = .vec 1 [.int .i64 t] ∧ h' = h) := by
  refine .b fn136 ntm136 ?_
  refine .z ?_
  refine .z ?_
  exact .ret (.ex (hf := by first | rfl | exact JC) (hq := by rfl))
theorem CP {h : c6} (pc : Nat) (hp : pc < 100000) : CallA Try.prog cfg 138 [.agg [], .int .i64 ((pc : Nat) : Int)] h (fun y' h' => y' = .vec 1 [.int .i64 ((pc : Int) + 1)] ∧ h' = h) := by
  refine .b fn138 ntm138 ?_
  refine .z ?_
  refine .z ?_
  exact .ret (.ex (hf := by first | rfl | exact JC) (hq := by rfl))
theorem L5 {h : c6} (pc : Nat) (t : Int) (hp : pc < 100000) : CallA Try.prog cfg 137 [.agg [.int .i64 t], .int .i64 ((pc : Nat) : Int)] h (fun y' h' => y' = (if t = (pc : Int) + 1 then AV.vec 1 [AV.int .i64 t] else AV.vec 2 [AV.int .i64 (min t ((pc : Int) + 1)), AV.int .i64 (max t ((pc : Int) + 1))]) ∧ h' = h) := by
  refine .b fn137 ntm137 ?_
  refine c79z ?_
  refine .spl 9 rfl rfl (fun e1 => ?_) (fun e1 => ?_)
  ·try simp only [e1]
   have qe1 := fact e1
   refine .T ?_
   refine .c7 [2] ?_
   refine .z ?_
   exact .ret (.ex (hf := by first | rfl | first | exact JC | exact frz_2) (hq := t62))
  try simp only [e1]
  have qe1 := fact e1
  refine c4z ?_
  refine .s ?_
  refine c77z ?_
  exact .ret (.ex (hf := by first | rfl | first | exact JC | exact frz_2) (hq := t62))
def KZ (x : Ins) : AV := if x.op = 8 then .iface 138 (.agg []) else if x.op = 7 then .iface 140 (.agg [.int .i64 x.target]) else if x.op = 6 then .iface 141 (.agg [.int .i64 x.target]) else .iface 142 (.agg [])
theorem LA {x : Ins} (h : x.op = 8) : KZ x = .iface 138 (.agg []) := if_pos h
theorem LB {x : Ins} (h : x.op = 7) : KZ x = .iface 140 (.agg [.int .i64 x.target]) := by rw [KZ, if_neg (by omega), if_pos h]
theorem CQ {x : Ins} (h : x.op = 6) : KZ x = .iface 141 (.agg [.int .i64 x.target]) := by rw [KZ, if_neg (by omega), if_neg (by omega), if_pos h]
theorem LC {x : Ins} (h8 : ¬ x.op = 8) (h7 : ¬ x.op = 7) (h6 : ¬ x.op = 6) : KZ x = .iface 142 (.agg []) := by rw [KZ, if_neg h8, if_neg h7, if_neg h6]
theorem CR {h : c6} (x : Ins) : CallA Try.prog cfg 36 [.agg [.int .i64 x.op, .int .i64 x.target, .bool x.global, .int .i64 x.e.op, .int .i64 x.e.num, .str x.e.name, .vec x.e.args.length (m7 x.e.args), .bool x.pl.param, .int .i64 x.pl.index, .vec x.pl.at'.length (m7 x.pl.at'), .vec x.ints.length (m7 x.ints), .vec x.y0.length (dD x.y0)]] h (fun y' h' => y' = KZ x ∧ h' = h) := by
  refine .b fn36 ntm36 ?_
  refine c22z ?_
  refine .z ?_
  refine .spl 5 rfl rfl (fun e1 => ?_) (fun e1 => ?_)
  ·try simp only [e1]
   have qe1 := fact e1
   refine c108z ?_
   exact .ret (.ex (hq := t47))
  try simp only [e1]
  have qe1 := fact e1
  refine c14z ?_
  refine .spl 9 rfl rfl (fun e2 => ?_) (fun e2 => ?_)
  ·try simp only [e2]
   have qe2 := fact e2
   refine .T ?_
   refine .c7 [1] ?_
   refine .z ?_
   exact .ret (.ex (hq := t47))
  try simp only [e2]
  have qe2 := fact e2
  refine c14z ?_
  refine .spl 15 rfl rfl (fun e3 => ?_) (fun e3 => ?_)
  ·try simp only [e3]
   have qe3 := fact e3
   refine .T ?_
   refine .c7 [1] ?_
   refine .z ?_
   exact .ret (.ex (hq := t47))
  try simp only [e3]
  have qe3 := fact e3
  refine c13z ?_
  refine c23z ?_
  exact .ret (.ex (hq := t47))
theorem c_next8 {h : c6} {u : Un} (hu : WU u) {it : u6} (w : WIt u it) {pc : Nat} (hpc : pc < (c9 u it).length) (ho : ((c9 u it).getD pc g9).op = 8) : CallA Try.prog cfg 18 [.agg [.vec u.globals.length (l6 u.globals), .vec u.c4.length (j6 u.c4), .vec u.procs.length (s5 u.procs), .int .i64 u.main], .agg [.int .i64 it.proc, .vec it.l4.length (l6 it.l4)], .int .i64 ((pc : Nat) : Int)] h (fun y' h' => y' = iZ ((c9 u it).getD pc g9) pc ∧ h' = h) := by
  refine .b RY X2 ?_
  have w1 := w.lo
  have w2 := w.hi
  have hsz : (c9 u it).length ≤ 1664 := bP hu w
  refine c138z ?_
  refine .ca rfl rfl (pF hu w hpc) ?_
  refine .ca rfl rfl ((CR ((c9 u it).getD pc g9)).mono fun y k hq => ⟨hq.1.trans (LA ho), hq.2⟩) ?_
  refine .n ?_
  refine c171z ?_
  refine l5.cq rfl (jI rfl rfl R4) hb135 (c_ended pc) ?_
  refine .n ?_
  exact .ret (.ex (hq := by (exact (CI ho).symm)))
theorem c_next7 {h : c6} {u : Un} (hu : WU u) {it : u6} (w : WIt u it) {pc : Nat} (hpc : pc < (c9 u it).length) (ho : ((c9 u it).getD pc g9).op = 7) : CallA Try.prog cfg 18 [.agg [.vec u.globals.length (l6 u.globals), .vec u.c4.length (j6 u.c4), .vec u.procs.length (s5 u.procs), .int .i64 u.main], .agg [.int .i64 it.proc, .vec it.l4.length (l6 it.l4)], .int .i64 ((pc : Nat) : Int)] h (fun y' h' => y' = iZ ((c9 u it).getD pc g9) pc ∧ h' = h) := by
  refine .b RY X2 ?_
  have w1 := w.lo
  have w2 := w.hi
  have hsz : (c9 u it).length ≤ 1664 := bP hu w
  refine c138z ?_
  refine .ca rfl rfl (pF hu w hpc) ?_
  refine .ca rfl rfl ((CR ((c9 u it).getD pc g9)).mono fun y k hq => ⟨hq.1.trans (LB ho), hq.2⟩) ?_
  refine .n ?_
  refine c171z ?_
  refine l5.cq rfl (jI rfl rfl CO) hb136 (c_jump pc _) ?_
  refine .n ?_
  exact .ret (.ex (hq := by (exact (CJ ho).symm)))
theorem JD {h : c6} {u : Un} (hu : WU u) {it : u6} (w : WIt u it) {pc : Nat} (hpc : pc < (c9 u it).length) (ho : ((c9 u it).getD pc g9).op = 6) (ht : ((c9 u it).getD pc g9).target = (pc : Int) + 1) : CallA Try.prog cfg 18 [.agg [.vec u.globals.length (l6 u.globals), .vec u.c4.length (j6 u.c4), .vec u.procs.length (s5 u.procs), .int .i64 u.main], .agg [.int .i64 it.proc, .vec it.l4.length (l6 it.l4)], .int .i64 ((pc : Nat) : Int)] h (fun y' h' => y' = iZ ((c9 u it).getD pc g9) pc ∧ h' = h) := by
  refine .b RY X2 ?_
  have w1 := w.lo
  have w2 := w.hi
  have hsz : (c9 u it).length ≤ 1664 := bP hu w
  refine c138z ?_
  refine .ca rfl rfl (pF hu w hpc) ?_
  refine .ca rfl rfl ((CR ((c9 u it).getD pc g9)).mono fun y k hq => ⟨hq.1.trans (CQ ho), hq.2⟩) ?_
  refine .n ?_
  refine c171z ?_
  refine l5.cq rfl (jI rfl rfl sV) hb137 ((L5 pc _ (by omega)).mono fun y k hq => ⟨hq.1.trans (if_pos ht), hq.2⟩) ?_
  refine .n ?_
  exact .ret (.ex (hq := by (exact (L0 ho ht).symm)))
theorem c_next6 {h : c6} {u : Un} (hu : WU u) {it : u6} (w : WIt u it) {pc : Nat} (hpc : pc < (c9 u it).length) (ho : ((c9 u it).getD pc g9).op = 6) (ht : ¬ ((c9 u it).getD pc g9).target = (pc : Int) + 1) : CallA Try.prog cfg 18 [.agg [.vec u.globals.length (l6 u.globals), .vec u.c4.length (j6 u.c4), .vec u.procs.length (s5 u.procs), .int .i64 u.main], .agg [.int .i64 it.proc, .vec it.l4.length (l6 it.l4)], .int .i64 ((pc : Nat) : Int)] h (fun y' h' => y' = iZ ((c9 u it).getD pc g9) pc ∧ h' = h) := by
  refine .b RY X2 ?_
  have w1 := w.lo
  have w2 := w.hi
  have hsz : (c9 u it).length ≤ 1664 := bP hu w
  refine c138z ?_
  refine .ca rfl rfl (pF hu w hpc) ?_
  refine .ca rfl rfl ((CR ((c9 u it).getD pc g9)).mono fun y k hq => ⟨hq.1.trans (CQ ho), hq.2⟩) ?_
  refine .n ?_
  refine c171z ?_
  refine l5.cq rfl (jI rfl rfl sV) hb137 ((L5 pc _ (by omega)).mono fun y k hq => ⟨hq.1.trans (if_neg ht), hq.2⟩) ?_
  refine .n ?_
  exact .ret (.ex (hq := by (exact (CK ho ht).symm)))
theorem c_nextn {h : c6} {u : Un} (hu : WU u) {it : u6} (w : WIt u it) {pc : Nat} (hpc : pc < (c9 u it).length) (h8 : ¬ ((c9 u it).getD pc g9).op = 8) (h7 : ¬ ((c9 u it).getD pc g9).op = 7) (h6 : ¬ ((c9 u it).getD pc g9).op = 6) : CallA Try.prog cfg 18 [.agg [.vec u.globals.length (l6 u.globals), .vec u.c4.length (j6 u.c4), .vec u.procs.length (s5 u.procs), .int .i64 u.main], .agg [.int .i64 it.proc, .vec it.l4.length (l6 it.l4)], .int .i64 ((pc : Nat) : Int)] h (fun y' h' => y' = iZ ((c9 u it).getD pc g9) pc ∧ h' = h) := by
  refine .b RY X2 ?_
  have w1 := w.lo
  have w2 := w.hi
  have hsz : (c9 u it).length ≤ 1664 := bP hu w
  refine c138z ?_
  refine .ca rfl rfl (pF hu w hpc) ?_
  refine .ca rfl rfl ((CR ((c9 u it).getD pc g9)).mono fun y k hq => ⟨hq.1.trans (LC h8 h7 h6), hq.2⟩) ?_
  refine .n ?_
  refine c171z ?_
  refine l5.cq rfl (jI rfl rfl zD) hb138 (CP pc (by omega)) ?_
  refine .n ?_
  exact .ret (.ex (hq := by (exact (CL h8 h7 h6).symm)))
theorem wR {h : c6} {u : Un} (hu : WU u) {it : u6} (w : WIt u it) {pc : Nat} (hpc : pc < (c9 u it).length) : CallA Try.prog cfg 18 [.agg [.vec u.globals.length (l6 u.globals), .vec u.c4.length (j6 u.c4), .vec u.procs.length (s5 u.procs), .int .i64 u.main], .agg [.int .i64 it.proc, .vec it.l4.length (l6 it.l4)], .int .i64 ((pc : Nat) : Int)] h (fun y' h' => y' = iZ ((c9 u it).getD pc g9) pc ∧ h' = h) := by
  by_cases h8 : ((c9 u it).getD pc g9).op = 8
  · exact c_next8 hu w hpc h8
  by_cases h7 : ((c9 u it).getD pc g9).op = 7
  · exact c_next7 hu w hpc h7
  by_cases h6 : ((c9 u it).getD pc g9).op = 6
  · by_cases ht : ((c9 u it).getD pc g9).target = (pc : Int) + 1
    · exact JD hu w hpc h6 ht
    · exact c_next6 hu w hpc h6 ht
  exact c_nextn hu w hpc h8 h7 h6
theorem kW_1 {a t : Int} (h : a < t) : kW [a] t = 1 := by simp [kW, List.takeWhile, h]
theorem kW_0 {a t : Int} (h : ¬ a < t) : kW [a] t = 0 := by simp [kW, List.takeWhile, h]
theorem CT {x : Ins} {pc : Nat} (h : x.op = 6) : AV.vec (iE [(pc : Int) + 1] x.target).length (l6 (iE [(pc : Int) + 1] x.target)) = iZ x pc := by
  by_cases h2 : x.target = (pc : Int) + 1
  · rw [L0 h h2, iE, if_pos (by simp [h2])]; rw [h2]; rfl
  · rw [CK h h2, iE, if_neg t85]
    by_cases h3 : (pc : Int) + 1 < x.target
    · rw [kW_1 h3, show min x.target ((pc : Int) + 1) = (pc : Int) + 1 from by omega, show max x.target ((pc : Int) + 1) = x.target from by omega]; rfl
    · rw [kW_0 h3, show min x.target ((pc : Int) + 1) = x.target from by omega, show max x.target ((pc : Int) + 1) = (pc : Int) + 1 from by omega]; rfl
theorem c_with1 {h : c6} {b0 b1 b2 : Blk} {a t : Int} {g : Nat} : CallA Try.prog cfg 37 [.own (h.length + 3) g 0 1, .int .i64 t] (h ++ [b0, b1, b2, ⟨g, false, 3, 1, [.int .i64 a], 0⟩]) (fun y' h' => y' = .vec (iE [a] t).length (l6 (iE [a] t)) ∧ h' = h ++ [b0, b1, b2, ⟨g, false, 3, 1, [.int .i64 a], 1⟩]) := by
  refine CallA.V8 (β := h.length + 3) (off := 0) (len := 1) (b := ⟨g, false, 3, 1, [.int .i64 a], 0⟩) (cs := l6 [a]) (args' := [.vec 1 (l6 [a]), .int .i64 t]) t33 rfl (by simp) rfl ⟨.inr ⟨rfl, rfl⟩, .inl rfl, trivial⟩ ?_
  rw [s3]
  exact BZ (h := h ++ [b0, b1, b2, ⟨g, false, 3, 1, [.int .i64 a], 1⟩]) [a] t (by simp)
theorem c_nextR {h : c6} {u : Un} (hu : WU u) {it : u6} (w : WIt u it) {pc : Nat} (hpc : pc < (c9 u it).length) : CallA Try.prog cfg 19 [.agg [.vec u.globals.length (l6 u.globals), .vec u.c4.length (j6 u.c4), .vec u.procs.length (s5 u.procs), .int .i64 u.main], .agg [.int .i64 it.proc, .vec it.l4.length (l6 it.l4)], .int .i64 ((pc : Nat) : Int)] h (fun y' h' => y' = iZ ((c9 u it).getD pc g9) pc ∧ h' = h) := by
  refine .b fn19 ntm19 ?_
  have w1 := w.lo
  have w2 := w.hi
  have hsz : (c9 u it).length ≤ 1664 := bP hu w
  refine c52z ?_
  refine c77z ?_
  refine .seq ?_
  refine .c7 [2, 7] ?_
  refine c28z ?_
  refine .z ?_
  refine .spl 20 rfl rfl (fun e1 => ?_) (fun e1 => ?_)
  ·try simp only [e1]
   have qe1 := fact e1
   refine c108z ?_
   exact .ret (.ex (hf := by first | rfl | exact L3) (hq := t48))
  try simp only [e1]
  have qe1 := fact e1
  refine c14z ?_
  refine .spl 22 rfl rfl (fun e2 => ?_) (fun e2 => ?_)
  ·try simp only [e2]
   have qe2 := fact e2
   refine c108z ?_
   exact .ret (.ex (hf := by first | rfl | exact L3) (hq := t48))
  try simp only [e2]
  have qe2 := fact e2
  refine c14z ?_
  refine .spl 27 rfl rfl (fun e3 => ?_) (fun e3 => ?_)
  ·try simp only [e3]
   have qe3 := fact e3
   refine .T ?_
   refine .c7 [2, 7] ?_
   refine c31z ?_
   refine .ch rfl rfl (c_with1) ?_
   refine .n ?_
   exact .ret (.ex (hf := by first | rfl | exact L3) (hq := t48))
  try simp only [e3]
  have qe3 := fact e3
  refine c13z ?_
  refine .c7 [2] ?_
  refine .z ?_
  exact .ret (.ex (hf := by first | rfl | exact L3) (hq := t48))
end Go.Proofs.Ytbmaijdkebjnhaa
end
section
namespace Go.Proofs.Ytbmaijdkebjnhaa
open Go.Ab Go.Un
attribute [local go_sem] n5 v9 s9 aP j8 Int.natCast_nonneg Int.natCast_inj List.length_map r9 hB_1 hB_2 hB_5 NY NZ OA OB cE gZ aI B8
theorem LD {c : Core} {e : Frame} {left I : Int} {l : c6} (hc : OkC c) (hI : OkI c.L I) (hL : c.L.length < 4611686018427387904) (vars : List BA) (hN : vars.length < 1000) (f : Fu) (hp : f.params.length ≤ 2) : CallA Try.prog cfg 64 [.ptr 5 0 0, .agg (dZ f), .vec vars.length (aC vars)] (hB c e I left ++ l) (fun y' h' => y' = .agg (zI (r8 c f.params vars I).1) ∧ h' = hB c e (r8 c f.params vars I).2 left ++ l) := c_ref (e := ⟨e.b0, e.b1, e.b2, e.z, e.m, e.g, e.rest ++ l⟩) hc hI hL vars hN f hp
theorem L6 {c : Core} {e : Frame} {I left : Int} {fb rb : Blk} {g n : Nat} {zs : List AV} {x1 x2 x3 x4 x5 x6 x7 : AV} (hz : zs.length = n * 7) (hn : n < 1000) :
    j7 cfg 178 (hB c e I left ++ [fb, rb, p9 178 7 g zs, ⟨0, false, 178, 7, [x1, x2, x3, x4, x5, x6, x7], 0⟩]) (.own (e.n + 2) g 0 n) (.own (e.n + 3) 0 0 1) = some (.own (e.n + 2) (g + 1) 0 (n + 1), hB c e I left ++ [fb, rb, p9 178 7 (g + 1) (zs ++ [x1, x2, x3, x4, x5, x6, x7]), ⟨0, false, 178, 7, [x1, x2, x3, x4, x5, x6, x7], 0⟩]) := by
  have hb : (hB c e I left ++ [fb, rb, p9 178 7 g zs, ⟨0, false, 178, 7, [x1, x2, x3, x4, x5, x6, x7], 0⟩])[e.n + 2]? = some (p9 178 7 g zs) := cE
  rw [aR (C := cfg) (K := 7) (m := 1) (new := [x1, x2, x3, x4, x5, x6, x7]) hb rfl (by omega) hz rfl (by omega) t94 rfl (by decide) (by omega), aI]
  rfl
theorem CU {c : Core} {e : Frame} {I left : Int} {fb rb : Blk} {g n : Nat} {zs : List AV} {x1 x2 x3 : AV} {x : Ex} (hz : zs.length = n * 7) (hn : n < 1000) :
    j7 cfg 178 (hB c e I left ++ [fb, rb, p9 178 7 g zs, ⟨0, false, 178, 7, x1 :: x2 :: x3 :: q9 x, 0⟩]) (.own (e.n + 2) g 0 n) (.own (e.n + 3) 0 0 1) = some (.own (e.n + 2) (g + 1) 0 (n + 1), hB c e I left ++ [fb, rb, p9 178 7 (g + 1) (zs ++ x1 :: x2 :: x3 :: q9 x), ⟨0, false, 178, 7, x1 :: x2 :: x3 :: q9 x, 0⟩]) := by
  rw [bR]
  exact L6 hz hn
theorem args_t {c : Core} {ps : List Pm} {vars : List BA} {l : List Pm} {j : Nat} {J : Int} (h : j < l.length) (hm : (l.getD j gL).mu = true) : z4 c ps vars (l.drop j) J = (⟨true, (r8 c ps vars J).1, l3⟩ :: (z4 c ps vars (l.drop (j + 1)) (r8 c ps vars J).2).1, (z4 c ps vars (l.drop (j + 1)) (r8 c ps vars J).2).2) := by
  rw [List.drop_eq_getElem_cons h, z4, if_pos (by simpa [List.getD, h] using hm)]
theorem args_f {c : Core} {ps : List Pm} {vars : List BA} {l : List Pm} {j : Nat} {J : Int} (h : j < l.length) (hm : (l.getD j gL).mu = false) : z4 c ps vars (l.drop j) J = (⟨false, m8, (j0 c vars J).1⟩ :: (z4 c ps vars (l.drop (j + 1)) (j0 c vars J).2).1, (z4 c ps vars (l.drop (j + 1)) (j0 c vars J).2).2) := by
  rw [List.drop_eq_getElem_cons h, z4, if_neg (by rw [show l[j].mu = (l.getD j gL).mu from by simp [List.getD, h], hm]; decide)]
theorem uJ {l : List Ar} {a : Ar} : bJ (l ++ [a]) = bJ l ++ R7 a := by simp [bJ]
theorem LF {n : Nat} {l : List Ar} : ∀ x ∈ bJ l, Refs n x := by
  intro x hx
  obtain ⟨a, _, hx⟩ := List.mem_flatMap.1 hx
  simp only [R7, bR, List.mem_cons, List.not_mem_nil, or_false] at hx
  rcases hx with rfl | rfl | rfl | rfl | rfl | rfl | rfl
  · exact .bool _
  · exact .str _
  · exact .vec _ _
  · exact .int _ _
  · exact .int _ _
  · exact .str _
  · exact .vec _ _
theorem zF {c : Core} {ps : List Pm} {vars : List BA} {l : List Pm} {I J J' : Int} {j : Nat} {xs : List Ar} {a : Ar} (h : z4 c ps vars l I = (xs ++ (z4 c ps vars (l.drop j) J).1, (z4 c ps vars (l.drop j) J).2)) (hs : z4 c ps vars (l.drop j) J = (a :: (z4 c ps vars (l.drop (j + 1)) J').1, (z4 c ps vars (l.drop (j + 1)) J').2)) : z4 c ps vars l I = ((xs ++ [a]) ++ (z4 c ps vars (l.drop (j + 1)) J').1, (z4 c ps vars (l.drop (j + 1)) J').2) := by
  rw [h, hs]
  simp only [List.append_assoc, List.cons_append, List.nil_append]
section
attribute [local go_sem] bW wrap64 dZ zI L6 CU kA yJ wU
theorem c_args {c : Core} {e : Frame} {left I : Int} (hc : OkC c) (hI : OkI c.L I) (hL : c.L.length < 4611686018427387904) (vars : List BA) (hN : vars.length < 1000) (f g : Fu) (hp : f.params.length ≤ 2) (hq : g.params.length ≤ 2) : CallA Try.prog cfg 66 [.ptr 5 0 0, .agg (dZ f), .agg (dZ g), .vec vars.length (aC vars)] (hB c e I left) (fun y' h' => y' = .vec (z4 c f.params vars g.params I).1.length (bJ (z4 c f.params vars g.params I).1) ∧ h' = hB c e (z4 c f.params vars g.params I).2 left) := by
  refine .w fn66 ntm66 ?_
  refine c78z ?_
  refine c8.O4 9 rfl ?_
  refine .dU (fun m st => ∃ (j : Nat) (J : Int) (xs : List Ar), (m = g.params.length - j ∧ (j ≤ g.params.length ∧ OkI c.L J ∧ xs.length = j ∧ z4 c f.params vars g.params I = (xs ++ (z4 c f.params vars (g.params.drop j) J).1, (z4 c f.params vars (g.params.drop j) J).2))) ∧ st = ⟨mkS 40 [(0, AV.ptr 5 0 0), (3, AV.vec vars.length (aC vars)), (5, AV.ptr e.n 0 0), (6, AV.ptr (e.n + 1) 0 0), (9, AV.own (e.n + 2) j 0 j), (10, AV.int .i64 ((j : Nat) : Int))], hB c e J left ++ [⟨0, false, 104, 3, [.str f.name, .vec f.params.length (v8 f.params), .vec f.body.len (n8 f.body)], 0⟩, ⟨0, false, 104, 3, [.str g.name, .vec g.params.length (v8 g.params), .vec g.body.len (n8 g.body)], 0⟩, p9 178 7 j (bJ xs)]⟩) (.v ⟨0, I, [], ⟨rfl, ⟨by omega, hI, rfl, rfl⟩⟩, rfl⟩ (hs := t28) (hr := t1)) ?_
  rintro m sl h' ⟨j, J, xs, ⟨hm, ⟨hj, hJ, hal, hA⟩⟩, hst⟩
  obtain ⟨rfl, rfl⟩ := St.mk.inj hst; clear hst
  have hz7 : (bJ xs).length = j * 7 := by rw [cQ, hal]; omega
  refine c0z ?_
  refine .spl 15 rfl rfl (fun e1 => ?_) (fun e1 => ?_)
  ·try simp only [e1]
   have qe1 := fact e1
   refine c11z ?_
   refine .z ?_
   refine .spl 23 rfl rfl (fun e2 => ?_) (fun e2 => ?_)
   ·try simp only [e2]
    have qe2 := fact e2
    refine .T ?_
    refine .c7 [0, 3, 5, 6, 9, 10] ?_
    refine c142z ?_
    refine .ch rfl rfl (LD hc hJ hL vars hN f hp) ?_
    refine c45z ?_
    refine .c7 [0, 3, 5, 6, 9, 10] ?_
    refine c8.nilsO (β := e.n + 2) (bJ (xs ++ [(⟨true, (r8 c f.params vars J).1, l3⟩ : Ar)])) t49 (by rw [uJ]; exact (mV.refl _).app HL) ?_
    simp only [aI, List.set_cons_succ, List.set_cons_zero]
    refine .rz ?_
    exact ⟨_, by omega, .v ⟨(j + 1), (r8 c f.params vars J).2, (xs ++ [(⟨true, (r8 c f.params vars J).1, l3⟩ : Ar)]), ⟨rfl, ⟨by omega, (nQ hc hJ).2, by simp [hal], zF hA (args_t (by omega) (by assumption))⟩⟩, rfl⟩ (he := t100) (hl := t21) (hk := by exact qX ⟨.inl rfl, .inl rfl, .inr (by rw [o9]; exact LF), trivial⟩) (hs := t28) (hr := t1)⟩
   try simp only [e2]
   have qe2 := fact e2
   refine .F ?_
   refine .c7 [0, 3, 5, 6, 9, 10] ?_
   refine .r ?_
   refine .e 3 ?_
   refine .ch rfl rfl (K0 hc hJ hL vars hN) ?_
   refine c45z ?_
   refine c8.nilsO (β := e.n + 2) (bJ (xs ++ [(⟨false, m8, (j0 c vars J).1⟩ : Ar)])) t49 (by rw [uJ]; exact (mV.refl _).app BB) ?_
   simp only [aI, List.set_cons_succ, List.set_cons_zero]
   refine .rz ?_
   exact ⟨_, by omega, .v ⟨(j + 1), (j0 c vars J).2, (xs ++ [(⟨false, m8, (j0 c vars J).1⟩ : Ar)]), ⟨rfl, ⟨by omega, (iK hJ).2, by simp [hal], zF hA (args_f (by omega) (by assumption))⟩⟩, rfl⟩ (he := t100) (hl := t21) (hk := by exact qX ⟨.inl rfl, .inl rfl, .inr (by rw [o9]; exact LF), trivial⟩) (hs := t28) (hr := t1)⟩
  try simp only [e1]
  have qe1 := fact e1
  refine c18z ?_
  refine .c7 [9] ?_
  refine c62z ?_
  exact ⟨hB _ _ _ _, _, .vec xs.length (bJ xs), rfl, by (simp only [r9]; exact Nat.le_refl _), gC, by (show fO _ (hB c e J left ++ _) 6 (.own (e.n + 2) j 0 j) = _; rw [r9, s4, if_neg (by omega), hal]; exact gV cE (by omega) (by rw [cQ, hal]; omega) (by omega) wF), by refine ⟨?_, ?_⟩ <;> (rw [hA, List.drop_of_length_le (by omega)]; simp only [z4, List.append_nil])⟩
end
end Go.Proofs.Ytbmaijdkebjnhaa
end
section
namespace Go.Proofs.Ytbmaijdkebjnhaa
open Go.Ab Go.Un
theorem c_argsA {c : Core} {e : Frame} {left I : Int} {l : c6} (hc : OkC c) (hI : OkI c.L I) (hL : c.L.length < 4611686018427387904) (vars : List BA) (hN : vars.length < 1000) (f g : Fu) (hp : f.params.length ≤ 2) (hq : g.params.length ≤ 2) : CallA Try.prog cfg 66 [.ptr 5 0 0, .agg (dZ f), .agg (dZ g), .vec vars.length (aC vars)] (hB c e I left ++ l) (fun y' h' => y' = .vec (z4 c f.params vars g.params I).1.length (bJ (z4 c f.params vars g.params I).1) ∧ h' = hB c e (z4 c f.params vars g.params I).2 left ++ l) := c_args (e := ⟨e.b0, e.b1, e.b2, e.z, e.m, e.g, e.rest ++ l⟩) hc hI hL vars hN f g hp hq
theorem sealC_n {l : List BA} : l9 iS (aC l) = some (aC l) := by
 induction l with
 | nil => rfl
 | cons x l ih =>
  have e : iS (.str x) = some (.str x) := rfl
  simp only [aC, List.map_cons, l9, e] at ih ⊢
  rw [ih]
theorem JE {H : c6} {β : Nat} {b : Blk} (h : H[β]? = some b) : H.set β b = H := by
 obtain ⟨h1, h2⟩ := List.getElem?_eq_some_iff.1 h
 rw [← h2]
 exact List.set_getElem_self h1
theorem zZ {f : FuncId} {args args' : List AV} {H : c6} {Q : AV → c6 → Prop} {β g : Nat} {vs : List BA} (hb : H[β]? = some ⟨g, false, 9, 1, aC vs, vs.length⟩) (ha : oQ β g 0 vs.length (aC vs) args' args) (r : CallA Try.prog cfg f args' H Q) : CallA Try.prog cfg f args H Q := by
 have e : H.set β (eT ⟨g, false, 9, 1, aC vs, vs.length⟩ (0 + vs.length * 1)) = H := by
  rw [show eT ⟨g, false, 9, 1, aC vs, vs.length⟩ (0 + vs.length * 1) = ⟨g, false, 9, 1, aC vs, vs.length⟩ from by simp [eT]]
  exact JE hb
 refine CallA.V8 (β := β) (off := 0) (len := vs.length) (cs := aC vs) hb rfl (by simp [v9]) ?_ ha (by rw [e]; exact r)
 simp only [List.drop_zero, Nat.mul_one]
 rw [List.take_of_length_le (by rw [v9]; exact Nat.le_refl _)]
 exact sealC_n
theorem raise {c : Code} {sl : List AV} {h : c6} {Q : Exit → St → Prop} {β k : Nat} {b : Blk} (hb : h[β]? = some b) (hk : b.frz ≤ k) (r : c8 Try.prog cfg c ⟨sl, h.set β ⟨b.gen, b.cJ, b.elem, b.esz, b.cells, k⟩⟩ Q) : c8 Try.prog cfg c ⟨sl, h⟩ Q := by
 refine c8.step _ (fun B φ w i => ?_) r
 have := nI k i hb
 have e : eT b k = ⟨b.gen, b.cJ, b.elem, b.esz, b.cells, k⟩ := by
  simp only [eT, Nat.max_eq_right hk]
 rw [e] at this
 exact this
section
variable {c : Core} {e : Frame} {I left : Int} {l : c6} {fb : Blk} {gv : Nat} {vs : List BA}
theorem hB_v : (hB c e I left ++ (fb :: ⟨gv, false, 9, 1, aC vs, vs.length⟩ :: l))[e.n + 1]? = some ⟨gv, false, 9, 1, aC vs, vs.length⟩ := cE
theorem lX (hc : OkC c) (hI : OkI c.L I) (hL : c.L.length < 4611686018427387904) (hN : vs.length < 1000) : CallA Try.prog cfg 65 [.ptr 5 0 0, .own (e.n + 1) gv 0 vs.length] (hB c e I left ++ (fb :: ⟨gv, false, 9, 1, aC vs, vs.length⟩ :: l)) (fun y' h' => y' = .agg (q9 (j0 c vs I).1) ∧ h' = hB c e (j0 c vs I).2 left ++ (fb :: ⟨gv, false, 9, 1, aC vs, vs.length⟩ :: l)) :=
 zZ (args' := [.ptr 5 0 0, .vec vs.length (aC vs)]) hB_v ⟨.inl rfl, .inr ⟨rfl, rfl⟩, trivial⟩ (K0 hc hI hL vs hN)
theorem uK (hc : OkC c) (hI : OkI c.L I) (hL : c.L.length < 4611686018427387904) (hN : vs.length < 1000) (f : Fu) (hp : f.params.length ≤ 2) : CallA Try.prog cfg 64 [.ptr 5 0 0, .agg (dZ f), .own (e.n + 1) gv 0 vs.length] (hB c e I left ++ (fb :: ⟨gv, false, 9, 1, aC vs, vs.length⟩ :: l)) (fun y' h' => y' = .agg (zI (r8 c f.params vs I).1) ∧ h' = hB c e (r8 c f.params vs I).2 left ++ (fb :: ⟨gv, false, 9, 1, aC vs, vs.length⟩ :: l)) :=
 zZ (args' := [.ptr 5 0 0, .agg (dZ f), .vec vs.length (aC vs)]) hB_v ⟨.inl rfl, .inl rfl, .inr ⟨rfl, rfl⟩, trivial⟩ (LD hc hI hL vs hN f hp)
theorem CV (hc : OkC c) (hI : OkI c.L I) (hL : c.L.length < 4611686018427387904) (hN : vs.length < 1000) (f g : Fu) (hp : f.params.length ≤ 2) (hq : g.params.length ≤ 2) : CallA Try.prog cfg 66 [.ptr 5 0 0, .agg (dZ f), .agg (dZ g), .own (e.n + 1) gv 0 vs.length] (hB c e I left ++ (fb :: ⟨gv, false, 9, 1, aC vs, vs.length⟩ :: l)) (fun y' h' => y' = .vec (z4 c f.params vs g.params I).1.length (bJ (z4 c f.params vs g.params I).1) ∧ h' = hB c e (z4 c f.params vs g.params I).2 left ++ (fb :: ⟨gv, false, 9, 1, aC vs, vs.length⟩ :: l)) :=
 zZ (args' := [.ptr 5 0 0, .agg (dZ f), .agg (dZ g), .vec vs.length (aC vs)]) hB_v ⟨.inl rfl, .inl rfl, .inl rfl, .inr ⟨rfl, rfl⟩, trivial⟩ (c_argsA hc hI hL vs hN f g hp hq)
def sX (c : Core) (f : Fu) (fu : Nat) (left : Int) : Prop := ∀ {e : Frame} (I l' : Int) (vs all : List BA) (d m : Int), OkI c.L I → 0 ≤ l' → l' < left → 0 ≤ d → d ≤ 100 → 0 ≤ m → m ≤ 100 → (∀ x ∈ vs, x ∈ all) → Fr l'.toNat all → vs.length + l'.toNat ≤ 500 →
 CallA Try.prog cfg 42 [.ptr 5 0 0, .agg (dZ f), .vec vs.length (aC vs), .int .i64 d, .int .i64 m] (hB c e I l') (fun y' h' => y' = .vec (g5 c f.params fu vs d m I l').1.len (n8 (g5 c f.params fu vs d m I l').1) ∧ h' = hB c e (g5 c f.params fu vs d m I l').2.1 (g5 c f.params fu vs d m I l').2.2)
theorem sX.V {f : Fu} {fu : Nat} {left0 : Int} (h : sX c f fu left0) (l' : Int) (all : List BA) (d m : Int) (hI : OkI c.L I) (h1 : 0 ≤ l') (h2 : l' < left0) (h3 : 0 ≤ d) (h4 : d ≤ 100) (h5 : 0 ≤ m) (h6 : m ≤ 100) (h7 : ∀ x ∈ vs, x ∈ all) (h8 : Fr l'.toNat all) (h9 : vs.length + l'.toNat ≤ 500) :
  CallA Try.prog cfg 42 [.ptr 5 0 0, .agg (dZ f), .own (e.n + 1) gv 0 vs.length, .int .i64 d, .int .i64 m] (hB c e I l' ++ (fb :: ⟨gv, false, 9, 1, aC vs, vs.length⟩ :: l)) (fun y' h' => y' = .vec (g5 c f.params fu vs d m I l').1.len (n8 (g5 c f.params fu vs d m I l').1) ∧ h' = hB c e (g5 c f.params fu vs d m I l').2.1 (g5 c f.params fu vs d m I l').2.2 ++ (fb :: ⟨gv, false, 9, 1, aC vs, vs.length⟩ :: l)) :=
 zZ (args' := [.ptr 5 0 0, .agg (dZ f), .vec vs.length (aC vs), .int .i64 d, .int .i64 m]) hB_v ⟨.inl rfl, .inl rfl, .inr ⟨rfl, rfl⟩, .inl rfl, .inl rfl, trivial⟩ (h (e := ⟨e.b0, e.b1, e.b2, e.z, e.m, e.g, e.rest ++ (fb :: ⟨gv, false, 9, 1, aC vs, vs.length⟩ :: l)⟩) I l' vs all d m hI h1 h2 h3 h4 h5 h6 h7 h8 h9)
def gO (g n : Nat) : Nat := if n = 0 then g else g + 1
theorem JF (hn : vs.length < 1000) : j7 cfg 9 (hB c e I left ++ [fb, ⟨0, false, 9, 1, [], 0⟩]) (.own (e.n + 1) 0 0 0) (.vec vs.length (aC vs)) = some (.own (e.n + 1) (gO 0 vs.length) 0 vs.length, hB c e I left ++ [fb, ⟨gO 0 vs.length, false, 9, 1, aC vs, 0⟩]) := by
 have e1 : cfg.sz 9 = 1 := rfl
 have e2 : (cfg.ti 9).bytes = 16 := rfl
 have hm : vs.length ≤ maxLen := by
  have : (1000 : Nat) ≤ maxLen := by decide
  omega
 have hb : vs.length * 16 ≤ 140737488355328 := by omega
 cases vs with
 | nil => simp [j7, rd, lenOf, e1, e2, cE, gO, aC]
 | cons x vs =>
  have h0 : (aC (x :: vs)).length = vs.length + 1 := by simp [aC]
  simp only [List.length_cons] at hm hb
  simp [j7, rd, lenOf, e1, e2, cE, gO, h0, hm, hb, aI]
theorem app_vs {O t p : Blk} {x : BA} (hn : vs.length < 1000) : j7 cfg 9 (hB c e I left ++ [fb, ⟨gv, false, 9, 1, aC vs, vs.length⟩, O, t, p, ⟨0, false, 9, 1, [.str x], 0⟩]) (.own (e.n + 1) gv 0 vs.length) (.own (e.n + 5) 0 0 1) = some (.own (e.n + 1) (gv + 1) 0 (vs.length + 1), hB c e I left ++ [fb, ⟨gv + 1, false, 9, 1, aC (vs ++ [x]), vs.length⟩, O, t, p, ⟨0, false, 9, 1, [.str x], 0⟩]) := by
 have e1 : cfg.sz 9 = 1 := rfl
 have e2 : (cfg.ti 9).bytes = 16 := rfl
 have hm : vs.length + 1 ≤ maxLen := by
  have : (1001 : Nat) ≤ maxLen := by decide
  omega
 have hb : (vs.length + 1) * 16 ≤ 140737488355328 := by omega
 have ht : List.take vs.length (aC vs) = aC vs := List.take_of_length_le (by rw [v9]; exact Nat.le_refl _)
 have hnl : ¬ vs.length + 1 ≤ vs.length := by omega
 simp [j7, rd, lenOf, e1, e2, cE, v9, hm, hb, aI, ht, hnl, jD]
theorem JG {vb t : Blk} {g n : Nat} {zs : List AV} {x1 x2 x3 x4 x5 x6 x7 x8 x9 x10 x11 : AV} (hz : zs.length = n * 11) (hn : n < 1000) :
  j7 cfg 156 (hB c e I left ++ [fb, vb, p9 156 11 g zs, t, ⟨0, false, 156, 11, [x1, x2, x3, x4, x5, x6, x7, x8, x9, x10, x11], 0⟩]) (.own (e.n + 2) g 0 n) (.own (e.n + 4) 0 0 1) = some (.own (e.n + 2) (g + 1) 0 (n + 1), hB c e I left ++ [fb, vb, p9 156 11 (g + 1) (zs ++ [x1, x2, x3, x4, x5, x6, x7, x8, x9, x10, x11]), t, ⟨0, false, 156, 11, [x1, x2, x3, x4, x5, x6, x7, x8, x9, x10, x11], 0⟩]) := by
 have hb : (hB c e I left ++ [fb, vb, p9 156 11 g zs, t, ⟨0, false, 156, 11, [x1, x2, x3, x4, x5, x6, x7, x8, x9, x10, x11], 0⟩])[e.n + 2]? = some (p9 156 11 g zs) := cE
 rw [aR (C := cfg) (K := 11) (m := 1) (new := [x1, x2, x3, x4, x5, x6, x7, x8, x9, x10, x11]) hb rfl (by omega) hz rfl (by omega) t94 rfl (by decide) (by omega), aI]
 rfl
theorem JH {vb t u : Blk} {g n : Nat} {zs : List AV} {x1 x2 x3 x4 x5 x6 x7 x8 x9 x10 x11 : AV} (hz : zs.length = n * 11) (hn : n < 1000) :
  j7 cfg 156 (hB c e I left ++ [fb, vb, p9 156 11 g zs, t, u, ⟨0, false, 156, 11, [x1, x2, x3, x4, x5, x6, x7, x8, x9, x10, x11], 0⟩]) (.own (e.n + 2) g 0 n) (.own (e.n + 5) 0 0 1) = some (.own (e.n + 2) (g + 1) 0 (n + 1), hB c e I left ++ [fb, vb, p9 156 11 (g + 1) (zs ++ [x1, x2, x3, x4, x5, x6, x7, x8, x9, x10, x11]), t, u, ⟨0, false, 156, 11, [x1, x2, x3, x4, x5, x6, x7, x8, x9, x10, x11], 0⟩]) := by
 have hb : (hB c e I left ++ [fb, vb, p9 156 11 g zs, t, u, ⟨0, false, 156, 11, [x1, x2, x3, x4, x5, x6, x7, x8, x9, x10, x11], 0⟩])[e.n + 2]? = some (p9 156 11 g zs) := cE
 rw [aR (C := cfg) (K := 11) (m := 1) (new := [x1, x2, x3, x4, x5, x6, x7, x8, x9, x10, x11]) hb rfl (by omega) hz rfl (by omega) t94 rfl (by decide) (by omega), aI]
 rfl
theorem L7 {vb t u v : Blk} {g n : Nat} {zs : List AV} {x1 x2 x3 x4 x5 x6 x7 x8 x9 x10 x11 : AV} (hz : zs.length = n * 11) (hn : n < 1000) :
  j7 cfg 156 (hB c e I left ++ [fb, vb, p9 156 11 g zs, t, u, v, ⟨0, false, 156, 11, [x1, x2, x3, x4, x5, x6, x7, x8, x9, x10, x11], 0⟩]) (.own (e.n + 2) g 0 n) (.own (e.n + 6) 0 0 1) = some (.own (e.n + 2) (g + 1) 0 (n + 1), hB c e I left ++ [fb, vb, p9 156 11 (g + 1) (zs ++ [x1, x2, x3, x4, x5, x6, x7, x8, x9, x10, x11]), t, u, v, ⟨0, false, 156, 11, [x1, x2, x3, x4, x5, x6, x7, x8, x9, x10, x11], 0⟩]) := by
 have hb : (hB c e I left ++ [fb, vb, p9 156 11 g zs, t, u, v, ⟨0, false, 156, 11, [x1, x2, x3, x4, x5, x6, x7, x8, x9, x10, x11], 0⟩])[e.n + 2]? = some (p9 156 11 g zs) := cE
 rw [aR (C := cfg) (K := 11) (m := 1) (new := [x1, x2, x3, x4, x5, x6, x7, x8, x9, x10, x11]) hb rfl (by omega) hz rfl (by omega) t94 rfl (by decide) (by omega), aI]
 rfl
theorem CW {vb t u s : Blk} {g n m : Nat} {zs cs : List AV} (hz : zs.length = n * 11) (hcs : cs.length = m * 11) (hn : n < 1000) (hm : m < 1000) :
  j7 cfg 156 (hB c e I left ++ [fb, vb, p9 156 11 g zs, t, u, s]) (.own (e.n + 2) g 0 n) (.vec m cs) = some (.own (e.n + 2) (gO g m) 0 (n + m), hB c e I left ++ [fb, vb, p9 156 11 (gO g m) (zs ++ cs), t, u, s]) := by
 have hb : (hB c e I left ++ [fb, vb, p9 156 11 g zs, t, u, s])[e.n + 2]? = some (p9 156 11 g zs) := cE
 by_cases h0 : m = 0
 ·subst h0
  obtain rfl : cs = [] := List.length_eq_zero_iff.1 (by simpa using hcs)
  have e1 : cfg.sz 156 = 11 := rfl
  have e2 : (cfg.ti 156).bytes = 192 := rfl
  have hmx : n ≤ maxLen := by
   have : (1000 : Nat) ≤ maxLen := by decide
   omega
  have hbd : n * 192 ≤ 140737488355328 := by omega
  simp [j7, rd, lenOf, e1, e2, hb, F9, gO, hmx, hbd]
 ·rw [aR (C := cfg) (K := 11) (m := m) (new := cs) hb rfl (by omega) hz hcs (by omega) rfl rfl (by decide) (by omega), aI]
  simp only [gO, h0, if_false]
  rfl
theorem JI {vb t u s : Blk} {g n m : Nat} {zs cs : List AV} {y1 y2 y3 y4 y5 y6 y7 y8 y9 y10 y11 : AV} (hz : zs.length = n * 11) (hcs : cs.length = m * 11) (hn : n < 900) (hm : m < 1000) :
  j7 cfg 156 (hB c e I left ++ [fb, vb, p9 156 11 g (zs ++ [y1, y2, y3, y4, y5, y6, y7, y8, y9, y10, y11]), t, u, s]) (.own (e.n + 2) g 0 (n + 1)) (.vec m cs) = some (.own (e.n + 2) (gO g m) 0 (n + 1 + m), hB c e I left ++ [fb, vb, p9 156 11 (gO g m) ((zs ++ [y1, y2, y3, y4, y5, y6, y7, y8, y9, y10, y11]) ++ cs), t, u, s]) :=
 CW (by rw [List.length_append, hz]; simp; omega) hcs (by omega) hm
theorem JJ {vb t u v : Blk} {g n m : Nat} {zs cs : List AV} {y1 y2 y3 y4 y5 y6 y7 y8 y9 y10 y11 x1 x2 x3 x4 x5 x6 x7 x8 x9 x10 x11 : AV} (hz : zs.length = n * 11) (hcs : cs.length = m * 11) (hn : n < 400) (hm : m < 400) :
  j7 cfg 156 (hB c e I left ++ [fb, vb, p9 156 11 g (zs ++ y1 :: y2 :: y3 :: y4 :: y5 :: y6 :: y7 :: y8 :: y9 :: y10 :: y11 :: cs), t, u, v, ⟨0, false, 156, 11, [x1, x2, x3, x4, x5, x6, x7, x8, x9, x10, x11], 0⟩]) (.own (e.n + 2) g 0 (n + 1 + m)) (.own (e.n + 6) 0 0 1) = some (.own (e.n + 2) (g + 1) 0 (n + 1 + m + 1), hB c e I left ++ [fb, vb, p9 156 11 (g + 1) ((zs ++ y1 :: y2 :: y3 :: y4 :: y5 :: y6 :: y7 :: y8 :: y9 :: y10 :: y11 :: cs) ++ [x1, x2, x3, x4, x5, x6, x7, x8, x9, x10, x11]), t, u, v, ⟨0, false, 156, 11, [x1, x2, x3, x4, x5, x6, x7, x8, x9, x10, x11], 0⟩]) :=
 L7 (by rw [List.length_append, hz]; simp only [List.length_cons, hcs]; omega) (by omega)
end
theorem LG {n : Nat} : ∀ (s : Sl), ∀ x ∈ n8 s, Refs n x
 | .nil, x, hx => by simp [n8] at hx
 | .cons k nm e r as' th el rest, x, hx => by
  simp only [n8, bR, List.cons_append, List.nil_append, List.mem_cons] at hx
  rcases hx with rfl | rfl | rfl | rfl | rfl | rfl | rfl | rfl | rfl | rfl | rfl | hx
  ·exact .int _ _
  ·exact .str _
  ·exact .int _ _
  ·exact .int _ _
  ·exact .str _
  ·exact .vec _ _
  ·exact .str _
  ·exact .vec _ _
  ·exact .vec _ _
  ·exact .vec _ _
  ·exact .vec _ _
  ·exact LG rest x hx
theorem QH {n d : Nat} {H : c6} : ∀ (s : Sl), l9 (gG n H (d + 1)) (n8 s) = some (n8 s)
 | .nil => rfl
 | .cons k nm e r as' th el rest => by
  have ih := QH (n := n) (d := d) (H := H) rest
  simp only [n8, bR, List.cons_append, List.nil_append, l9, aN, aG, aA, ih]
theorem aY {k : Int} {nm : BA} {x : Ex} {r : Rf} {xs : List Ar} {th el : Sl} {a b c d f : AV} (ha : a = .vec x.args.length (m7 x.args) ∨ (a = .g6 ∧ x.args = [])) (hb : b = .vec r.idx.length (m7 r.idx) ∨ (b = .g6 ∧ r.idx = [])) (hc : c = .vec xs.length (bJ xs) ∨ (c = .g6 ∧ xs = []))
  (hd : d = .vec th.len (n8 th) ∨ (d = .g6 ∧ th = .nil)) (hf : f = .vec el.len (n8 el) ∨ (f = .g6 ∧ el = .nil)) :
  mV (n8 (row k nm x r xs th el)) [.int .i64 k, .str nm, .int .i64 x.op, .int .i64 x.num, .str x.name, a, .str r.name, b, c, d, f] := by
 simp only [row, n8, bR, List.cons_append, List.nil_append]
 refine ⟨.inl rfl, .inl rfl, .inl rfl, .inl rfl, .inl rfl, ?_, .inl rfl, ?_, ?_, ?_, ?_, trivial⟩
 ·rcases ha with rfl | ⟨rfl, h⟩
  ·exact .inl rfl
  ·rw [h]; exact .inr ⟨rfl, rfl⟩
 ·rcases hb with rfl | ⟨rfl, h⟩
  ·exact .inl rfl
  ·rw [h]; exact .inr ⟨rfl, rfl⟩
 ·rcases hc with rfl | ⟨rfl, h⟩
  ·exact .inl rfl
  ·rw [h]; exact .inr ⟨rfl, rfl⟩
 ·rcases hd with rfl | ⟨rfl, h⟩
  ·exact .inl rfl
  ·rw [h]; exact .inr ⟨rfl, rfl⟩
 ·rcases hf with rfl | ⟨rfl, h⟩
  ·exact .inl rfl
  ·rw [h]; exact .inr ⟨rfl, rfl⟩
theorem r7 {k : Int} {nm : BA} {x : Ex} {r : Rf} {xs : List Ar} {th el : Sl} : n8 (row k nm x r xs th el) = [.int .i64 k, .str nm, .int .i64 x.op, .int .i64 x.num, .str x.name, .vec x.args.length (m7 x.args), .str r.name, .vec r.idx.length (m7 r.idx), .vec xs.length (bJ xs), .vec th.len (n8 th), .vec el.len (n8 el)] := by
 simp only [row, n8, bR, List.cons_append, List.nil_append]
theorem wrap8 {n : Int} (h1 : 0 ≤ n) (h2 : n < 256) : IntKind.wrap .u8 n = n := by
 unfold IntKind.wrap
 have e1 : (2 : Int) ^ IntKind.bits .u8 = 256 := rfl
 have e3 : IntKind.signed .u8 = false := rfl
 simp only [e1, e3, Bool.false_and, Bool.false_eq_true, if_false]
 omega
theorem vnm_eq {l : Int} (h0 : 0 ≤ l) (h1 : l < 24) : (⟨#[118]⟩ : BA) ++ (⟨#[UInt8.ofNat (97 + l.tmod 26).toNat, UInt8.ofNat (97 + (l.tdiv 26).tmod 26).toNat]⟩ : BA) = vnm l.toNat := by
 obtain ⟨n, rfl⟩ := Int.eq_ofNat_of_zero_le h0
 have key : ∀ n : Fin 24, (⟨#[118]⟩ : BA) ++ (⟨#[UInt8.ofNat (97 + ((n.1 : Nat) : Int).tmod 26).toNat, UInt8.ofNat (97 + (((n.1 : Nat) : Int).tdiv 26).tmod 26).toNat]⟩ : BA) = vnm n.1 := by decide +kernel
 exact key ⟨n, by omega⟩
theorem tm26 {l : Int} (h0 : 0 ≤ l) : 0 ≤ l.tmod 26 ∧ l.tmod 26 < 26 := ⟨Int.tmod_nonneg _ h0, Int.tmod_lt_of_pos _ (by omega)⟩
theorem td26 {l : Int} (h0 : 0 ≤ l) (h1 : l < 24) : l.tdiv 26 = 0 := by
 obtain ⟨n, rfl⟩ := Int.eq_ofNat_of_zero_le h0
 have key : ∀ n : Fin 24, (((n.1 : Nat) : Int).tdiv 26) = 0 := by decide
 exact key ⟨n, by omega⟩
end Go.Proofs.Ytbmaijdkebjnhaa
end
