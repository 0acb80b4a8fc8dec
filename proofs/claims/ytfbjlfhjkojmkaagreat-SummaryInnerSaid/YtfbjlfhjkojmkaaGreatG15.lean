/- My own texts, put together by a program of mine. -/
import Derived.Test.YtfbjlfhjkojmkaaGreatG14
set_option linter.unusedSimpArgs false
set_option linter.unusedVariables false
set_option maxRecDepth 100000
set_option maxHeartbeats 4000000
section
namespace Go.Proofs.YtfbjlfhjkojmkaaGreat
open Go.Ab Go.Un
attribute [local go_sem] lI w6 l9 aL bP aN l7 Int.natCast_nonneg Int.natCast_inj List.length_map wrap64 T9 kF wV w5 kT eq_mk kU wW Nat.reduceMul
structure oZ (E : Env) : Prop extends GRes E where
  fn : ∀ f ∈ E.funcs, qW f.1 = false
theorem dW {l : List Ar} {i : Nat} (h : i < l.length) : List.take 7 (List.drop (i * 7) (aM l)) = [.bool (l.getD i cJ).mu, .str (l.getD i cJ).r.name, .vec (l.getD i cJ).r.idx.length (l6 (l.getD i cJ).r.idx), .int .i64 (l.getD i cJ).e.op, .int .i64 (l.getD i cJ).e.num, .str (l.getD i cJ).e.name, .vec (l.getD i cJ).e.args.length (l6 (l.getD i cJ).e.args)] := by
  rw [sA h, sR]
variable {E : Env} {xs : List Ar}
theorem DM {vars : List BA} {ps : List Pm} (h : GAs E vars ps xs) {i : Nat} (hi : i < xs.length) : ((xs.getD i cJ).mu = true → GR E vars (xs.getD i cJ).r ∧ (xs.getD i cJ).e = j8) ∧ ((xs.getD i cJ).mu = false → (xs.getD i cJ).r = l5 ∧ GE vars 2 (xs.getD i cJ).e) := by
  induction ps generalizing xs i with
  | nil =>
    cases xs with
    | nil => simp at hi
    | cons => exact h.elim
  | cons p ps ih =>
    cases xs with
    | nil => exact h.elim
    | cons a xs =>
      obtain ⟨⟨h1, h2⟩, h3⟩ := h
      cases i with
      | succ i => exact ih h3 (by simpa using hi)
      | zero =>
        simp only [List.getD_cons_zero]
        rcases h2 with ⟨q1, q2, q3⟩ | ⟨q1, q2, q3⟩
        · exact ⟨fun _ => ⟨q2, q3⟩, fun h => absurd ((h1.trans q1).symm.trans h) (by decide)⟩
        · exact ⟨fun h => absurd ((h1.trans q1).symm.trans h) (by decide), fun _ => ⟨q2, q3⟩⟩
variable {h : c6} {e : Ex}
theorem DN (he : e = j8) : CB 102 [.agg [.int .i64 e.op, .int .i64 e.num, .str e.name, .vec e.args.length (l6 e.args)]] h (.bool true) := by
  subst he; exact c_noE
variable {r : Rf}
theorem DO (hr : r = l5) : CB 104 [.agg [.str r.name, .vec r.idx.length (l6 r.idx)]] h (.bool true) := by
  subst hr; exact c_noR
section
attribute [local go_sem] dW
variable {vs : List BA} {deep : Int} {pre rest : Sl}
theorem c_okK1 (hE : qN E) (hR2 : oZ E) (hv : u6 vs) (hd0 : 0 ≤ deep) (j : Nat) (hj : j < 24) (e : Ex) (he : GE vs 2 e) (hl : (pre.app (.cons 1 (vnm j) e l5 [] .nil .nil rest)).len < 100000) (hdp : deep + ((Sl.cons 1 (vnm j) e l5 [] .nil .nil rest).dep : Int) ≤ 23) : c9 Tryz.prog cfg (oP [1, 1, 0, 1, 0, 0, 1, 0] (gZ Tryz.f79)) ⟨mkS 219 [(0, AV.vec (Go.Un.Sl.len (pre.app (.cons 1 (vnm j) e l5 [] .nil .nil rest))) (n6 (pre.app (.cons 1 (vnm j) e l5 [] .nil .nil rest)))), (1, AV.int .i64 deep), (5, AV.int .i64 ((pre.len : Nat) : Int))], h⟩ (Led 219 [(0, AV.vec (Go.Un.Sl.len (pre.app (.cons 1 (vnm j) e l5 [] .nil .nil rest))) (n6 (pre.app (.cons 1 (vnm j) e l5 [] .nil .nil rest)))), (1, AV.int .i64 deep), (5, AV.int .i64 ((pre.len : Nat) : Int))] (h)) := by
  have hlc := @s6 pre 1 (vnm j) e l5 [] .nil .nil rest
  have hdc := @dU 1 (vnm j) e l5 [] .nil .nil rest
  refine c188z ?_
  refine .ca rfl rfl (kS _ qO (CV j hj)) ?_
  refine c68z ?_
  refine .k 1 [(26, 87)] ?_
  refine c175z ?_
  refine c93z ?_
  refine c92z ?_
  refine c179z ?_
  refine c189z ?_
  exact .mk _ rfl
end
section
attribute [local go_sem] dW
variable {vs : List BA} {deep : Int} {pre rest : Sl}
theorem c_okK2 (hE : qN E) (hR2 : oZ E) (hv : u6 vs) (hd0 : 0 ≤ deep) (n : BA) (hn : n ∈ vs) (e : Ex) (he : GE vs 2 e) (hl : (pre.app (.cons 2 n e l5 [] .nil .nil rest)).len < 100000) (hdp : deep + ((Sl.cons 2 n e l5 [] .nil .nil rest).dep : Int) ≤ 23) : c9 Tryz.prog cfg (oP [1, 1, 0, 1, 0, 0, 1, 0] (gZ Tryz.f79)) ⟨mkS 219 [(0, AV.vec (Go.Un.Sl.len (pre.app (.cons 2 n e l5 [] .nil .nil rest))) (n6 (pre.app (.cons 2 n e l5 [] .nil .nil rest)))), (1, AV.int .i64 deep), (5, AV.int .i64 ((pre.len : Nat) : Int))], h⟩ (Led 219 [(0, AV.vec (Go.Un.Sl.len (pre.app (.cons 2 n e l5 [] .nil .nil rest))) (n6 (pre.app (.cons 2 n e l5 [] .nil .nil rest)))), (1, AV.int .i64 deep), (5, AV.int .i64 ((pre.len : Nat) : Int))] (h)) := by
  have hlc := @s6 pre 2 n e l5 [] .nil .nil rest
  have hdc := @dU 2 n e l5 [] .nil .nil rest
  refine c188z ?_
  refine .ca rfl rfl (kS _ (hv _ hn).1 (hv _ hn).2) ?_
  refine c68z ?_
  refine .k 1 [(26, 87)] ?_
  refine c175z ?_
  refine c93z ?_
  refine c92z ?_
  refine c179z ?_
  refine c189z ?_
  exact .mk _ rfl
end
section
attribute [local go_sem] dW
variable {vs : List BA} {deep : Int} {pre rest : Sl}
theorem c_okK3 (hE : qN E) (hR2 : oZ E) (hv : u6 vs) (hd0 : 0 ≤ deep) (f : BA × List Pm) (hf : f ∈ E.funcs) (xs : List Ar) (ha : GAs E vs f.2 xs) (hl : (pre.app (.cons 3 f.1 j8 l5 xs .nil .nil rest)).len < 100000) (hdp : deep + ((Sl.cons 3 f.1 j8 l5 xs .nil .nil rest).dep : Int) ≤ 23) : c9 Tryz.prog cfg (oP [1, 1, 0, 1, 0, 0, 1, 0] (gZ Tryz.f79)) ⟨mkS 219 [(0, AV.vec (Go.Un.Sl.len (pre.app (.cons 3 f.1 j8 l5 xs .nil .nil rest))) (n6 (pre.app (.cons 3 f.1 j8 l5 xs .nil .nil rest)))), (1, AV.int .i64 deep), (5, AV.int .i64 ((pre.len : Nat) : Int))], h⟩ (Led 219 [(0, AV.vec (Go.Un.Sl.len (pre.app (.cons 3 f.1 j8 l5 xs .nil .nil rest))) (n6 (pre.app (.cons 3 f.1 j8 l5 xs .nil .nil rest)))), (1, AV.int .i64 deep), (5, AV.int .i64 ((pre.len : Nat) : Int))] (h)) := by
  have hlc := @s6 pre 3 f.1 j8 l5 xs .nil .nil rest
  have hdc := @dU 3 f.1 j8 l5 xs .nil .nil rest
  refine c188z ?_
  refine .ca rfl rfl (kS _ (hE.fn f hf) (hR2.fn f hf)) ?_
  refine c68z ?_
  refine .k 8 [(24, 85), (26, 87), (33, 94)] ?_
  refine .k 3 [(33, 94), (36, 97)] ?_
  refine c60z ?_
  refine c169z ?_
  refine c92z ?_
  refine c152z ?_
  refine c22z ?_
  refine .aW (fun m st => ∃ (t : Nat), (m = xs.length - t ∧ t ≤ xs.length) ∧ st = ⟨mkS 219 [(0, AV.vec (Go.Un.Sl.len (pre.app (.cons 3 f.1 j8 l5 xs .nil .nil rest))) (n6 (pre.app (.cons 3 f.1 j8 l5 xs .nil .nil rest)))), (1, AV.int .i64 deep), (5, AV.int .i64 ((pre.len : Nat) : Int)), (6, AV.ptr h.length 0 0), (7, AV.int .i64 3), (12, AV.int .i64 ((t : Nat) : Int))], h ++ [⟨0, false, 140, 11, [.int .i64 3, .str f.1, .int .i64 j8.op, .int .i64 j8.num, .str j8.name, .vec j8.args.length (l6 j8.args), .str l5.name, .vec l5.idx.length (l6 l5.idx), .vec xs.length (aM xs), .vec (Go.Un.Sl.len Go.Un.Sl.nil) (n6 Go.Un.Sl.nil), .vec (Go.Un.Sl.len Go.Un.Sl.nil) (n6 Go.Un.Sl.nil)], 0⟩]⟩) (.v ⟨0, ⟨rfl, by omega⟩, rfl⟩) ?_
  rintro m sl h' ⟨t, ⟨hm, hti⟩, hst⟩
  obtain ⟨rfl, rfl⟩ := St.mk.inj hst; clear hst
  have hxl := (jC hE hv.n ha).1; have hfl := hE.fp f hf
  refine c0z ?_
  refine u2z ?_ ?_
  ·intro e1 qe1
   refine c7z ?_
   have har := DM ha (i := t) (by omega)
   refine .z ?_
   refine .c7 [0, 1, 5, 6, 7, 12, 13] ?_
   refine c19z ?_
   refine .spl 147 rfl rfl (fun e2 => ?_) (fun e2 => ?_)
   ·try simp only [e2]
    have qe2 := fact e2
    refine .k 2 [(2, 147)] ?_
    refine .ca rfl rfl (KA hE hR2.toGRes hv (har.1 (by assumption)).1) ?_
    refine .k 4 [(2, 147), (7, 152)] ?_
    refine .ca rfl rfl (DN (har.1 (by assumption)).2) ?_
    refine .k 8 [(2, 147), (7, 152), (14, 159)] ?_
    refine .k 8 [(18, 163), (23, 168)] ?_
    refine c176z ?_
    refine .rz ?_
    exact ⟨_, by omega, .v ⟨(t + 1), ⟨rfl, by omega⟩, rfl⟩ (he := t40)⟩
   try simp only [e2]
   have qe2 := fact e2
   refine .k 8 [(2, 147), (7, 152)] ?_
   refine .k 8 [(2, 147), (7, 152), (14, 159)] ?_
   refine .k 2 [(18, 163)] ?_
   refine .ca rfl rfl (DO (har.2 (by assumption)).1) ?_
   refine .k 4 [(18, 163), (23, 168)] ?_
   refine .ca rfl rfl (wY hv (har.2 (by assumption)).2) ?_
   refine c176z ?_
   refine .rz ?_
   exact ⟨_, by omega, .v ⟨(t + 1), ⟨rfl, by omega⟩, rfl⟩ (he := t40)⟩
  intro e1 qe1
  refine c9z ?_
  refine c168z ?_
  refine c189z ?_
  exact .mk _ rfl
end
section
attribute [local go_sem] dW
variable {vs : List BA} {deep : Int} {pre rest : Sl}
theorem c_okK4 (hE : qN E) (hR2 : oZ E) (hv : u6 vs) (hd0 : 0 ≤ deep) (f : BA × List Pm) (hf : f ∈ E.funcs) (xs : List Ar) (ha : GAs E vs f.2 xs) (hl : (pre.app (.cons 4 f.1 j8 l5 xs .nil .nil rest)).len < 100000) (hdp : deep + ((Sl.cons 4 f.1 j8 l5 xs .nil .nil rest).dep : Int) ≤ 23) : c9 Tryz.prog cfg (oP [1, 1, 0, 1, 0, 0, 1, 0] (gZ Tryz.f79)) ⟨mkS 219 [(0, AV.vec (Go.Un.Sl.len (pre.app (.cons 4 f.1 j8 l5 xs .nil .nil rest))) (n6 (pre.app (.cons 4 f.1 j8 l5 xs .nil .nil rest)))), (1, AV.int .i64 deep), (5, AV.int .i64 ((pre.len : Nat) : Int))], h⟩ (Led 219 [(0, AV.vec (Go.Un.Sl.len (pre.app (.cons 4 f.1 j8 l5 xs .nil .nil rest))) (n6 (pre.app (.cons 4 f.1 j8 l5 xs .nil .nil rest)))), (1, AV.int .i64 deep), (5, AV.int .i64 ((pre.len : Nat) : Int))] (h)) := by
  have hlc := @s6 pre 4 f.1 j8 l5 xs .nil .nil rest
  have hdc := @dU 4 f.1 j8 l5 xs .nil .nil rest
  refine c188z ?_
  refine .ca rfl rfl (kS _ (hE.fn f hf) (hR2.fn f hf)) ?_
  refine c68z ?_
  refine .k 8 [(24, 85), (26, 87), (33, 94)] ?_
  refine .k 3 [(33, 94), (36, 97)] ?_
  refine c60z ?_
  refine c169z ?_
  refine c92z ?_
  refine c152z ?_
  refine c22z ?_
  refine .aW (fun m st => ∃ (t : Nat), (m = xs.length - t ∧ t ≤ xs.length) ∧ st = ⟨mkS 219 [(0, AV.vec (Go.Un.Sl.len (pre.app (.cons 4 f.1 j8 l5 xs .nil .nil rest))) (n6 (pre.app (.cons 4 f.1 j8 l5 xs .nil .nil rest)))), (1, AV.int .i64 deep), (5, AV.int .i64 ((pre.len : Nat) : Int)), (6, AV.ptr h.length 0 0), (7, AV.int .i64 4), (12, AV.int .i64 ((t : Nat) : Int))], h ++ [⟨0, false, 140, 11, [.int .i64 4, .str f.1, .int .i64 j8.op, .int .i64 j8.num, .str j8.name, .vec j8.args.length (l6 j8.args), .str l5.name, .vec l5.idx.length (l6 l5.idx), .vec xs.length (aM xs), .vec (Go.Un.Sl.len Go.Un.Sl.nil) (n6 Go.Un.Sl.nil), .vec (Go.Un.Sl.len Go.Un.Sl.nil) (n6 Go.Un.Sl.nil)], 0⟩]⟩) (.v ⟨0, ⟨rfl, by omega⟩, rfl⟩) ?_
  rintro m sl h' ⟨t, ⟨hm, hti⟩, hst⟩
  obtain ⟨rfl, rfl⟩ := St.mk.inj hst; clear hst
  have hxl := (jC hE hv.n ha).1; have hfl := hE.fp f hf
  refine c0z ?_
  refine u2z ?_ ?_
  ·intro e1 qe1
   refine c7z ?_
   have har := DM ha (i := t) (by omega)
   refine .z ?_
   refine .c7 [0, 1, 5, 6, 7, 12, 13] ?_
   refine c19z ?_
   refine .spl 147 rfl rfl (fun e2 => ?_) (fun e2 => ?_)
   ·try simp only [e2]
    have qe2 := fact e2
    refine .k 2 [(2, 147)] ?_
    refine .ca rfl rfl (KA hE hR2.toGRes hv (har.1 (by assumption)).1) ?_
    refine .k 4 [(2, 147), (7, 152)] ?_
    refine .ca rfl rfl (DN (har.1 (by assumption)).2) ?_
    refine .k 8 [(2, 147), (7, 152), (14, 159)] ?_
    refine .k 8 [(18, 163), (23, 168)] ?_
    refine c176z ?_
    refine .rz ?_
    exact ⟨_, by omega, .v ⟨(t + 1), ⟨rfl, by omega⟩, rfl⟩ (he := t40)⟩
   try simp only [e2]
   have qe2 := fact e2
   refine .k 8 [(2, 147), (7, 152)] ?_
   refine .k 8 [(2, 147), (7, 152), (14, 159)] ?_
   refine .k 2 [(18, 163)] ?_
   refine .ca rfl rfl (DO (har.2 (by assumption)).1) ?_
   refine .k 4 [(18, 163), (23, 168)] ?_
   refine .ca rfl rfl (wY hv (har.2 (by assumption)).2) ?_
   refine c176z ?_
   refine .rz ?_
   exact ⟨_, by omega, .v ⟨(t + 1), ⟨rfl, by omega⟩, rfl⟩ (he := t40)⟩
  intro e1 qe1
  refine c9z ?_
  refine c168z ?_
  refine c189z ?_
  exact .mk _ rfl
end
section
attribute [local go_sem] dW
variable {vs : List BA} {deep : Int} {pre rest : Sl}
theorem c_okK5 (hE : qN E) (hR2 : oZ E) (hv : u6 vs) (hd0 : 0 ≤ deep) (r : Rf) (hR : GR E vs r) (hl : (pre.app (.cons 5 ByteArray.empty j8 r [] .nil .nil rest)).len < 100000) (hdp : deep + ((Sl.cons 5 ByteArray.empty j8 r [] .nil .nil rest).dep : Int) ≤ 23) : c9 Tryz.prog cfg (oP [1, 1, 0, 1, 0, 0, 1, 0] (gZ Tryz.f79)) ⟨mkS 219 [(0, AV.vec (Go.Un.Sl.len (pre.app (.cons 5 ByteArray.empty j8 r [] .nil .nil rest))) (n6 (pre.app (.cons 5 ByteArray.empty j8 r [] .nil .nil rest)))), (1, AV.int .i64 deep), (5, AV.int .i64 ((pre.len : Nat) : Int))], h⟩ (Led 219 [(0, AV.vec (Go.Un.Sl.len (pre.app (.cons 5 ByteArray.empty j8 r [] .nil .nil rest))) (n6 (pre.app (.cons 5 ByteArray.empty j8 r [] .nil .nil rest)))), (1, AV.int .i64 deep), (5, AV.int .i64 ((pre.len : Nat) : Int))] (h)) := by
  have hlc := @s6 pre 5 ByteArray.empty j8 r [] .nil .nil rest
  have hdc := @dU 5 ByteArray.empty j8 r [] .nil .nil rest
  refine c162z ?_
  refine c90z ?_
  refine c180z ?_
  refine c60z ?_
  refine .ca rfl rfl (KA hE hR2.toGRes hv hR) ?_
  refine .k 8 [(43, 104), (45, 106), (52, 113), (55, 116)] ?_
  refine .k 8 [(52, 113), (55, 116), (62, 123)] ?_
  refine .m [(62, 123), (65, 126)] ?_
  refine c179z ?_
  refine c189z ?_
  exact .mk _ rfl
end
section
attribute [local go_sem] dW
variable {vs : List BA} {deep : Int} {pre rest : Sl}
theorem c_okK6 (hE : qN E) (hR2 : oZ E) (hv : u6 vs) (hd0 : 0 ≤ deep) (r : Rf) (hR : GR E vs r) (hl : (pre.app (.cons 6 ByteArray.empty j8 r [] .nil .nil rest)).len < 100000) (hdp : deep + ((Sl.cons 6 ByteArray.empty j8 r [] .nil .nil rest).dep : Int) ≤ 23) : c9 Tryz.prog cfg (oP [1, 1, 0, 1, 0, 0, 1, 0] (gZ Tryz.f79)) ⟨mkS 219 [(0, AV.vec (Go.Un.Sl.len (pre.app (.cons 6 ByteArray.empty j8 r [] .nil .nil rest))) (n6 (pre.app (.cons 6 ByteArray.empty j8 r [] .nil .nil rest)))), (1, AV.int .i64 deep), (5, AV.int .i64 ((pre.len : Nat) : Int))], h⟩ (Led 219 [(0, AV.vec (Go.Un.Sl.len (pre.app (.cons 6 ByteArray.empty j8 r [] .nil .nil rest))) (n6 (pre.app (.cons 6 ByteArray.empty j8 r [] .nil .nil rest)))), (1, AV.int .i64 deep), (5, AV.int .i64 ((pre.len : Nat) : Int))] (h)) := by
  have hlc := @s6 pre 6 ByteArray.empty j8 r [] .nil .nil rest
  have hdc := @dU 6 ByteArray.empty j8 r [] .nil .nil rest
  refine c162z ?_
  refine c90z ?_
  refine c180z ?_
  refine c60z ?_
  refine .ca rfl rfl (KA hE hR2.toGRes hv hR) ?_
  refine .k 8 [(43, 104), (45, 106), (52, 113), (55, 116)] ?_
  refine .k 8 [(52, 113), (55, 116), (62, 123)] ?_
  refine .m [(62, 123), (65, 126)] ?_
  refine c179z ?_
  refine c189z ?_
  exact .mk _ rfl
end
section
attribute [local go_sem] dW
variable {vs : List BA} {deep : Int} {pre rest : Sl}
theorem c_okK7 (hE : qN E) (hR2 : oZ E) (hv : u6 vs) (hd0 : 0 ≤ deep) (e : Ex) (he : GE vs 2 e) (th el : Sl) (hth : GS E th vs) (hel : GS E el vs) (ith : (∀ (vars : List BA) (deep : Int), u6 vars → GS E th vars → 0 ≤ deep → deep + (th.dep : Int) ≤ 23 → ∀ h : c6, CB 79 [.vec th.len (n6 th), .int .i64 deep] h (.bool true))) (iel : (∀ (vars : List BA) (deep : Int), u6 vars → GS E el vars → 0 ≤ deep → deep + (el.dep : Int) ≤ 23 → ∀ h : c6, CB 79 [.vec el.len (n6 el), .int .i64 deep] h (.bool true))) (hl : (pre.app (.cons 7 ByteArray.empty e l5 [] th el rest)).len < 100000) (hdp : deep + ((Sl.cons 7 ByteArray.empty e l5 [] th el rest).dep : Int) ≤ 23) : c9 Tryz.prog cfg (oP [1, 1, 0, 1, 0, 0, 1, 0] (gZ Tryz.f79)) ⟨mkS 219 [(0, AV.vec (Go.Un.Sl.len (pre.app (.cons 7 ByteArray.empty e l5 [] th el rest))) (n6 (pre.app (.cons 7 ByteArray.empty e l5 [] th el rest)))), (1, AV.int .i64 deep), (5, AV.int .i64 ((pre.len : Nat) : Int))], h⟩ (Led 219 [(0, AV.vec (Go.Un.Sl.len (pre.app (.cons 7 ByteArray.empty e l5 [] th el rest))) (n6 (pre.app (.cons 7 ByteArray.empty e l5 [] th el rest)))), (1, AV.int .i64 deep), (5, AV.int .i64 ((pre.len : Nat) : Int))] (h)) := by
  have hlc := @s6 pre 7 ByteArray.empty e l5 [] th el rest
  have hdc := @dU 7 ByteArray.empty e l5 [] th el rest
  refine c162z ?_
  refine c90z ?_
  refine .k 5 [(24, 85), (26, 87)] ?_
  refine c175z ?_
  refine c93z ?_
  refine c92z ?_
  refine c179z ?_
  refine .k 6 [(1, 183)] ?_
  refine .ca rfl rfl (ith vs (deep + 1) hv hth (by omega) (by omega) _) ?_
  refine .k 8 [(1, 183), (9, 191), (12, 194)] ?_
  refine .k 8 [(9, 191), (12, 194), (19, 201)] ?_
  refine .k 2 [(19, 201)] ?_
  refine .spl 206 rfl rfl (fun e1 => ?_) (fun e1 => ?_)
  ·try simp only [e1]
   have qe1 := fact e1
   refine .k 7 [(24, 206), (27, 209)] ?_
   refine .ca rfl rfl (iel vs (deep + 1) hv hel (by omega) (by omega) _) ?_
   refine c124z ?_
   exact .mk _ rfl
  try simp only [e1]
  have qe1 := fact e1
  refine .k 8 [(24, 206), (27, 209)] ?_
  refine c124z ?_
  exact .mk _ rfl
end
section
attribute [local go_sem] dW
variable {vs : List BA} {deep : Int} {pre rest : Sl}
theorem c_okK8 (hE : qN E) (hR2 : oZ E) (hv : u6 vs) (hd0 : 0 ≤ deep) (e : Ex) (he : GE vs 2 e) (th : Sl) (hth : GS E th vs) (ith : (∀ (vars : List BA) (deep : Int), u6 vars → GS E th vars → 0 ≤ deep → deep + (th.dep : Int) ≤ 23 → ∀ h : c6, CB 79 [.vec th.len (n6 th), .int .i64 deep] h (.bool true))) (hl : (pre.app (.cons 8 ByteArray.empty e l5 [] th .nil rest)).len < 100000) (hdp : deep + ((Sl.cons 8 ByteArray.empty e l5 [] th .nil rest).dep : Int) ≤ 23) : c9 Tryz.prog cfg (oP [1, 1, 0, 1, 0, 0, 1, 0] (gZ Tryz.f79)) ⟨mkS 219 [(0, AV.vec (Go.Un.Sl.len (pre.app (.cons 8 ByteArray.empty e l5 [] th .nil rest))) (n6 (pre.app (.cons 8 ByteArray.empty e l5 [] th .nil rest)))), (1, AV.int .i64 deep), (5, AV.int .i64 ((pre.len : Nat) : Int))], h⟩ (Led 219 [(0, AV.vec (Go.Un.Sl.len (pre.app (.cons 8 ByteArray.empty e l5 [] th .nil rest))) (n6 (pre.app (.cons 8 ByteArray.empty e l5 [] th .nil rest)))), (1, AV.int .i64 deep), (5, AV.int .i64 ((pre.len : Nat) : Int))] (h)) := by
  have hlc := @s6 pre 8 ByteArray.empty e l5 [] th .nil rest
  have hdc := @dU 8 ByteArray.empty e l5 [] th .nil rest
  refine c162z ?_
  refine c90z ?_
  refine .k 5 [(24, 85), (26, 87)] ?_
  refine c175z ?_
  refine c93z ?_
  refine c92z ?_
  refine c179z ?_
  refine .k 6 [(1, 183)] ?_
  refine .ca rfl rfl (ith vs (deep + 1) hv hth (by omega) (by omega) _) ?_
  refine .k 8 [(1, 183), (9, 191), (12, 194)] ?_
  refine c165z ?_
  exact .mk _ rfl
end
section
attribute [local go_sem] dW
variable {vs : List BA} {deep : Int} {pre rest : Sl}
theorem c_okK9 (hE : qN E) (hR2 : oZ E) (hv : u6 vs) (hd0 : 0 ≤ deep)  (hl : (pre.app (.cons 9 ByteArray.empty j8 l5 [] .nil .nil rest)).len < 100000) (hdp : deep + ((Sl.cons 9 ByteArray.empty j8 l5 [] .nil .nil rest).dep : Int) ≤ 23) : c9 Tryz.prog cfg (oP [1, 1, 0, 1, 0, 0, 1, 0] (gZ Tryz.f79)) ⟨mkS 219 [(0, AV.vec (Go.Un.Sl.len (pre.app (.cons 9 ByteArray.empty j8 l5 [] .nil .nil rest))) (n6 (pre.app (.cons 9 ByteArray.empty j8 l5 [] .nil .nil rest)))), (1, AV.int .i64 deep), (5, AV.int .i64 ((pre.len : Nat) : Int))], h⟩ (Led 219 [(0, AV.vec (Go.Un.Sl.len (pre.app (.cons 9 ByteArray.empty j8 l5 [] .nil .nil rest))) (n6 (pre.app (.cons 9 ByteArray.empty j8 l5 [] .nil .nil rest)))), (1, AV.int .i64 deep), (5, AV.int .i64 ((pre.len : Nat) : Int))] (h)) := by
  have hlc := @s6 pre 9 ByteArray.empty j8 l5 [] .nil .nil rest
  have hdc := @dU 9 ByteArray.empty j8 l5 [] .nil .nil rest
  refine c162z ?_
  refine c90z ?_
  refine c180z ?_
  refine c60z ?_
  refine c169z ?_
  refine c92z ?_
  refine c179z ?_
  refine c189z ?_
  exact .mk _ rfl
end
variable {vs : List BA} {deep : Int} {pre rest : Sl}
theorem c_okRow (hE : qN E) (hR2 : oZ E) (hv : u6 vs) (hd0 : 0 ≤ deep) {k : Int} {n : BA} {th el : Sl} (hG : GS E (.cons k n e r xs th el rest) vs) (hl : (pre.app (.cons k n e r xs th el rest)).len < 100000) (hdp : deep + ((Sl.cons k n e r xs th el rest).dep : Int) ≤ 23) (ih : ∀ T : Sl, (T = th ∨ T = el) → (∀ (vars : List BA) (deep : Int), u6 vars → GS E T vars → 0 ≤ deep → deep + (T.dep : Int) ≤ 23 → ∀ h : c6, CB 79 [.vec T.len (n6 T), .int .i64 deep] h (.bool true))) : c9 Tryz.prog cfg (oP [1, 1, 0, 1, 0, 0, 1, 0] (gZ Tryz.f79)) ⟨mkS 219 [(0, AV.vec (Go.Un.Sl.len (pre.app (.cons k n e r xs th el rest))) (n6 (pre.app (.cons k n e r xs th el rest)))), (1, AV.int .i64 deep), (5, AV.int .i64 ((pre.len : Nat) : Int))], h⟩ (Led 219 [(0, AV.vec (Go.Un.Sl.len (pre.app (.cons k n e r xs th el rest))) (n6 (pre.app (.cons k n e r xs th el rest)))), (1, AV.int .i64 deep), (5, AV.int .i64 ((pre.len : Nat) : Int))] h) := by
  rcases hG with ⟨rfl, ⟨j, hj, rfl⟩, hn, he, rfl, rfl, rfl, rfl, hr⟩ | ⟨rfl, hn, he, rfl, rfl, rfl, rfl, hr⟩ | ⟨rfl | rfl, ⟨f, hf, rfl, ha⟩, rfl, rfl, rfl, rfl, hr⟩ | ⟨rfl | rfl, rfl, rfl, hR, rfl, rfl, rfl, hr⟩ | ⟨rfl, rfl, he, rfl, rfl, hth, hel, hr⟩ | ⟨rfl, rfl, he, rfl, rfl, hth, rfl, hr⟩ | ⟨rfl, rfl, rfl, rfl, rfl, rfl, rfl, hr⟩
  · exact c_okK1 hE hR2 hv hd0 j hj e he hl hdp
  · exact c_okK2 hE hR2 hv hd0 n hn e he hl hdp
  · exact c_okK3 hE hR2 hv hd0 f hf xs ha hl hdp
  · exact c_okK4 hE hR2 hv hd0 f hf xs ha hl hdp
  · exact c_okK5 hE hR2 hv hd0 r hR hl hdp
  · exact c_okK6 hE hR2 hv hd0 r hR hl hdp
  · exact c_okK7 hE hR2 hv hd0 e he th el hth hel (ih _ (.inl rfl)) (ih _ (.inr rfl)) hl hdp
  · exact c_okK8 hE hR2 hv hd0 e he th hth (ih _ (.inl rfl)) hl hdp
  · exact c_okK9 hE hR2 hv hd0  hl hdp
theorem GS.next (hv : u6 vs) {k : Int} {n : BA} {th el : Sl} (hG : GS E (.cons k n e r xs th el rest) vs) : ∃ vs2, u6 vs2 ∧ GS E rest vs2 := by
  rcases hG with ⟨rfl, ⟨j, hj, rfl⟩, hn, he, rfl, rfl, rfl, rfl, hr⟩ | ⟨rfl, hn, he, rfl, rfl, rfl, rfl, hr⟩ | ⟨_, ⟨f, hf, rfl, ha⟩, rfl, rfl, rfl, rfl, hr⟩ | ⟨_, rfl, rfl, hR, rfl, rfl, rfl, hr⟩ | ⟨rfl, rfl, he, rfl, rfl, hth, hel, hr⟩ | ⟨rfl, rfl, he, rfl, rfl, hth, rfl, hr⟩ | ⟨rfl, rfl, rfl, rfl, rfl, rfl, rfl, hr⟩
  · exact ⟨_, hv.snoc hj, hr⟩
  all_goals exact ⟨_, hv, hr⟩
theorem c_okSS (hE : qN E) (hR2 : oZ E) (S : Sl) (ih : ∀ S' : Sl, S'.wt < S.wt → (∀ (vars : List BA) (deep : Int), u6 vars → GS E S' vars → 0 ≤ deep → deep + (S'.dep : Int) ≤ 23 → ∀ h : c6, CB 79 [.vec S'.len (n6 S'), .int .i64 deep] h (.bool true))) (vars : List BA) (deep : Int) (hv0 : u6 vars) (hG0 : GS E S vars) (hd0 : 0 ≤ deep) (hd : deep + (S.dep : Int) ≤ 23) (hw : S.wt ≤ 1000) : CB 79 [.vec S.len (n6 S), .int .i64 deep] h (.bool true) := by
  refine .bz Tryz.f79 219 ?_
  have hlw := cA S
  refine c85z ?_
  refine uFbz ?_
  intro e1 qe1
  refine .sk ?_
  refine c5z ?_
  refine .aW (fun m st => ∃ (Z : Sl) (pre : Sl) (rst : Sl) (vs : List BA), (m = rst.len ∧ (Z = S ∧ S = pre.app rst ∧ GS E rst vs ∧ u6 vs ∧ deep + (rst.dep : Int) ≤ 23)) ∧ st = ⟨mkS 219 [(0, AV.vec (Go.Un.Sl.len Z) (n6 Z)), (1, AV.int .i64 deep), (5, AV.int .i64 ((pre.len : Nat) : Int))], h⟩) (.v ⟨S, Sl.nil, S, vars, ⟨rfl, ⟨rfl, rfl, hG0, hv0, by omega⟩⟩, rfl⟩ (hs := t9)) ?_
  rintro m sl h' ⟨Z, pre, rst, vs, ⟨hm, ⟨hZ, hS, hG, hv, hdp⟩⟩, hst⟩
  obtain ⟨rfl, rfl⟩ := St.mk.inj hst; clear hst
  subst hZ
  have hlen := congrArg Go.Un.Sl.len hS; rw [Go.Un.Sl.bC] at hlen
  refine c0z ?_
  refine u2z ?_ ?_
  ·intro e2 qe2
   refine c183z ?_
   obtain ⟨k, n, e, r, xs, th, el, rest, rfl⟩ := Go.Un.Sl.mE (s := rst) (by omega)
   subst hS
   have hwc := @E3 pre k n e r xs th el rest
   have hlc := @s6 pre k n e r xs th el rest
   have hdc := @dU k n e r xs th el rest
   obtain ⟨vs2, hv2, hr2⟩ := GS.next hv hG
   refine c9.fitS [(0, AV.vec (Go.Un.Sl.len (pre.app (.cons k n e r xs th el rest))) (n6 (pre.app (.cons k n e r xs th el rest)))), (1, AV.int .i64 deep), (5, AV.int .i64 ((pre.len : Nat) : Int))] ?_
   refine c9.led (c_okRow hE hR2 hv hd0 (pre := pre) hG (by omega) hdp (fun T hT => ih T (by rcases hT with rfl | rfl <;> omega))) ?_
   intro lq hq haq
   change c9 ..
   refine c9.fitS [(0, AV.vec (Go.Un.Sl.len (pre.app (.cons k n e r xs th el rest))) (n6 (pre.app (.cons k n e r xs th el rest)))), (1, AV.int .i64 deep), (5, AV.int .i64 ((pre.len : Nat) : Int))] ?_ haq
   refine .rz ?_
   exact ⟨_, by omega, .v ⟨_, (pre.app (.cons k n e r xs th el .nil)), rest, vs2, ⟨rfl, ⟨rfl, dF, hr2, hv2, by omega⟩⟩, rfl⟩ (he := by rfl) (hs := t9)⟩
  intro e2 qe2
  refine c9z ?_
  refine .z ?_
  exact .ret (.ex (hq := by rfl))
theorem c_okS {E : Env} (hE : qN E) (hR2 : oZ E) : ∀ (n : Nat) (S : Sl), S.wt ≤ n → n ≤ 1000 → ∀ (vars : List BA) (deep : Int), u6 vars → GS E S vars → 0 ≤ deep → deep + (S.dep : Int) ≤ 23 → ∀ h : c6, CB 79 [.vec S.len (n6 S), .int .i64 deep] h (.bool true)
  | n, S, hn, h1, vars, deep, hv, hG, hd0, hd, h => by
    refine c_okSS hE hR2 S (fun S' hS' => ?_) vars deep hv hG hd0 hd (by omega)
    cases n with
    | zero => omega
    | succ n => exact c_okS hE hR2 n S' (by omega) (by omega)
end Go.Proofs.YtfbjlfhjkojmkaaGreat
end
