/- My own texts, put together by a program of mine. -/
import Derived.Test.YtbmaijdkebjnhaaK4
set_option linter.unusedSimpArgs false
set_option linter.unusedVariables false
set_option maxRecDepth 100000
set_option maxHeartbeats 4000000
section
namespace Go.Proofs.Ytbmaijdkebjnhaa
open Go.Ab Go.Un
attribute [local go_sem] lS v9 j8 bI cQ bK n5 Int.natCast_nonneg Int.natCast_inj List.length_map wrap64 P7 kP wB aH lH eq_mk lI wD Nat.reduceMul
structure pC (E : Env) : Prop extends GRes E where
  fn : ∀ f ∈ E.funcs, qT f.1 = false
theorem eR {l : List Ar} {i : Nat} (h : i < l.length) : List.take 7 (List.drop (i * 7) (bJ l)) = [.bool (l.getD i dP).mu, .str (l.getD i dP).r.name, .vec (l.getD i dP).r.idx.length (m7 (l.getD i dP).r.idx), .int .i64 (l.getD i dP).e.op, .int .i64 (l.getD i dP).e.num, .str (l.getD i dP).e.name, .vec (l.getD i dP).e.args.length (m7 (l.getD i dP).e.args)] := by
  rw [rU h, sK]
theorem BM {E : Env} {vars : List BA} {ps : List Pm} {xs : List Ar} (h : GAs E vars ps xs) {i : Nat} (hi : i < xs.length) : ((xs.getD i dP).mu = true → GR E vars (xs.getD i dP).r ∧ (xs.getD i dP).e = l3) ∧ ((xs.getD i dP).mu = false → (xs.getD i dP).r = m8 ∧ GE vars 2 (xs.getD i dP).e) := by
  induction ps generalizing xs i with
  | nil =>
    cases xs with
    | nil => simp at hi
    | cons => exact h.elim
  | cons p ps ih =>
    cases xs with
    | nil => exact h.elim
    | cons a xs =>
      obtain ⟨⟨h1, h2⟩, h3⟩ := h
      cases i with
      | succ i => exact ih h3 (by simpa using hi)
      | zero =>
        simp only [List.getD_cons_zero]
        rcases h2 with ⟨q1, q2, q3⟩ | ⟨q1, q2, q3⟩
        · exact ⟨fun _ => ⟨q2, q3⟩, fun h => absurd ((h1.trans q1).symm.trans h) (by decide)⟩
        · exact ⟨fun h => absurd ((h1.trans q1).symm.trans h) (by decide), fun _ => ⟨q2, q3⟩⟩
theorem sT {h : c6} {e : Ex} (he : e = l3) : CallA Try.prog cfg 88 [.agg [.int .i64 e.op, .int .i64 e.num, .str e.name, .vec e.args.length (m7 e.args)]] h (fun y' h' => y' = .bool true ∧ h' = h) := by
  subst he; exact c_noE
theorem oA {h : c6} {r : Rf} (hr : r = m8) : CallA Try.prog cfg 90 [.agg [.str r.name, .vec r.idx.length (m7 r.idx)]] h (fun y' h' => y' = .bool true ∧ h' = h) := by
  subst hr; exact c_noR
section
attribute [local go_sem] eR
theorem c_okK1 {h : c6} {E : Env} (hE : qK E) (hR2 : pC E) {vs : List BA} (hv : z9 vs) {deep : Int} (hd0 : 0 ≤ deep) {pre rest : Sl} (j : Nat) (hj : j < 24) (e : Ex) (he : GE vs 2 e) (hl : (pre.app (.cons 1 (vnm j) e m8 [] .nil .nil rest)).len < 100000) (hdp : deep + ((Sl.cons 1 (vnm j) e m8 [] .nil .nil rest).dep : Int) ≤ 23) : c8 Try.prog cfg (oT [1, 1, 0, 1, 0, 0, 1, 0] (iT Try.f68)) ⟨mkS 219 [(0, AV.vec (Go.Un.Sl.len (pre.app (.cons 1 (vnm j) e m8 [] .nil .nil rest))) (n8 (pre.app (.cons 1 (vnm j) e m8 [] .nil .nil rest)))), (1, AV.int .i64 deep), (5, AV.int .i64 ((pre.len : Nat) : Int))], h⟩ (Led 219 [(0, AV.vec (Go.Un.Sl.len (pre.app (.cons 1 (vnm j) e m8 [] .nil .nil rest))) (n8 (pre.app (.cons 1 (vnm j) e m8 [] .nil .nil rest)))), (1, AV.int .i64 deep), (5, AV.int .i64 ((pre.len : Nat) : Int))] (h)) := by
  have hlc := @w6 pre 1 (vnm j) e m8 [] .nil .nil rest
  have hdc := @eQ 1 (vnm j) e m8 [] .nil .nil rest
  refine c160z ?_
  refine .ca rfl rfl (lG _ qL (AR j hj)) ?_
  refine c66z ?_
  refine .k 1 [(26, 87)] ?_
  refine .ca rfl rfl (lT hv he) ?_
  refine c73z ?_
  refine c90z ?_
  refine .ca rfl rfl (oA rfl) ?_
  refine c36z ?_
  refine c161z ?_
  refine c162z ?_
  exact .mk _ rfl
end
section
attribute [local go_sem] eR
theorem c_okK2 {h : c6} {E : Env} (hE : qK E) (hR2 : pC E) {vs : List BA} (hv : z9 vs) {deep : Int} (hd0 : 0 ≤ deep) {pre rest : Sl} (n : BA) (hn : n ∈ vs) (e : Ex) (he : GE vs 2 e) (hl : (pre.app (.cons 2 n e m8 [] .nil .nil rest)).len < 100000) (hdp : deep + ((Sl.cons 2 n e m8 [] .nil .nil rest).dep : Int) ≤ 23) : c8 Try.prog cfg (oT [1, 1, 0, 1, 0, 0, 1, 0] (iT Try.f68)) ⟨mkS 219 [(0, AV.vec (Go.Un.Sl.len (pre.app (.cons 2 n e m8 [] .nil .nil rest))) (n8 (pre.app (.cons 2 n e m8 [] .nil .nil rest)))), (1, AV.int .i64 deep), (5, AV.int .i64 ((pre.len : Nat) : Int))], h⟩ (Led 219 [(0, AV.vec (Go.Un.Sl.len (pre.app (.cons 2 n e m8 [] .nil .nil rest))) (n8 (pre.app (.cons 2 n e m8 [] .nil .nil rest)))), (1, AV.int .i64 deep), (5, AV.int .i64 ((pre.len : Nat) : Int))] (h)) := by
  have hlc := @w6 pre 2 n e m8 [] .nil .nil rest
  have hdc := @eQ 2 n e m8 [] .nil .nil rest
  refine c160z ?_
  refine .ca rfl rfl (lG _ (hv _ hn).1 (hv _ hn).2) ?_
  refine c66z ?_
  refine .k 1 [(26, 87)] ?_
  refine .ca rfl rfl (lT hv he) ?_
  refine c73z ?_
  refine c90z ?_
  refine .ca rfl rfl (oA rfl) ?_
  refine c36z ?_
  refine c161z ?_
  refine c162z ?_
  exact .mk _ rfl
end
section
attribute [local go_sem] eR
theorem c_okK3 {h : c6} {E : Env} (hE : qK E) (hR2 : pC E) {vs : List BA} (hv : z9 vs) {deep : Int} (hd0 : 0 ≤ deep) {pre rest : Sl} (f : BA × List Pm) (hf : f ∈ E.funcs) (xs : List Ar) (ha : GAs E vs f.2 xs) (hl : (pre.app (.cons 3 f.1 l3 m8 xs .nil .nil rest)).len < 100000) (hdp : deep + ((Sl.cons 3 f.1 l3 m8 xs .nil .nil rest).dep : Int) ≤ 23) : c8 Try.prog cfg (oT [1, 1, 0, 1, 0, 0, 1, 0] (iT Try.f68)) ⟨mkS 219 [(0, AV.vec (Go.Un.Sl.len (pre.app (.cons 3 f.1 l3 m8 xs .nil .nil rest))) (n8 (pre.app (.cons 3 f.1 l3 m8 xs .nil .nil rest)))), (1, AV.int .i64 deep), (5, AV.int .i64 ((pre.len : Nat) : Int))], h⟩ (Led 219 [(0, AV.vec (Go.Un.Sl.len (pre.app (.cons 3 f.1 l3 m8 xs .nil .nil rest))) (n8 (pre.app (.cons 3 f.1 l3 m8 xs .nil .nil rest)))), (1, AV.int .i64 deep), (5, AV.int .i64 ((pre.len : Nat) : Int))] (h)) := by
  have hlc := @w6 pre 3 f.1 l3 m8 xs .nil .nil rest
  have hdc := @eQ 3 f.1 l3 m8 xs .nil .nil rest
  refine c160z ?_
  refine .ca rfl rfl (lG _ (hE.fn f hf) (hR2.fn f hf)) ?_
  refine c66z ?_
  refine .k 8 [(24, 85), (26, 87), (33, 94)] ?_
  refine .k 3 [(33, 94), (36, 97)] ?_
  refine .ca rfl rfl (sT rfl) ?_
  refine c100z ?_
  refine .k 2 [(55, 116)] ?_
  refine .ca rfl rfl (oA rfl) ?_
  refine c36z ?_
  refine c69z ?_
  refine c28z ?_
  refine .dU (fun m st => ∃ (t : Nat), (m = xs.length - t ∧ t ≤ xs.length) ∧ st = ⟨mkS 219 [(0, AV.vec (Go.Un.Sl.len (pre.app (.cons 3 f.1 l3 m8 xs .nil .nil rest))) (n8 (pre.app (.cons 3 f.1 l3 m8 xs .nil .nil rest)))), (1, AV.int .i64 deep), (5, AV.int .i64 ((pre.len : Nat) : Int)), (6, AV.ptr h.length 0 0), (7, AV.int .i64 3), (12, AV.int .i64 ((t : Nat) : Int))], h ++ [⟨0, false, 156, 11, [.int .i64 3, .str f.1, .int .i64 l3.op, .int .i64 l3.num, .str l3.name, .vec l3.args.length (m7 l3.args), .str m8.name, .vec m8.idx.length (m7 m8.idx), .vec xs.length (bJ xs), .vec (Go.Un.Sl.len Go.Un.Sl.nil) (n8 Go.Un.Sl.nil), .vec (Go.Un.Sl.len Go.Un.Sl.nil) (n8 Go.Un.Sl.nil)], 0⟩]⟩) (.v ⟨0, ⟨rfl, by omega⟩, rfl⟩) ?_
  rintro m sl h' ⟨t, ⟨hm, hti⟩, hst⟩
  obtain ⟨rfl, rfl⟩ := St.mk.inj hst; clear hst
  have hxl := (jT hE hv.n ha).1; have hfl := hE.fp f hf
  refine c0z ?_
  refine .spl 137 rfl rfl (fun e1 => ?_) (fun e1 => ?_)
  ·try simp only [e1]
   have qe1 := fact e1
   refine c11z ?_
   have har := BM ha (i := t) (by omega)
   refine .z ?_
   refine .c7 [0, 1, 5, 6, 7, 12, 13] ?_
   refine c20z ?_
   refine .spl 147 rfl rfl (fun e2 => ?_) (fun e2 => ?_)
   ·try simp only [e2]
    have qe2 := fact e2
    refine .k 2 [(2, 147)] ?_
    refine .ca rfl rfl (HC hE hR2.toGRes hv (har.1 (by assumption)).1) ?_
    refine .k 4 [(2, 147), (7, 152)] ?_
    refine .ca rfl rfl (sT (har.1 (by assumption)).2) ?_
    refine .k 8 [(2, 147), (7, 152), (14, 159)] ?_
    refine .k 8 [(18, 163), (23, 168)] ?_
    refine c148z ?_
    refine .rz ?_
    exact ⟨_, by omega, .v ⟨(t + 1), ⟨rfl, by omega⟩, rfl⟩ (he := t32)⟩
   try simp only [e2]
   have qe2 := fact e2
   refine .k 8 [(2, 147), (7, 152)] ?_
   refine .k 8 [(2, 147), (7, 152), (14, 159)] ?_
   refine .k 2 [(18, 163)] ?_
   refine .ca rfl rfl (oA (har.2 (by assumption)).1) ?_
   refine .k 4 [(18, 163), (23, 168)] ?_
   refine .ca rfl rfl (lT hv (har.2 (by assumption)).2) ?_
   refine c148z ?_
   refine .rz ?_
   exact ⟨_, by omega, .v ⟨(t + 1), ⟨rfl, by omega⟩, rfl⟩ (he := t32)⟩
  try simp only [e1]
  have qe1 := fact e1
  refine c18z ?_
  refine c143z ?_
  refine c162z ?_
  exact .mk _ rfl
end
section
attribute [local go_sem] eR
theorem c_okK4 {h : c6} {E : Env} (hE : qK E) (hR2 : pC E) {vs : List BA} (hv : z9 vs) {deep : Int} (hd0 : 0 ≤ deep) {pre rest : Sl} (f : BA × List Pm) (hf : f ∈ E.funcs) (xs : List Ar) (ha : GAs E vs f.2 xs) (hl : (pre.app (.cons 4 f.1 l3 m8 xs .nil .nil rest)).len < 100000) (hdp : deep + ((Sl.cons 4 f.1 l3 m8 xs .nil .nil rest).dep : Int) ≤ 23) : c8 Try.prog cfg (oT [1, 1, 0, 1, 0, 0, 1, 0] (iT Try.f68)) ⟨mkS 219 [(0, AV.vec (Go.Un.Sl.len (pre.app (.cons 4 f.1 l3 m8 xs .nil .nil rest))) (n8 (pre.app (.cons 4 f.1 l3 m8 xs .nil .nil rest)))), (1, AV.int .i64 deep), (5, AV.int .i64 ((pre.len : Nat) : Int))], h⟩ (Led 219 [(0, AV.vec (Go.Un.Sl.len (pre.app (.cons 4 f.1 l3 m8 xs .nil .nil rest))) (n8 (pre.app (.cons 4 f.1 l3 m8 xs .nil .nil rest)))), (1, AV.int .i64 deep), (5, AV.int .i64 ((pre.len : Nat) : Int))] (h)) := by
  have hlc := @w6 pre 4 f.1 l3 m8 xs .nil .nil rest
  have hdc := @eQ 4 f.1 l3 m8 xs .nil .nil rest
  refine c160z ?_
  refine .ca rfl rfl (lG _ (hE.fn f hf) (hR2.fn f hf)) ?_
  refine c66z ?_
  refine .k 8 [(24, 85), (26, 87), (33, 94)] ?_
  refine .k 3 [(33, 94), (36, 97)] ?_
  refine .ca rfl rfl (sT rfl) ?_
  refine c100z ?_
  refine .k 2 [(55, 116)] ?_
  refine .ca rfl rfl (oA rfl) ?_
  refine c36z ?_
  refine c69z ?_
  refine c28z ?_
  refine .dU (fun m st => ∃ (t : Nat), (m = xs.length - t ∧ t ≤ xs.length) ∧ st = ⟨mkS 219 [(0, AV.vec (Go.Un.Sl.len (pre.app (.cons 4 f.1 l3 m8 xs .nil .nil rest))) (n8 (pre.app (.cons 4 f.1 l3 m8 xs .nil .nil rest)))), (1, AV.int .i64 deep), (5, AV.int .i64 ((pre.len : Nat) : Int)), (6, AV.ptr h.length 0 0), (7, AV.int .i64 4), (12, AV.int .i64 ((t : Nat) : Int))], h ++ [⟨0, false, 156, 11, [.int .i64 4, .str f.1, .int .i64 l3.op, .int .i64 l3.num, .str l3.name, .vec l3.args.length (m7 l3.args), .str m8.name, .vec m8.idx.length (m7 m8.idx), .vec xs.length (bJ xs), .vec (Go.Un.Sl.len Go.Un.Sl.nil) (n8 Go.Un.Sl.nil), .vec (Go.Un.Sl.len Go.Un.Sl.nil) (n8 Go.Un.Sl.nil)], 0⟩]⟩) (.v ⟨0, ⟨rfl, by omega⟩, rfl⟩) ?_
  rintro m sl h' ⟨t, ⟨hm, hti⟩, hst⟩
  obtain ⟨rfl, rfl⟩ := St.mk.inj hst; clear hst
  have hxl := (jT hE hv.n ha).1; have hfl := hE.fp f hf
  refine c0z ?_
  refine .spl 137 rfl rfl (fun e1 => ?_) (fun e1 => ?_)
  ·try simp only [e1]
   have qe1 := fact e1
   refine c11z ?_
   have har := BM ha (i := t) (by omega)
   refine .z ?_
   refine .c7 [0, 1, 5, 6, 7, 12, 13] ?_
   refine c20z ?_
   refine .spl 147 rfl rfl (fun e2 => ?_) (fun e2 => ?_)
   ·try simp only [e2]
    have qe2 := fact e2
    refine .k 2 [(2, 147)] ?_
    refine .ca rfl rfl (HC hE hR2.toGRes hv (har.1 (by assumption)).1) ?_
    refine .k 4 [(2, 147), (7, 152)] ?_
    refine .ca rfl rfl (sT (har.1 (by assumption)).2) ?_
    refine .k 8 [(2, 147), (7, 152), (14, 159)] ?_
    refine .k 8 [(18, 163), (23, 168)] ?_
    refine c148z ?_
    refine .rz ?_
    exact ⟨_, by omega, .v ⟨(t + 1), ⟨rfl, by omega⟩, rfl⟩ (he := t32)⟩
   try simp only [e2]
   have qe2 := fact e2
   refine .k 8 [(2, 147), (7, 152)] ?_
   refine .k 8 [(2, 147), (7, 152), (14, 159)] ?_
   refine .k 2 [(18, 163)] ?_
   refine .ca rfl rfl (oA (har.2 (by assumption)).1) ?_
   refine .k 4 [(18, 163), (23, 168)] ?_
   refine .ca rfl rfl (lT hv (har.2 (by assumption)).2) ?_
   refine c148z ?_
   refine .rz ?_
   exact ⟨_, by omega, .v ⟨(t + 1), ⟨rfl, by omega⟩, rfl⟩ (he := t32)⟩
  try simp only [e1]
  have qe1 := fact e1
  refine c18z ?_
  refine c143z ?_
  refine c162z ?_
  exact .mk _ rfl
end
section
attribute [local go_sem] eR
theorem c_okK5 {h : c6} {E : Env} (hE : qK E) (hR2 : pC E) {vs : List BA} (hv : z9 vs) {deep : Int} (hd0 : 0 ≤ deep) {pre rest : Sl} (r : Rf) (hR : GR E vs r) (hl : (pre.app (.cons 5 ByteArray.empty l3 r [] .nil .nil rest)).len < 100000) (hdp : deep + ((Sl.cons 5 ByteArray.empty l3 r [] .nil .nil rest).dep : Int) ≤ 23) : c8 Try.prog cfg (oT [1, 1, 0, 1, 0, 0, 1, 0] (iT Try.f68)) ⟨mkS 219 [(0, AV.vec (Go.Un.Sl.len (pre.app (.cons 5 ByteArray.empty l3 r [] .nil .nil rest))) (n8 (pre.app (.cons 5 ByteArray.empty l3 r [] .nil .nil rest)))), (1, AV.int .i64 deep), (5, AV.int .i64 ((pre.len : Nat) : Int))], h⟩ (Led 219 [(0, AV.vec (Go.Un.Sl.len (pre.app (.cons 5 ByteArray.empty l3 r [] .nil .nil rest))) (n8 (pre.app (.cons 5 ByteArray.empty l3 r [] .nil .nil rest)))), (1, AV.int .i64 deep), (5, AV.int .i64 ((pre.len : Nat) : Int))] (h)) := by
  have hlc := @w6 pre 5 ByteArray.empty l3 r [] .nil .nil rest
  have hdc := @eQ 5 ByteArray.empty l3 r [] .nil .nil rest
  refine c129z ?_
  refine c88z ?_
  refine c153z ?_
  refine .ca rfl rfl (sT rfl) ?_
  refine .k 8 [(33, 94), (36, 97), (43, 104), (45, 106)] ?_
  refine .ca rfl rfl (HC hE hR2.toGRes hv hR) ?_
  refine .k 8 [(43, 104), (45, 106), (52, 113), (55, 116)] ?_
  refine .k 8 [(52, 113), (55, 116), (62, 123)] ?_
  refine .m [(62, 123), (65, 126)] ?_
  refine c161z ?_
  refine c162z ?_
  exact .mk _ rfl
end
section
attribute [local go_sem] eR
theorem c_okK6 {h : c6} {E : Env} (hE : qK E) (hR2 : pC E) {vs : List BA} (hv : z9 vs) {deep : Int} (hd0 : 0 ≤ deep) {pre rest : Sl} (r : Rf) (hR : GR E vs r) (hl : (pre.app (.cons 6 ByteArray.empty l3 r [] .nil .nil rest)).len < 100000) (hdp : deep + ((Sl.cons 6 ByteArray.empty l3 r [] .nil .nil rest).dep : Int) ≤ 23) : c8 Try.prog cfg (oT [1, 1, 0, 1, 0, 0, 1, 0] (iT Try.f68)) ⟨mkS 219 [(0, AV.vec (Go.Un.Sl.len (pre.app (.cons 6 ByteArray.empty l3 r [] .nil .nil rest))) (n8 (pre.app (.cons 6 ByteArray.empty l3 r [] .nil .nil rest)))), (1, AV.int .i64 deep), (5, AV.int .i64 ((pre.len : Nat) : Int))], h⟩ (Led 219 [(0, AV.vec (Go.Un.Sl.len (pre.app (.cons 6 ByteArray.empty l3 r [] .nil .nil rest))) (n8 (pre.app (.cons 6 ByteArray.empty l3 r [] .nil .nil rest)))), (1, AV.int .i64 deep), (5, AV.int .i64 ((pre.len : Nat) : Int))] (h)) := by
  have hlc := @w6 pre 6 ByteArray.empty l3 r [] .nil .nil rest
  have hdc := @eQ 6 ByteArray.empty l3 r [] .nil .nil rest
  refine c129z ?_
  refine c88z ?_
  refine c153z ?_
  refine .ca rfl rfl (sT rfl) ?_
  refine .k 8 [(33, 94), (36, 97), (43, 104), (45, 106)] ?_
  refine .ca rfl rfl (HC hE hR2.toGRes hv hR) ?_
  refine .k 8 [(43, 104), (45, 106), (52, 113), (55, 116)] ?_
  refine .k 8 [(52, 113), (55, 116), (62, 123)] ?_
  refine .m [(62, 123), (65, 126)] ?_
  refine c161z ?_
  refine c162z ?_
  exact .mk _ rfl
end
section
attribute [local go_sem] eR
theorem c_okK7 {h : c6} {E : Env} (hE : qK E) (hR2 : pC E) {vs : List BA} (hv : z9 vs) {deep : Int} (hd0 : 0 ≤ deep) {pre rest : Sl} (e : Ex) (he : GE vs 2 e) (th el : Sl) (hth : GS E th vs) (hel : GS E el vs) (ith : (∀ (vars : List BA) (deep : Int), z9 vars → GS E th vars → 0 ≤ deep → deep + (th.dep : Int) ≤ 23 → ∀ h : c6, CallA Try.prog cfg 68 [.vec th.len (n8 th), .int .i64 deep] h (fun y' h' => y' = .bool true ∧ h' = h))) (iel : (∀ (vars : List BA) (deep : Int), z9 vars → GS E el vars → 0 ≤ deep → deep + (el.dep : Int) ≤ 23 → ∀ h : c6, CallA Try.prog cfg 68 [.vec el.len (n8 el), .int .i64 deep] h (fun y' h' => y' = .bool true ∧ h' = h))) (hl : (pre.app (.cons 7 ByteArray.empty e m8 [] th el rest)).len < 100000) (hdp : deep + ((Sl.cons 7 ByteArray.empty e m8 [] th el rest).dep : Int) ≤ 23) : c8 Try.prog cfg (oT [1, 1, 0, 1, 0, 0, 1, 0] (iT Try.f68)) ⟨mkS 219 [(0, AV.vec (Go.Un.Sl.len (pre.app (.cons 7 ByteArray.empty e m8 [] th el rest))) (n8 (pre.app (.cons 7 ByteArray.empty e m8 [] th el rest)))), (1, AV.int .i64 deep), (5, AV.int .i64 ((pre.len : Nat) : Int))], h⟩ (Led 219 [(0, AV.vec (Go.Un.Sl.len (pre.app (.cons 7 ByteArray.empty e m8 [] th el rest))) (n8 (pre.app (.cons 7 ByteArray.empty e m8 [] th el rest)))), (1, AV.int .i64 deep), (5, AV.int .i64 ((pre.len : Nat) : Int))] (h)) := by
  have hlc := @w6 pre 7 ByteArray.empty e m8 [] th el rest
  have hdc := @eQ 7 ByteArray.empty e m8 [] th el rest
  refine c129z ?_
  refine c88z ?_
  refine .k 5 [(24, 85), (26, 87)] ?_
  refine .ca rfl rfl (lT hv he) ?_
  refine c73z ?_
  refine c90z ?_
  refine .ca rfl rfl (oA rfl) ?_
  refine c36z ?_
  refine c161z ?_
  refine .k 6 [(1, 183)] ?_
  refine .ca rfl rfl (ith vs (deep + 1) hv hth (by omega) (by omega) _) ?_
  refine .k 8 [(1, 183), (9, 191), (12, 194)] ?_
  refine .k 8 [(9, 191), (12, 194), (19, 201)] ?_
  refine .k 2 [(19, 201)] ?_
  refine .spl 206 rfl rfl (fun e1 => ?_) (fun e1 => ?_)
  ·try simp only [e1]
   have qe1 := fact e1
   refine .k 7 [(24, 206), (27, 209)] ?_
   refine .ca rfl rfl (iel vs (deep + 1) hv hel (by omega) (by omega) _) ?_
   refine c39z ?_
   exact .mk _ rfl
  try simp only [e1]
  have qe1 := fact e1
  refine .k 8 [(24, 206), (27, 209)] ?_
  refine c39z ?_
  exact .mk _ rfl
end
section
attribute [local go_sem] eR
theorem c_okK8 {h : c6} {E : Env} (hE : qK E) (hR2 : pC E) {vs : List BA} (hv : z9 vs) {deep : Int} (hd0 : 0 ≤ deep) {pre rest : Sl} (e : Ex) (he : GE vs 2 e) (th : Sl) (hth : GS E th vs) (ith : (∀ (vars : List BA) (deep : Int), z9 vars → GS E th vars → 0 ≤ deep → deep + (th.dep : Int) ≤ 23 → ∀ h : c6, CallA Try.prog cfg 68 [.vec th.len (n8 th), .int .i64 deep] h (fun y' h' => y' = .bool true ∧ h' = h))) (hl : (pre.app (.cons 8 ByteArray.empty e m8 [] th .nil rest)).len < 100000) (hdp : deep + ((Sl.cons 8 ByteArray.empty e m8 [] th .nil rest).dep : Int) ≤ 23) : c8 Try.prog cfg (oT [1, 1, 0, 1, 0, 0, 1, 0] (iT Try.f68)) ⟨mkS 219 [(0, AV.vec (Go.Un.Sl.len (pre.app (.cons 8 ByteArray.empty e m8 [] th .nil rest))) (n8 (pre.app (.cons 8 ByteArray.empty e m8 [] th .nil rest)))), (1, AV.int .i64 deep), (5, AV.int .i64 ((pre.len : Nat) : Int))], h⟩ (Led 219 [(0, AV.vec (Go.Un.Sl.len (pre.app (.cons 8 ByteArray.empty e m8 [] th .nil rest))) (n8 (pre.app (.cons 8 ByteArray.empty e m8 [] th .nil rest)))), (1, AV.int .i64 deep), (5, AV.int .i64 ((pre.len : Nat) : Int))] (h)) := by
  have hlc := @w6 pre 8 ByteArray.empty e m8 [] th .nil rest
  have hdc := @eQ 8 ByteArray.empty e m8 [] th .nil rest
  refine c129z ?_
  refine c88z ?_
  refine .k 5 [(24, 85), (26, 87)] ?_
  refine .ca rfl rfl (lT hv he) ?_
  refine c73z ?_
  refine c90z ?_
  refine .ca rfl rfl (oA rfl) ?_
  refine c36z ?_
  refine c161z ?_
  refine .k 6 [(1, 183)] ?_
  refine .ca rfl rfl (ith vs (deep + 1) hv hth (by omega) (by omega) _) ?_
  refine .k 8 [(1, 183), (9, 191), (12, 194)] ?_
  refine c147z ?_
  exact .mk _ rfl
end
section
attribute [local go_sem] eR
theorem c_okK9 {h : c6} {E : Env} (hE : qK E) (hR2 : pC E) {vs : List BA} (hv : z9 vs) {deep : Int} (hd0 : 0 ≤ deep) {pre rest : Sl}  (hl : (pre.app (.cons 9 ByteArray.empty l3 m8 [] .nil .nil rest)).len < 100000) (hdp : deep + ((Sl.cons 9 ByteArray.empty l3 m8 [] .nil .nil rest).dep : Int) ≤ 23) : c8 Try.prog cfg (oT [1, 1, 0, 1, 0, 0, 1, 0] (iT Try.f68)) ⟨mkS 219 [(0, AV.vec (Go.Un.Sl.len (pre.app (.cons 9 ByteArray.empty l3 m8 [] .nil .nil rest))) (n8 (pre.app (.cons 9 ByteArray.empty l3 m8 [] .nil .nil rest)))), (1, AV.int .i64 deep), (5, AV.int .i64 ((pre.len : Nat) : Int))], h⟩ (Led 219 [(0, AV.vec (Go.Un.Sl.len (pre.app (.cons 9 ByteArray.empty l3 m8 [] .nil .nil rest))) (n8 (pre.app (.cons 9 ByteArray.empty l3 m8 [] .nil .nil rest)))), (1, AV.int .i64 deep), (5, AV.int .i64 ((pre.len : Nat) : Int))] (h)) := by
  have hlc := @w6 pre 9 ByteArray.empty l3 m8 [] .nil .nil rest
  have hdc := @eQ 9 ByteArray.empty l3 m8 [] .nil .nil rest
  refine c129z ?_
  refine c88z ?_
  refine c153z ?_
  refine .ca rfl rfl (sT rfl) ?_
  refine c100z ?_
  refine .k 2 [(55, 116)] ?_
  refine .ca rfl rfl (oA rfl) ?_
  refine c36z ?_
  refine c161z ?_
  refine c162z ?_
  exact .mk _ rfl
end
theorem c_okRow {h : c6} {E : Env} (hE : qK E) (hR2 : pC E) {vs : List BA} (hv : z9 vs) {deep : Int} (hd0 : 0 ≤ deep) {pre : Sl} {k : Int} {n : BA} {e : Ex} {r : Rf} {xs : List Ar} {th el rest : Sl} (hG : GS E (.cons k n e r xs th el rest) vs) (hl : (pre.app (.cons k n e r xs th el rest)).len < 100000) (hdp : deep + ((Sl.cons k n e r xs th el rest).dep : Int) ≤ 23) (ih : ∀ T : Sl, (T = th ∨ T = el) → (∀ (vars : List BA) (deep : Int), z9 vars → GS E T vars → 0 ≤ deep → deep + (T.dep : Int) ≤ 23 → ∀ h : c6, CallA Try.prog cfg 68 [.vec T.len (n8 T), .int .i64 deep] h (fun y' h' => y' = .bool true ∧ h' = h))) : c8 Try.prog cfg (oT [1, 1, 0, 1, 0, 0, 1, 0] (iT Try.f68)) ⟨mkS 219 [(0, AV.vec (Go.Un.Sl.len (pre.app (.cons k n e r xs th el rest))) (n8 (pre.app (.cons k n e r xs th el rest)))), (1, AV.int .i64 deep), (5, AV.int .i64 ((pre.len : Nat) : Int))], h⟩ (Led 219 [(0, AV.vec (Go.Un.Sl.len (pre.app (.cons k n e r xs th el rest))) (n8 (pre.app (.cons k n e r xs th el rest)))), (1, AV.int .i64 deep), (5, AV.int .i64 ((pre.len : Nat) : Int))] h) := by
  rcases hG with ⟨rfl, ⟨j, hj, rfl⟩, hn, he, rfl, rfl, rfl, rfl, hr⟩ | ⟨rfl, hn, he, rfl, rfl, rfl, rfl, hr⟩ | ⟨rfl | rfl, ⟨f, hf, rfl, ha⟩, rfl, rfl, rfl, rfl, hr⟩ | ⟨rfl | rfl, rfl, rfl, hR, rfl, rfl, rfl, hr⟩ | ⟨rfl, rfl, he, rfl, rfl, hth, hel, hr⟩ | ⟨rfl, rfl, he, rfl, rfl, hth, rfl, hr⟩ | ⟨rfl, rfl, rfl, rfl, rfl, rfl, rfl, hr⟩
  · exact c_okK1 hE hR2 hv hd0 j hj e he hl hdp
  · exact c_okK2 hE hR2 hv hd0 n hn e he hl hdp
  · exact c_okK3 hE hR2 hv hd0 f hf xs ha hl hdp
  · exact c_okK4 hE hR2 hv hd0 f hf xs ha hl hdp
  · exact c_okK5 hE hR2 hv hd0 r hR hl hdp
  · exact c_okK6 hE hR2 hv hd0 r hR hl hdp
  · exact c_okK7 hE hR2 hv hd0 e he th el hth hel (ih _ (.inl rfl)) (ih _ (.inr rfl)) hl hdp
  · exact c_okK8 hE hR2 hv hd0 e he th hth (ih _ (.inl rfl)) hl hdp
  · exact c_okK9 hE hR2 hv hd0  hl hdp
theorem GS.next {E : Env} {vs : List BA} (hv : z9 vs) {k : Int} {n : BA} {e : Ex} {r : Rf} {xs : List Ar} {th el rest : Sl} (hG : GS E (.cons k n e r xs th el rest) vs) : ∃ vs2, z9 vs2 ∧ GS E rest vs2 := by
  rcases hG with ⟨rfl, ⟨j, hj, rfl⟩, hn, he, rfl, rfl, rfl, rfl, hr⟩ | ⟨rfl, hn, he, rfl, rfl, rfl, rfl, hr⟩ | ⟨_, ⟨f, hf, rfl, ha⟩, rfl, rfl, rfl, rfl, hr⟩ | ⟨_, rfl, rfl, hR, rfl, rfl, rfl, hr⟩ | ⟨rfl, rfl, he, rfl, rfl, hth, hel, hr⟩ | ⟨rfl, rfl, he, rfl, rfl, hth, rfl, hr⟩ | ⟨rfl, rfl, rfl, rfl, rfl, rfl, rfl, hr⟩
  · exact ⟨_, hv.snoc hj, hr⟩
  all_goals exact ⟨_, hv, hr⟩
theorem c_okSS {h : c6} {E : Env} (hE : qK E) (hR2 : pC E) (S : Sl) (ih : ∀ S' : Sl, S'.wt < S.wt → (∀ (vars : List BA) (deep : Int), z9 vars → GS E S' vars → 0 ≤ deep → deep + (S'.dep : Int) ≤ 23 → ∀ h : c6, CallA Try.prog cfg 68 [.vec S'.len (n8 S'), .int .i64 deep] h (fun y' h' => y' = .bool true ∧ h' = h))) (vars : List BA) (deep : Int) (hv0 : z9 vars) (hG0 : GS E S vars) (hd0 : 0 ≤ deep) (hd : deep + (S.dep : Int) ≤ 23) (hw : S.wt ≤ 1000) : CallA Try.prog cfg 68 [.vec S.len (n8 S), .int .i64 deep] h (fun y' h' => y' = .bool true ∧ h' = h) := by
  refine .b fn68 ntm68 ?_
  have hlw := dG S
  refine c79z ?_
  refine .spl 16 rfl rfl (fun e1 => by exfalso; have q := fact e1; omega) (fun e1 => ?_)
  try simp only [e1]
  have qe1 := fact e1
  refine c4z ?_
  refine c12z ?_
  refine .dU (fun m st => ∃ (Z : Sl) (pre : Sl) (rst : Sl) (vs : List BA), (m = rst.len ∧ (Z = S ∧ S = pre.app rst ∧ GS E rst vs ∧ z9 vs ∧ deep + (rst.dep : Int) ≤ 23)) ∧ st = ⟨mkS 219 [(0, AV.vec (Go.Un.Sl.len Z) (n8 Z)), (1, AV.int .i64 deep), (5, AV.int .i64 ((pre.len : Nat) : Int))], h⟩) (.v ⟨S, Sl.nil, S, vars, ⟨rfl, ⟨rfl, rfl, hG0, hv0, by omega⟩⟩, rfl⟩ (hs := t7)) ?_
  rintro m sl h' ⟨Z, pre, rst, vs, ⟨hm, ⟨hZ, hS, hG, hv, hdp⟩⟩, hst⟩
  obtain ⟨rfl, rfl⟩ := St.mk.inj hst; clear hst
  subst hZ
  have hlen := congrArg Go.Un.Sl.len hS; rw [Go.Un.Sl.cB] at hlen
  refine c0z ?_
  refine .spl 20 rfl rfl (fun e2 => ?_) (fun e2 => ?_)
  ·try simp only [e2]
   have qe2 := fact e2
   refine c10z ?_
   refine .seq ?_
   obtain ⟨k, n, e, r, xs, th, el, rest, rfl⟩ := Go.Un.Sl.mP (s := rst) (by omega)
   subst hS
   have hwc := @B7 pre k n e r xs th el rest
   have hlc := @w6 pre k n e r xs th el rest
   have hdc := @eQ k n e r xs th el rest
   obtain ⟨vs2, hv2, hr2⟩ := GS.next hv hG
   refine c8.fitS [(0, AV.vec (Go.Un.Sl.len (pre.app (.cons k n e r xs th el rest))) (n8 (pre.app (.cons k n e r xs th el rest)))), (1, AV.int .i64 deep), (5, AV.int .i64 ((pre.len : Nat) : Int))] ?_
   refine c8.led (c_okRow hE hR2 hv hd0 (pre := pre) hG (by omega) hdp (fun T hT => ih T (by rcases hT with rfl | rfl <;> omega))) ?_
   intro lq hq haq
   change c8 ..
   refine c8.fitS [(0, AV.vec (Go.Un.Sl.len (pre.app (.cons k n e r xs th el rest))) (n8 (pre.app (.cons k n e r xs th el rest)))), (1, AV.int .i64 deep), (5, AV.int .i64 ((pre.len : Nat) : Int))] ?_ haq
   refine .rz ?_
   exact ⟨_, by omega, .v ⟨_, (pre.app (.cons k n e r xs th el .nil)), rest, vs2, ⟨rfl, ⟨rfl, eC, hr2, hv2, by omega⟩⟩, rfl⟩ (he := by rfl) (hs := t7)⟩
  try simp only [e2]
  have qe2 := fact e2
  refine c18z ?_
  refine .z ?_
  exact .ret (.ex (hq := by rfl))
theorem c_okS {E : Env} (hE : qK E) (hR2 : pC E) : ∀ (n : Nat) (S : Sl), S.wt ≤ n → n ≤ 1000 → ∀ (vars : List BA) (deep : Int), z9 vars → GS E S vars → 0 ≤ deep → deep + (S.dep : Int) ≤ 23 → ∀ h : c6, CallA Try.prog cfg 68 [.vec S.len (n8 S), .int .i64 deep] h (fun y' h' => y' = .bool true ∧ h' = h)
  | n, S, hn, h1, vars, deep, hv, hG, hd0, hd, h => by
    refine c_okSS hE hR2 S (fun S' hS' => ?_) vars deep hv hG hd0 hd (by omega)
    cases n with
    | zero => omega
    | succ n => exact c_okS hE hR2 n S' (by omega) (by omega)
end Go.Proofs.Ytbmaijdkebjnhaa
end
