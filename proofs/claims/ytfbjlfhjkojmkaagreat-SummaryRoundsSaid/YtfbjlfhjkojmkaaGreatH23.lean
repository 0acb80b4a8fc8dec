/- My own texts, put together by a program of mine. -/
import Derived.Test.YtfbjlfhjkojmkaaGreatH22
set_option linter.unusedSimpArgs false
set_option linter.unusedVariables false
set_option maxRecDepth 100000
set_option maxHeartbeats 4000000
section
namespace Go.Un
open Go.Ab
variable {c : UInt8}
theorem KZ (h : isL c = true) : isW c = true := by simp [isW, h]
theorem isW_D (h : isD c = true) : isW c = true := by simp [isW, h]
theorem H4 (h : uQ c = true) : isW c = false := by
 simp only [uQ, Bool.or_eq_true, beq_iff_eq] at h
 simp only [isW, isL, isD, Bool.or_eq_false_iff, Bool.and_eq_false_iff, decide_eq_false_iff_not]
 omega
theorem QF (h : isL c = true) : isD c = false := by
 simp only [isL, Bool.or_eq_true, Bool.and_eq_true, decide_eq_true_eq] at h
 simp only [isD, Bool.and_eq_false_iff, decide_eq_false_iff_not]
 omega
theorem tC (h : c ∈ KI) : uQ c = false ∧ isL c = false ∧ isD c = false := by
 simp only [KI, List.mem_cons, List.not_mem_nil, or_false] at h
 rcases h with rfl | rfl | rfl | rfl | rfl | rfl | rfl | rfl | rfl | rfl | rfl | rfl | rfl | rfl | rfl | rfl | rfl <;> decide
theorem tD {d : UInt8} (h : (c, d) ∈ X4) : uQ c = false ∧ isL c = false ∧ isD c = false := by
 simp only [X4, List.mem_cons, List.not_mem_nil, or_false, Prod.mk.injEq] at h
 rcases h with ⟨rfl, _⟩ | ⟨rfl, _⟩ | ⟨rfl, _⟩ | ⟨rfl, _⟩ | ⟨rfl, _⟩ | ⟨rfl, _⟩ <;> decide
variable {s : Bs} {n : Nat}
theorem LX.sp_inv (h : LX (c :: s) n) (hc : uQ c = true) : LX s n := by
 have hw := H4 hc
 generalize e : c :: s = t at h
 cases h with
 | nil => cases e
 | space _ h => cases e; exact h
 | word hc' _ _ _ _ => cases e; rw [KZ hc'] at hw; cases hw
 | num hc' _ _ _ _ => cases e; rw [isW_D hc'] at hw; cases hw
 | one hc' _ _ => cases e; rw [(tC hc').1] at hc; cases hc
 | two hc' _ => cases e; rw [(tD hc').1] at hc; cases hc
theorem LX.LA (h : LX (c :: s) n) (hc : isL c = true) : ∃ w r m, s = w ++ r ∧ (∀ d ∈ w, isW d = true) ∧ w.length < 16 ∧ NW r ∧ n = m + 1 ∧ LX r m := by
 generalize e : c :: s = t at h
 cases h with
 | nil => cases e
 | space hc' h => cases e; have := H4 hc'; rw [KZ hc] at this; cases this
 | word hc' h1 h2 h3 h4 => cases e; exact ⟨_, _, _, rfl, h1, h2, h3, rfl, h4⟩
 | num hc' _ _ _ _ => cases e; rw [QF hc] at hc'; cases hc'
 | one hc' _ _ => cases e; rw [(tC hc').2.1] at hc; cases hc
 | two hc' _ => cases e; rw [(tD hc').2.1] at hc; cases hc
theorem LX.num_inv (h : LX (c :: s) n) (hc : isD c = true) : ∃ w r m, s = w ++ r ∧ (∀ d ∈ w, isD d = true) ∧ uR (c :: w) < 9223372036854775808 ∧ NW r ∧ n = m + 1 ∧ LX r m := by
 generalize e : c :: s = t at h
 cases h with
 | nil => cases e
 | space hc' h => cases e; have := H4 hc'; rw [isW_D hc] at this; cases this
 | word hc' h1 h2 h3 h4 => cases e; rw [QF hc'] at hc; cases hc
 | num hc' h1 h2 h3 h4 => cases e; exact ⟨_, _, _, rfl, h1, h2, h3, rfl, h4⟩
 | one hc' _ _ => cases e; rw [(tC hc').2.2] at hc; cases hc
 | two hc' _ => cases e; rw [(tD hc').2.2] at hc; cases hc
theorem LX.C1 (h : LX (c :: s) n) (h1 : uQ c = false) (h2 : isL c = false) (h3 : isD c = false) : (∃ d r m, s = d :: r ∧ (c, d) ∈ X4 ∧ n = m + 1 ∧ LX r m) ∨ (∃ m, c ∈ KI ∧ (∀ d, s.head? = some d → (c, d) ∉ X4 ∧ (c, d) ≠ (47, 47)) ∧ n = m + 1 ∧ LX s m) := by
 generalize e : c :: s = t at h
 cases h with
 | nil => cases e
 | space hc' h => cases e; rw [h1] at hc'; cases hc'
 | word hc' _ _ _ _ => cases e; rw [h2] at hc'; cases hc'
 | num hc' _ _ _ _ => cases e; rw [h3] at hc'; cases hc'
 | one hc' h5 h6 => cases e; exact .inr ⟨_, hc', h5, rfl, h6⟩
 | two hc' h6 => cases e; exact .inl ⟨_, _, _, rfl, hc', rfl, h6⟩
def bat (L : Bs) (i : Nat) : UInt8 := L.getD i 0
variable {L : Bs} {i : Nat}
theorem bC (h : i < L.length) : L.drop i = bat L i :: L.drop (i + 1) := by
 rw [List.drop_eq_getElem_cons h]
 simp [bat, List.getD, h]
variable {k : Nat}
theorem LB {u v : Bs} (h : L.drop i = u ++ v) (hk : k < u.length) : bat L (i + k) = u.getD k 0 := by
 have : (L.drop i).getD k 0 = bat L (i + k) := by simp [bat, List.getD]
 rw [← this, h]
 simp [List.getD, List.getElem?_append_left hk]
theorem xP {u v : Bs} (h : L.drop i = u ++ v) : L.drop (i + u.length) = v := by
 rw [← List.drop_drop, h, List.drop_left]
theorem LX.Y2 (h : LX (L.drop i) n) (hi : i + 1 < L.length) (h1 : (bat L i).toNat = 47) (h2 : (bat L (i + 1)).toNat = 47) : False := by
 have e1 : bat L i = 47 := UInt8.toNat_inj.1 h1
 have e2 : bat L (i + 1) = 47 := UInt8.toNat_inj.1 h2
 rw [bC (by omega), e1] at h
 rcases h.C1 (by decide) (by decide) (by decide) with ⟨d, r, m, e, hm, _⟩ | ⟨m, _, h5, _⟩
 ·rw [bC hi, e2] at e
  cases e
  exact absurd hm (by decide)
 ·exact (h5 47 (by rw [bC hi, e2]; rfl)).2 rfl
theorem LX.DR (h : LX (L.drop i) n) (hi : i < L.length) (hc : uQ (bat L i) = true) : LX (L.drop (i + 1)) n := by
 rw [bC hi] at h
 exact h.sp_inv hc
structure Span (L : Bs) (p : UInt8 → Bool) (i e : Nat) : Prop where
 lt : i < e
 le : e ≤ L.length
 all : ∀ j, i ≤ j → j < e → p (bat L j) = true
 stop : e < L.length → p (bat L e) = false
theorem Span.of {p : UInt8 → Bool} {w r : Bs} (hd : L.drop i = c :: w ++ r) (hc : p c = true) (hw : ∀ d ∈ w, p d = true) (hr : ∀ d, r.head? = some d → p d = false) : Span L p i (i + (w.length + 1)) := by
 have hl : (L.drop i).length = w.length + 1 + r.length := by rw [hd]; simp; omega
 rw [List.length_drop] at hl
 have hrr : L.drop (i + (w.length + 1)) = r := by
  have := xP (u := c :: w) (v := r) (by rw [hd])
  simpa using this
 refine ⟨by omega, by omega, fun j h1 h2 => ?_, fun h => ?_⟩
 ·obtain ⟨k, rfl⟩ : ∃ k, j = i + k := ⟨j - i, by omega⟩
  rw [LB (u := c :: w) (v := r) hd t57]
  cases k with
  | zero => exact hc
  | succ k =>
   have hk : k < w.length := by omega
   have : (c :: w).getD (k + 1) 0 = w[k] := by simp [List.getD, hk]
   rw [this]
   exact hw _ (List.getElem_mem hk)
 ·refine hr _ ?_
  rw [← hrr, bC h]
  rfl
theorem LX.DS (h : LX (L.drop i) n) (hi : i < L.length) (hc : isL (bat L i) = true) : ∃ e m, Span L isW i e ∧ e ≤ i + 16 ∧ n = m + 1 ∧ LX (L.drop e) m := by
 rw [bC hi] at h
 obtain ⟨w, r, m, e, h1, h2, h3, rfl, h4⟩ := h.LA hc
 have hd : L.drop i = bat L i :: w ++ r := by rw [bC hi, e]; rfl
 refine ⟨_, m, Span.of hd (KZ hc) h1 h3, by omega, rfl, ?_⟩
 have := xP (u := bat L i :: w) (v := r) (by rw [hd])
 rw [List.length_cons] at this
 rw [this]
 exact h4
theorem LX.LC (h : LX (L.drop i) n) (hi : i < L.length) (hc : isD (bat L i) = true) : ∃ e m, Span L isD i e ∧ uR ((L.drop i).take (e - i)) < 9223372036854775808 ∧ n = m + 1 ∧ LX (L.drop e) m := by
 rw [bC hi] at h
 obtain ⟨w, r, m, e, h1, h2, h3, rfl, h4⟩ := h.num_inv hc
 have hd : L.drop i = bat L i :: w ++ r := by rw [bC hi, e]; rfl
 refine ⟨_, m, Span.of hd hc h1 fun d hd => ?_, ?_, rfl, ?_⟩
 ·have := h3 d hd
  simp only [isW, Bool.or_eq_false_iff] at this
  exact this.2
 ·rw [show i + (w.length + 1) - i = (bat L i :: w).length from by simp, hd, List.take_left]
  exact h2
 ·have := xP (u := bat L i :: w) (v := r) (by rw [hd])
  rw [List.length_cons] at this
  rw [this]
  exact h4
def sgn (L : Bs) (i : Nat) : Nat := if i + 1 < L.length ∧ (bat L i, bat L (i + 1)) ∈ X4 then 2 else if bat L i ∈ KI then 1 else 0
theorem LX.DT (h : LX (L.drop i) n) (hi : i < L.length) (h1 : uQ (bat L i) = false) (h2 : isL (bat L i) = false) (h3 : isD (bat L i) = false) : 0 < sgn L i ∧ i + sgn L i ≤ L.length ∧ ∃ m, n = m + 1 ∧ LX (L.drop (i + sgn L i)) m := by
 rw [bC hi] at h
 rcases h.C1 h1 h2 h3 with ⟨d, r, m, e, hm, rfl, h4⟩ | ⟨m, hm, h5, rfl, h4⟩
 ·have hl : (L.drop (i + 1)).length = r.length + 1 := by rw [e]; rfl
  rw [List.length_drop] at hl
  have hd : bat L (i + 1) = d := by rw [bC (by omega)] at e; injection e
  have hr : L.drop (i + 2) = r := by rw [bC (by omega)] at e; injection e
  rw [sgn, if_pos ⟨by omega, by rw [hd]; exact hm⟩]
  exact ⟨by omega, by omega, m, rfl, by rw [hr]; exact h4⟩
 ·rw [sgn, if_neg (fun hx => (h5 (bat L (i + 1)) (by rw [bC hx.1]; rfl)).1 hx.2), if_pos hm]
  exact ⟨by omega, by omega, m, rfl, h4⟩
variable {l : Bs}
theorem C2 (h : k < l.length) : uR (l.take (k + 1)) = 10 * uR (l.take k) + ((bat l k).toNat - 48) := by
 rw [List.take_succ_eq_append_getElem h, B1]
 simp [bat, List.getD, h]
theorem DU : ∀ {k m : Nat}, k ≤ m → uR (l.take k) ≤ uR (l.take m) := by
 intro k m hm
 induction hm with
 | refl => exact Nat.le_refl _
 | @step m _ ih =>
  by_cases h : m < l.length
  ·rw [C2 h]; omega
  ·rw [List.take_of_length_le (i := m + 1) (by omega)]
   rw [List.take_of_length_le (i := m) (by omega)] at ih
   exact ih
def rL (l : Bs) : List AV := l.map fun c => .int .u8 (c.toNat : Int)
theorem lP (l : Bs) : (rL l).length = l.length := List.length_map _
theorem read_b (h : i < l.length) : List.take 1 (List.drop i (rL l)) = [AV.int .u8 ((bat l i).toNat : Int)] := by
 unfold rL
 rw [← List.map_drop, ← List.map_take, List.drop_eq_getElem_cons h, List.take_succ_cons, List.take_zero]
 simp [bat, List.getD, h]
theorem QG : List.take k (List.drop i (rL l)) = rL ((l.drop i).take k) := by
 unfold rL
 rw [List.map_take, List.map_drop]
theorem H5 : ∀ l : Bs, gL (rL l) = some l
 | [] => rfl
 | c :: l => by
  show (gL (rL l)).map _ = _
  rw [H5 l]
  simp
end Go.Un
end
section
namespace Go.Proofs.YtfbjlfhjkojmkaaGreat
open Go.Ab Go.Un
theorem Y3 {n : Int} (h1 : 0 ≤ n) (h2 : n < 256) : IntKind.wrap .u8 n = n := by
  rw [IntKind.wrap_u8]; omega
theorem C3 {f : FuncId} {args : List AV} {s : AV} (ha : args.all (s6 0 9) = true) (r : CallA Tryz.prog cfg f args [] fun y _ => SK y = s) (h : c6) : CallA Tryz.prog cfg f args h fun y h' => y = s ∧ h' = h := by
  intro B φ w cargs i hs hr
  have hst : ∀ k, k < w.heap.size → L0 [] φ w k := fun k hk => ⟨hk, fun β b hb => by simp at hb⟩
  have i0 : Pic cfg.cX w.heap.size [] φ w := ⟨fun β b hb => by simp at hb, fun β β' b b' hb => by simp at hb, fun β b hb => by simp at hb, fun β b hb => by simp at hb, Nat.le_refl _, fun g => (i.cX g).mono fun k j hk => ⟨rfl, (hst k hk.1).L2 j⟩⟩
  refine (r w.heap.size φ w cargs i0 hs (fun j v x h1 h2 => CC (hr j v x h1 h2) (bY 9 x (List.all_eq_true.1 ha x (List.mem_of_getElem? h2))))).mono fun e w' hp => ?_
  obtain ⟨v, y, h', φ', rfl, h1, h2, h3, hq⟩ := hp
  have hk : ∀ k, k < w.heap.size → w'.heap[k]? = w.heap[k]? := fun k hk => (h2.iW k (hst k hk)).1
  have ev : Ev h φ w h φ w' := ⟨h2.os, h2.tape, h2.output, h2.size, fun k hs => ⟨hk k hs.1, Nat.lt_of_lt_of_le hs.1 h2.size, hs.2⟩, fun k j hs => ⟨World.cell?_of_block (hk k hs.1), Nat.lt_of_lt_of_le hs.1 h2.size, hs.2⟩, Nat.le_refl _, fun β b b' e1 e2 => by rw [e1] at e2; cases e2; exact ⟨Nat.le_refl _, fun _ => ⟨rfl, rfl, rfl⟩⟩⟩
  refine ⟨v, _, h, φ, rfl, ⟨fun β b hb hv => ?_, i.inj, i.base, i.bH, Nat.le_trans i.room h2.size, fun g => ev.E6 (i.cX g)⟩, ev, wX h3, hq, rfl⟩
  obtain ⟨cur, q1, q2, q3, q4⟩ := i.blk β b hb hv
  exact ⟨cur, (hk _ (Array.getElem?_eq_some_iff.1 q1).1).trans q1, q2, q3, fun j v x a d => ⟨(q4 j v x a d).1, ev.rel (q4 j v x a d).2⟩⟩
def hasB (l : List BA) (s : BA) : Bool := l.any fun x => x.toList == s.toList
variable {l : List BA} {s : BA} {i : Nat}
theorem has_t (hi : i < l.length) (h : ((l.getD i ByteArray.empty).toList == s.toList) = true) : hasB l s = true := List.any_eq_true.2 ⟨_, l3 hi, h⟩
theorem has_f (hi : l.length ≤ i) (h : ∀ d, d < i → ((l.getD d ByteArray.empty).toList == s.toList) = false) : hasB l s = false := by
  refine List.any_eq_false.2 fun x hx => ?_
  obtain ⟨d, h1, rfl⟩ := bB (d := ByteArray.empty) hx
  rw [h d (by omega)]
  decide
theorem LD (h : ∀ d, d < i → ((l.getD d ByteArray.empty).toList == s.toList) = false) (e : ((l.getD i ByteArray.empty).toList == s.toList) = false) : ∀ d, d < i + 1 → ((l.getD d ByteArray.empty).toList == s.toList) = false := fun d hd => by
  by_cases hdi : d = i
  · rw [hdi]; exact e
  · exact h d (by omega)
def QH : List BA := [⟨#[118, 97, 114]⟩, ⟨#[109, 117, 116, 101, 120]⟩, ⟨#[114, 109, 117, 116, 101, 120]⟩, ⟨#[102, 117, 110, 99]⟩, ⟨#[108, 111, 99, 107]⟩, ⟨#[117, 110, 108, 111, 99, 107]⟩, ⟨#[103, 111]⟩, ⟨#[105, 102]⟩, ⟨#[101, 108, 115, 101]⟩, ⟨#[119, 104, 105, 108, 101]⟩, ⟨#[114, 101, 116, 117, 114, 110]⟩]
def twoN : List BA := [⟨#[60, 61]⟩, ⟨#[62, 61]⟩, ⟨#[61, 61]⟩, ⟨#[33, 61]⟩, ⟨#[38, 38]⟩, ⟨#[124, 124]⟩]
def By : List BA := [⟨#[40]⟩, ⟨#[41]⟩, ⟨#[123]⟩, ⟨#[125]⟩, ⟨#[91]⟩, ⟨#[93]⟩, ⟨#[44]⟩, ⟨#[59]⟩, ⟨#[61]⟩, ⟨#[43]⟩, ⟨#[45]⟩, ⟨#[42]⟩, ⟨#[47]⟩, ⟨#[37]⟩, ⟨#[60]⟩, ⟨#[62]⟩, ⟨#[33]⟩]
def rM (s : BA) : Bool := hasB QH s
variable {a : UInt8}
theorem eq2 {x y b : UInt8} : ((⟨#[x, y]⟩ : BA).toList == (⟨[a, b].toArray⟩ : BA).toList) = (decide (a = x) && decide (b = y)) := by
  rw [ByteArray.toList_eq, ByteArray.toList_eq]
  show ([x, y] == [a, b]) = _
  rw [Bool.eq_iff_iff]
  simp only [beq_iff_eq, List.cons.injEq, and_true, Bool.and_eq_true, decide_eq_true_eq]
  exact and_congr eq_comm eq_comm
theorem eq1 {x : UInt8} : ((⟨#[x]⟩ : BA).toList == (⟨[a].toArray⟩ : BA).toList) = decide (a = x) := by
  rw [ByteArray.toList_eq, ByteArray.toList_eq]
  show ([x] == [a]) = _
  rw [Bool.eq_iff_iff]
  simp only [beq_iff_eq, List.cons.injEq, and_true, decide_eq_true_eq]
  exact eq_comm
theorem jH {b : UInt8} : hasB twoN ⟨[a, b].toArray⟩ = decide ((a, b) ∈ X4) := by
  simp only [hasB, twoN, X4, List.any_cons, List.any_nil, eq2, Bool.or_false, List.mem_cons, List.not_mem_nil, or_false, Prod.mk.injEq, Bool.decide_or, Bool.decide_and]
theorem jI : hasB By ⟨[a].toArray⟩ = decide (a ∈ KI) := by
  simp only [hasB, By, KI, List.any_cons, List.any_nil, eq1, Bool.or_false, List.mem_cons, List.not_mem_nil, or_false, Bool.decide_or]
variable {L : Bs}
theorem M0 (h : i + 1 < L.length) : (L.drop i).take 2 = [bat L i, bat L (i + 1)] := by
  rw [bC (by omega), bC h]
  rfl
theorem take_one (h : i < L.length) : (L.drop i).take 1 = [bat L i] := by
  rw [bC h]
  rfl
theorem str_at (h : i < s.size) : s[i]? = some (bat (L8 s) i) := by
  rw [jD] at h
  have : s[i]? = s.data.toList[i]? := by
    rw [Array.getElem?_toList]
    rfl
  rw [this]
  have h2 : i < s.data.toList.length := h
  rw [List.getElem?_eq_getElem h2]
  simp only [bat, L8, List.getD, List.getElem?_eq_getElem h2, Option.getD_some]
theorem name_at (h : isName (L8 s)) (hi : i < s.size) : isW (bat (L8 s) i) = true ∧ (i = 0 → isL (bat (L8 s) i) = true) := by
  obtain ⟨c, w, e, h1, h2, h3⟩ := h
  rw [jD, e] at hi
  rw [e]
  cases i with
  | zero => exact ⟨KZ h1, fun _ => h1⟩
  | succ i =>
    have hi' : i < w.length := by simpa using hi
    refine ⟨?_, fun h => by omega⟩
    have : bat (c :: w) (i + 1) = w[i] := by simp [bat, List.getD, hi']
    rw [this]
    exact h2 _ (List.getElem_mem hi')
theorem dM (h : isName (L8 s)) : 1 ≤ s.size ∧ s.size ≤ 16 := by
  refine ⟨?_, u5 h⟩
  obtain ⟨c, w, e, _⟩ := h
  rw [jD, e]
  simp
def skF (L : Bs) : Nat → Nat → Nat
  | 0, i => i
  | f + 1, i => if i < L.length ∧ uQ (bat L i) = true then skF L f (i + 1) else i
def sk (L : Bs) (i : Nat) : Nat := skF L (L.length - i) i
theorem tE (h : i < L.length) (hs : uQ (bat L i) = true) : sk L i = sk L (i + 1) := by
  unfold sk
  obtain ⟨f, hf⟩ : ∃ f, L.length - i = f + 1 := ⟨L.length - i - 1, by omega⟩
  rw [hf, skF, if_pos ⟨h, hs⟩, show L.length - (i + 1) = f from by omega]
theorem DV (h : ¬ (i < L.length ∧ uQ (bat L i) = true)) : sk L i = i := by
  unfold sk
  cases hf : L.length - i with
  | zero => rfl
  | succ f => rw [skF, if_neg h]
theorem QI (h : L.length ≤ i) : sk L i = i := DV fun h' => by omega
theorem DW (h : uQ (bat L i) = false) : sk L i = i := DV fun h' => by rw [h] at h'; cases h'.2
theorem xQ {L : Bs} : ∀ {f i n : Nat}, L.length - i = f → LX (L.drop i) n → i ≤ L.length → i ≤ sk L i ∧ sk L i ≤ L.length ∧ LX (L.drop (sk L i)) n ∧ (sk L i < L.length → uQ (bat L (sk L i)) = false)
  | 0, i, n, hf, h, hi => by
    rw [QI (by omega)]
    exact ⟨Nat.le_refl _, hi, h, fun h => by omega⟩
  | f + 1, i, n, hf, h, hi => by
    by_cases hs : uQ (bat L i) = true
    · rw [tE (by omega) hs]
      obtain ⟨a, b, c, d⟩ := xQ (f := f) (i := i + 1) (by omega) (h.DR (by omega) hs) (by omega)
      exact ⟨by omega, b, c, d⟩
    · rw [DW (by simpa using hs)]
      exact ⟨Nat.le_refl _, hi, h, fun _ => by simpa using hs⟩
variable {c : UInt8}
theorem C4 (h : (c.toNat : Int) = 32 ∨ (c.toNat : Int) = 9 ∨ (c.toNat : Int) = 10 ∨ (c.toNat : Int) = 13) : uQ c = true := by
  simp only [uQ, Bool.or_eq_true, beq_iff_eq]; omega
theorem nosp_of (h1 : ¬ (c.toNat : Int) = 32) (h2 : ¬ (c.toNat : Int) = 9) (h3 : ¬ (c.toNat : Int) = 10) (h4 : ¬ (c.toNat : Int) = 13) : uQ c = false := by
  simp only [uQ, Bool.or_eq_false_iff, beq_eq_false_iff_ne, ne_eq]; omega
variable {e : Nat}
theorem H6 {p : UInt8 → Bool} {j : Nat} (h : Span L p i e) (h2 : j ≤ e) (hj : j < L.length) (hp : p (bat L j) = true) : j < e := by
  by_cases he : j = e
  · subst he
    rw [h.stop hj] at hp
    cases hp
  · omega
theorem rN {p : UInt8 → Bool} {j : Nat} (h : Span L p i e) (h1 : i ≤ j) (h2 : j ≤ e) (hp : j < L.length → p (bat L j) = false) : j = e := by
  by_cases he : j < e
  · have := h.le
    rw [h.all j h1 he] at hp
    cases hp (by omega)
  · omega
theorem valD_nn {l : Bs} (h : i < l.length) (hd : ∀ d ∈ l, isD d = true) : 48 ≤ (bat l i).toNat ∧ (bat l i).toNat ≤ 57 := by
  have := hd (bat l i) (l3 h)
  simpa only [isD, Bool.and_eq_true, decide_eq_true_eq] using this
theorem tn2 : ((i : Int) + 2).toNat = i + 2 := by omega
theorem tn1 : ((i : Int) + 1).toNat = i + 1 := by omega
theorem QJ : rL [c] = [.int .u8 ((c.toNat : Nat) : Int)] := rfl
theorem takeL {k : Nat} (h : i + k ≤ L.length) : (List.take k (List.drop i L)).length = k := by
  rw [List.length_take, List.length_drop]; omega
variable {H : c6} {n : Nat}
theorem QK {k : Nat} {cs : List AV} : rd H k (.vec n cs) = some cs := rfl
theorem spanD (h : Span L isD i e) : ∀ d ∈ (L.drop i).take (e - i), isD d = true := by
  intro d hd
  obtain ⟨j, hj, rfl⟩ := List.mem_iff_getElem.1 hd
  have hj2 : j < e - i := by rw [List.length_take] at hj; omega
  have hle := h.le
  have := h.all (i + j) (by omega) (by omega)
  have e2 : ((L.drop i).take (e - i))[j] = bat L (i + j) := by
    rw [List.getElem_take, List.getElem_drop]
    simp [bat, List.getD, show i + j < L.length by omega]
  rw [e2]
  exact this
attribute [local go_sem] lP w9 Int.natCast_nonneg Int.natCast_inj List.length_map wrap64 Y3 read_b qD tn1 tn2 str_at
variable {h : c6}
theorem xR (c : UInt8) : CB 86 [.int .u8 ((c.toNat : Nat) : Int)] h (.bool (isL c)) := by
  refine .bz Tryz.f86 21 ?_
  refine c222z ?_
  refine .spl 5 rfl rfl (fun e1 => ?_) (fun e1 => ?_)
  ·try simp only [e1]
   have qe1 := fact e1
   refine .k 4 [(2, 5)] ?_
   refine .spl 9 rfl rfl (fun e2 => ?_) (fun e2 => ?_)
   ·try simp only [e2]
    have qe2 := fact e2
    refine .k 8 [(6, 9), (9, 12)] ?_
    refine c210z ?_
    exact ⟨[], _, (List.append_nil _).symm, t45, t38⟩
   try simp only [e2]
   have qe2 := fact e2
   refine .k 3 [(6, 9)] ?_
   refine .spl 12 rfl rfl (fun e3 => ?_) (fun e3 => ?_)
   ·try simp only [e3]
    have qe3 := fact e3
    refine .k 5 [(6, 9), (9, 12)] ?_
    refine .spl 17 rfl rfl (fun e4 => ?_) (fun e4 => ?_)
    ·try simp only [e4]
     have qe4 := fact e4
     refine c210z ?_
     exact ⟨[], _, (List.append_nil _).symm, t45, t38⟩
    try simp only [e4]
    have qe4 := fact e4
    refine c210z ?_
    exact ⟨[], _, (List.append_nil _).symm, t45, t38⟩
   try simp only [e3]
   have qe3 := fact e3
   refine .k 8 [(6, 9), (9, 12), (14, 17)] ?_
   refine c150z ?_
   exact ⟨[], _, (List.append_nil _).symm, t45, t38⟩
  try simp only [e1]
  have qe1 := fact e1
  refine .k 7 [(2, 5), (6, 9)] ?_
  refine .spl 12 rfl rfl (fun e5 => ?_) (fun e5 => ?_)
  ·try simp only [e5]
   have qe5 := fact e5
   refine .k 5 [(6, 9), (9, 12)] ?_
   refine .spl 17 rfl rfl (fun e6 => ?_) (fun e6 => ?_)
   ·try simp only [e6]
    have qe6 := fact e6
    refine c210z ?_
    exact ⟨[], _, (List.append_nil _).symm, t45, t38⟩
   try simp only [e6]
   have qe6 := fact e6
   refine c210z ?_
   exact ⟨[], _, (List.append_nil _).symm, t45, t38⟩
  try simp only [e5]
  have qe5 := fact e5
  refine .k 8 [(6, 9), (9, 12), (14, 17)] ?_
  refine c150z ?_
  exact ⟨[], _, (List.append_nil _).symm, t45, t38⟩
theorem xS (c : UInt8) : CB 87 [.int .u8 ((c.toNat : Nat) : Int)] h (.bool (isD c)) := by
  refine .bz Tryz.f87 9 ?_
  refine c222z ?_
  refine .spl 5 rfl rfl (fun e1 => ?_) (fun e1 => ?_)
  ·try simp only [e1]
   have qe1 := fact e1
   refine .m [(2, 5)] ?_
   refine c3z ?_
   exact ⟨[], _, (List.append_nil _).symm, t45, t120⟩
  try simp only [e1]
  have qe1 := fact e1
  refine .m [(2, 5)] ?_
  refine c3z ?_
  exact ⟨[], _, (List.append_nil _).symm, t45, t120⟩
section
attribute [local go_sem] kJ
theorem c_has (l : List BA) (s : BA) (hl : l.length < 1000) : CB 112 [.vec l.length (w5 l), .str s] h (.bool (hasB l s)) := by
  refine .bz Tryz.f112 18 ?_
  refine c53z ?_
  refine .cI (fun m st => ∃ (i : Nat), (m = l.length - i ∧ (∀ d, d < i → ((l.getD d ByteArray.empty).toList == s.toList) = false) ∧ i ≤ l.length) ∧ st = ⟨mkS 18 [(0, AV.vec l.length (w5 l)), (1, AV.str s), (5, AV.int .i64 ((i : Nat) : Int))], h⟩) _ (.v ⟨0, ⟨rfl, t104, by omega⟩, rfl⟩) ?_
  rintro m sl h' ⟨i, ⟨hm, hI, hi⟩, hst⟩
  obtain ⟨rfl, rfl⟩ := St.mk.inj hst
  refine c0z ?_
  refine u2z ?_ ?_
  ·intro e1 qe1
   refine c87z ?_
   refine u2z ?_ ?_
   ·intro e2 qe2
    refine c130z ?_
    exact ⟨[], _, (List.append_nil _).symm, t45, t124⟩
   intro e2 qe2
   refine c5z ?_
   refine c192z ?_
   exact ⟨_, by omega, .v ⟨(i + 1), ⟨rfl, LD hI (by assumption), by omega⟩, rfl⟩⟩
  intro e1 qe1
  refine c90z ?_
  exact ⟨[], _, (List.append_nil _).symm, t45, t124⟩
end
theorem frz_n {d : Nat} : o2 (jX n H (d + 1)) (w5 l) = some (w5 l) := (w6.map (fun _ => .str) : w6 (w5 l)).frz _ _ _
variable {g : Nat}
theorem Q0 {β : Nat} (l : List BA) (s : BA) (hb : H[β]? = some ⟨g, false, 9, 1, w5 l, 0⟩) (hl : l.length < 1000) : CallA Tryz.prog cfg 112 [.own β g 0 l.length, .str s] H (fun y h' => y = .bool (hasB l s) ∧ h' = H) := by
  have e : PQ 0 H (.own β g 0 l.length) = some (.vec l.length (w5 l)) := by
    show jX 0 H 6 (.own β g 0 l.length) = _
    rw [fP, hb]
    simp only [Nat.zero_le, and_self, if_true, Bool.false_eq_true, if_false, Nat.zero_add, Nat.mul_one, w9, Nat.le_refl, List.drop_zero]
    rw [List.take_of_length_le t150, frz_n]
  have ha : JY 0 H [.vec l.length (w5 l), .str s] [.own β g 0 l.length, .str s] := And.intro (.inr e) (And.intro (.inr rfl) trivial)
  exact CallA.borrow ha ((c_has l s hl).mono fun _ _ h => h.1)
theorem c_res0 (s : BA) : CB 88 [.str s] [] (.bool (rM s)) := by
  refine .bz Tryz.f88 6 ?_
  refine .z ?_
  refine c30z ?_
  refine .ca rfl rfl (Q0 QH s rfl (by decide)) ?_
  refine .n ?_
  exact .ret (.ex (hq := by rfl))
theorem TQ (s : BA) : CallA Tryz.prog cfg 88 [.str s] h (fun y h' => y = .bool (rM s) ∧ h' = h) := C3 rfl ((c_res0 s).mono fun _ _ h => by rw [h.1]; rfl) h
theorem c_resF (hr : rM s = false) : CallA Tryz.prog cfg 88 [.str s] h (fun y h' => y = .bool false ∧ h' = h) := by
  rw [← hr]
  exact TQ s
theorem kY (s : BA) (hs : isName (L8 s)) (hr : rM s = false) : CB 78 [.str s] h (.bool true) := by
  refine .bz Tryz.f78 39 ?_
  have hsz := dM hs
  refine c53z ?_
  refine .cI (fun m st => ∃ (i : Nat), (m = s.size - i ∧ i ≤ s.size) ∧ st = ⟨mkS 39 [(0, AV.str s), (3, AV.int .i64 ((i : Nat) : Int))], h⟩) _ (.v ⟨0, ⟨rfl, by omega⟩, rfl⟩) ?_
  rintro m sl h' ⟨i, ⟨hm, hi⟩, hst⟩
  obtain ⟨rfl, rfl⟩ := St.mk.inj hst
  refine c0z ?_
  refine u2z ?_ ?_
  ·intro e1 qe1
   refine c2z ?_
   have hna := name_at hs (i := i) (by omega)
   refine c18z ?_
   refine .ca rfl rfl (xR _) ?_
   refine .e 2 ?_
   refine .spl 15 rfl rfl (fun e2 => ?_) (fun e2 => ?_)
   ·try simp only [e2]
    have qe2 := fact e2
    refine .k 3 [(5, 15)] ?_
    refine .spl 18 rfl rfl (fun e3 => ?_) (fun e3 => ?_)
    ·try simp only [e3]
     have qe3 := fact e3
     refine .m [(5, 15), (8, 18)] ?_
     refine .T ?_
     refine c130z ?_
     exact ⟨[], _, (List.append_nil _).symm, t45, t90⟩
    try simp only [e3]
    have qe3 := fact e3
    refine .k 3 [(8, 18)] ?_
    refine .ca rfl rfl (xS _) ?_
    refine .m [(5, 15), (8, 18)] ?_
    refine u2z ?_ ?_
    ·intro e4 qe4
     refine c130z ?_
     exact ⟨[], _, (List.append_nil _).symm, t45, t90⟩
    intro e4 qe4
    refine c5z ?_
    refine .c7 [0, 3] ?_
    refine .rz ?_
    exact ⟨_, by omega, .v ⟨(i + 1), ⟨rfl, by omega⟩, rfl⟩⟩
   try simp only [e2]
   have qe2 := fact e2
   refine .k 8 [(5, 15), (8, 18)] ?_
   refine .m [(5, 15)] ?_
   refine c45z ?_
   refine .c7 [0, 3] ?_
   refine .rz ?_
   exact ⟨_, by omega, .v ⟨(i + 1), ⟨rfl, by omega⟩, rfl⟩⟩
  intro e1 qe1
  refine c9z ?_
  refine c31z ?_
  refine .spl 29 rfl rfl (fun e5 => ?_) (fun e5 => by exfalso; simp only [decide_eq_false_iff_not] at e5; omega)
  try simp only [e5]
  have qe5 := fact e5
  refine .k 5 [(3, 29)] ?_
  refine .spl 34 rfl rfl (fun e6 => ?_) (fun e6 => by exfalso; simp only [decide_eq_false_iff_not] at e6; omega)
  try simp only [e6]
  have qe6 := fact e6
  refine .k 1 [(8, 34)] ?_
  refine .ca rfl rfl (c_resF hr) ?_
  refine .m [(8, 34)] ?_
  refine c3z ?_
  exact ⟨[], _, (List.append_nil _).symm, t45, t90⟩
theorem QL (L : Bs) (i n : Nat) (hx : LX (L.drop i) n) (hi : i ≤ L.length) (hl : L.length < 1000000) : CB 85 [.vec L.length (rL L), .int .i64 (i : Int)] h (.int .i64 ((sk L i : Nat) : Int)) := by
  refine .bz Tryz.f85 74 ?_
  refine .z ?_
  refine .sb ?_
  refine .cI (fun m st => ∃ (j : Nat), (m = L.length - j ∧ (LX (L.drop j) n ∧ j ≤ L.length ∧ sk L j = sk L i)) ∧ st = ⟨mkS 74 [(0, AV.vec L.length (rL L)), (1, AV.int .i64 ((j : Nat) : Int))], h⟩) _ (.v ⟨i, ⟨rfl, ⟨hx, hi, rfl⟩⟩, rfl⟩) ?_
  rintro m sl h' ⟨j, ⟨hm, ⟨hX, hj, hk⟩⟩, hst⟩
  obtain ⟨rfl, rfl⟩ := St.mk.inj hst
  refine c0z ?_
  refine u2z ?_ ?_
  ·intro e1 qe1
   refine c171z ?_
   refine .block ?_
   refine c125z ?_
   refine .spl 16 rfl rfl (fun e2 => ?_) (fun e2 => ?_)
   ·try simp only [e2]
    have qe2 := fact e2
    refine .k 8 [(5, 16), (12, 23)] ?_
    refine .k 8 [(12, 23), (19, 30)] ?_
    refine .m [(19, 30)] ?_
    refine .T ?_
    refine .c7 [0, 1] ?_
    refine .rz ?_
    exact ⟨_, by omega, .v ⟨(j + 1), ⟨rfl, ⟨hX.DR (by omega) (C4 (by omega)), by omega, (tE (by omega) (C4 (by omega))).symm.trans hk⟩⟩, rfl⟩⟩
   try simp only [e2]
   have qe2 := fact e2
   refine .k 7 [(5, 16)] ?_
   refine .spl 23 rfl rfl (fun e3 => ?_) (fun e3 => ?_)
   ·try simp only [e3]
    have qe3 := fact e3
    refine .k 8 [(12, 23), (19, 30)] ?_
    refine .m [(19, 30)] ?_
    refine .T ?_
    refine .c7 [0, 1] ?_
    refine .rz ?_
    exact ⟨_, by omega, .v ⟨(j + 1), ⟨rfl, ⟨hX.DR (by omega) (C4 (by omega)), by omega, (tE (by omega) (C4 (by omega))).symm.trans hk⟩⟩, rfl⟩⟩
   try simp only [e3]
   have qe3 := fact e3
   refine .k 7 [(12, 23)] ?_
   refine .spl 30 rfl rfl (fun e4 => ?_) (fun e4 => ?_)
   ·try simp only [e4]
    have qe4 := fact e4
    refine .m [(19, 30)] ?_
    refine .T ?_
    refine .c7 [0, 1] ?_
    refine .rz ?_
    exact ⟨_, by omega, .v ⟨(j + 1), ⟨rfl, ⟨hX.DR (by omega) (C4 (by omega)), by omega, (tE (by omega) (C4 (by omega))).symm.trans hk⟩⟩, rfl⟩⟩
   try simp only [e4]
   have qe4 := fact e4
   refine .m [(19, 30)] ?_
   refine u2z ?_ ?_
   ·intro e5 qe5
    refine .c7 [0, 1] ?_
    refine .rz ?_
    exact ⟨_, by omega, .v ⟨(j + 1), ⟨rfl, ⟨hX.DR (by omega) (C4 (by omega)), by omega, (tE (by omega) (C4 (by omega))).symm.trans hk⟩⟩, rfl⟩⟩
   intro e5 qe5
   refine .c7 [0, 1] ?_
   refine c125z ?_
   refine .spl 45 rfl rfl (fun e6 => ?_) (fun e6 => ?_)
   ·try simp only [e6]
    have qe6 := fact e6
    refine .k 7 [(5, 45)] ?_
    refine .spl 52 rfl rfl (fun e7 => ?_) (fun e7 => ?_)
    ·try simp only [e7]
     have qe7 := fact e7
     refine .m [(12, 52)] ?_
     refine .spl 39 rfl rfl (fun e8 => by exfalso; simp only [beq_iff_eq] at *; exact hX.Y2 (by omega) (by omega) (by omega)) (fun e8 => ?_)
     try simp only [e8]
     have qe8 := fact e8
     refine .F ?_
     refine .c7 [1] ?_
     refine c32z ?_
     exact ⟨[], _, (List.append_nil _).symm, t45, t78⟩
    try simp only [e7]
    have qe7 := fact e7
    refine .m [(12, 52)] ?_
    refine .F ?_
    refine .c7 [1] ?_
    refine c32z ?_
    exact ⟨[], _, (List.append_nil _).symm, t45, t78⟩
   try simp only [e6]
   have qe6 := fact e6
   refine .k 8 [(5, 45), (12, 52)] ?_
   refine .m [(12, 52)] ?_
   refine .F ?_
   refine .c7 [1] ?_
   refine c32z ?_
   exact ⟨[], _, (List.append_nil _).symm, t45, t78⟩
  intro e1 qe1
  refine .exit ?_
  have hje : j = L.length := by omega
  change c9 ..
  refine c32z ?_
  exact ⟨[], _, (List.append_nil _).symm, t45, t78⟩
theorem fill6L : (twoN).length = 6 := rfl
theorem fill6M : (6 ≤ maxLen) = True := by simp; decide
theorem fill17L : (By).length = 17 := rfl
theorem fill17M : (17 ≤ maxLen) = True := by simp; decide
section
attribute [local go_sem] rX cY Option.bind_eq_bind QG QJ QK takeL H5 Nat.add_sub_cancel_left M0 take_one jH jI fill6L fill6M fill17L fill17M
theorem c_sign0 (L : Bs) (i : Nat) (hi : i < L.length) (hl : L.length < 1000000) : CB 90 [.vec L.length (rL L), .int .i64 (i : Int)] [] (.int .i64 ((sgn L i : Nat) : Int)) := by
  refine .bz Tryz.f90 28 ?_
  refine c26z ?_
  refine c125z ?_
  refine .spl 10 rfl rfl (fun e1 => ?_) (fun e1 => ?_)
  ·try simp only [e1]
   have qe1 := fact e1
   try simp only [jI, jH, decide_eq_true_eq, decide_eq_false_iff_not] at qe1
   refine .k 7 [(5, 10)] ?_
   refine .ca rfl rfl (Q0 twoN _ rfl (by decide)) ?_
   refine .n ?_
   refine .spl 19 rfl rfl (fun e2 => ?_) (fun e2 => ?_)
   ·try simp only [e2]
    have qe2 := fact e2
    try simp only [jI, jH, decide_eq_true_eq, decide_eq_false_iff_not] at qe2
    refine .T ?_
    refine c21z ?_
    exact .ret (.ex (hq := t24))
   try simp only [e2]
   have qe2 := fact e2
   try simp only [jI, jH, decide_eq_true_eq, decide_eq_false_iff_not] at qe2
   refine c17z ?_
   refine .seq ?_
   refine .c7 [0, 1] ?_
   refine .s ?_
   refine .e 7 ?_
   refine .ca rfl rfl (Q0 By _ (by first | rfl | simp) (by decide)) ?_
   refine .nil ?_
   refine .spl 27 rfl rfl (fun e3 => ?_) (fun e3 => ?_)
   ·try simp only [e3]
    have qe3 := fact e3
    try simp only [jI, jH, decide_eq_true_eq, decide_eq_false_iff_not] at qe3
    refine .T ?_
    refine c21z ?_
    exact .ret (.ex (hq := t24))
   try simp only [e3]
   have qe3 := fact e3
   try simp only [jI, jH, decide_eq_true_eq, decide_eq_false_iff_not] at qe3
   refine c17z ?_
   refine c21z ?_
   exact .ret (.ex (hq := t24))
  try simp only [e1]
  have qe1 := fact e1
  try simp only [jI, jH, decide_eq_true_eq, decide_eq_false_iff_not] at qe1
  refine .k 8 [(5, 10)] ?_
  refine .n ?_
  refine c17z ?_
  refine .seq ?_
  refine .c7 [0, 1] ?_
  refine .s ?_
  refine .e 7 ?_
  refine .ca rfl rfl (Q0 By _ (by first | rfl | simp) (by decide)) ?_
  refine .nil ?_
  refine .spl 27 rfl rfl (fun e4 => ?_) (fun e4 => ?_)
  ·try simp only [e4]
   have qe4 := fact e4
   try simp only [jI, jH, decide_eq_true_eq, decide_eq_false_iff_not] at qe4
   refine .T ?_
   refine c21z ?_
   exact .ret (.ex (hq := t24))
  try simp only [e4]
  have qe4 := fact e4
  try simp only [jI, jH, decide_eq_true_eq, decide_eq_false_iff_not] at qe4
  refine c17z ?_
  refine c21z ?_
  exact .ret (.ex (hq := t24))
end
theorem c_sign (L : Bs) (i : Nat) (hi : i < L.length) (hl : L.length < 1000000) : CallA Tryz.prog cfg 90 [.vec L.length (rL L), .int .i64 (i : Int)] h (fun y h' => y = .int .i64 ((sgn L i : Nat) : Int) ∧ h' = h) := C3 rfl ((c_sign0 L i hi hl).mono fun _ _ h => by rw [h.1]; rfl) h
theorem c_numv (l : Bs) (hd : ∀ d ∈ l, isD d = true) (hv : uR l < 9223372036854775808) (hl : l.length < 1000000) : CB 89 [.vec l.length (rL l)] h (.int .i64 ((uR l : Nat) : Int)) := by
  refine CallA.body (Q := fun y' => y' = .int .i64 ((uR l : Nat) : Int)) s9 fn89 rfl ?_
  simp only [ntm89, List.length_cons, List.length_nil, Nat.reduceAdd, Nat.reduceSub, List.replicate, List.cons_append, List.nil_append]
  refine c7z ?_
  refine m7.pre 1 t11 ?_
  refine c6z ?_
  refine c7z ?_
  refine m7.pre 1 t11 ?_
  refine c133z ?_
  refine c7z ?_
  refine m7.pre 1 t11 ?_
  refine c6z ?_
  refine c9.block ?_
  refine c9.cI (fun m st => ∃ (i : Nat), (m = l.length - i ∧ i ≤ l.length) ∧ st = ⟨[.vec l.length (rL l), .any, .any, .int .i64 ((uR (l.take i) : Nat) : Int), .int .i64 ((i : Nat) : Int), .any, .any, .any, .any, .any, .any, .any, .any, .any, .any, .any, .any, .any, .any, .any, .any, .any, .any, .any, .any, .any, .any, .any], h⟩) _ ⟨[.vec l.length (rL l), .any, .any, .int .i64 ((uR (l.take 0) : Nat) : Int), .int .i64 ((0 : Nat) : Int), .any, .any, .any, .any, .any, .any, .any, .any, .any, .any, .any, .any, .any, .any, .any, .any, .any, .any, .any, .any, .any, .any, .any], ⟨(.inl t82), (.inr rfl), (.inr rfl), (.inl t82), (.inl t82), (.inr rfl), (.inr rfl), (.inr rfl), (.inr rfl), (.inr rfl), (.inr rfl), (.inr rfl), (.inr rfl), (.inr rfl), (.inr rfl), (.inr rfl), (.inr rfl), (.inr rfl), (.inr rfl), (.inr rfl), (.inr rfl), (.inr rfl), (.inr rfl), (.inr rfl), (.inr rfl), (.inr rfl), (.inr rfl), (.inr rfl), trivial⟩, 0, ⟨rfl, by omega⟩, rfl⟩ ?_
  rintro m sl h' ⟨i, ⟨hm, hi⟩, hst⟩
  obtain ⟨rfl, rfl⟩ := St.mk.inj hst
  refine c9.seq ?_
  refine c7z ?_
  refine m7.pre 4 t11 ?_
  refine c6z ?_
  refine c9.split 9 rfl (fun e1 => ?_) (fun e1 => ?_)
  · try simp only [e1]
    have qe1 := e1; try replace qe1 := s8z qe1
    refine c9.wQ rfl ?_
    refine c67z ?_
    refine c9.seq ?_
    refine c9.block ?_
    refine c9.seq ?_
    have hdd := valD_nn (i := i) (by omega) hd
    have hvt := C2 (l := l) (k := i) (by omega)
    have hvm := DU (l := l) (k := i + 1) (m := l.length) (by omega)
    rw [List.take_length] at hvm
    have htd : (9223372036854775807 - (((bat l i).toNat : Int) - 48)).tdiv 10 = (9223372036854775807 - (((bat l i).toNat : Int) - 48)) / 10 := Int.tdiv_eq_ediv_of_nonneg (by omega)
    have htd2 : ((9223372036854775807 - (((bat l i).toNat : Int) - 48)).tdiv 10 : Int) < 9223372036854775808 ∧ 0 ≤ (9223372036854775807 - (((bat l i).toNat : Int) - 48)).tdiv 10 := by rw [htd]; omega
    refine c9.region s9 ?_
    refine m7.pre 7 t11 ?_
    refine c133z ?_
    refine c7z ?_
    refine m7.pre 5 t11 ?_
    refine c6z ?_
    refine c9.split 22 rfl (fun e2 => ?_) (fun e2 => ?_)
    · exfalso; rw [htd] at e2; simp only [decide_eq_true_eq, gt_iff_lt] at e2; omega
    · try simp only [e2]
      have qe2 := e2; try replace qe2 := s8z qe2
      refine c98z ?_
      refine c9.region s9 ?_
      refine m7.pre 5 t11 ?_
      refine c6z ?_
      refine c9.region s9 ?_
      refine m7.pre 3 t11 ?_
      refine m7.nil ?_
      exact ⟨l.length - (i + 1), by omega, [.vec l.length (rL l), .any, .any, .int .i64 ((uR (l.take (i + 1)) : Nat) : Int), .int .i64 (((i + 1) : Nat) : Int), .any, .any, .any, .any, .any, .any, .any, .any, .any, .any, .any, .any, .any, .any, .any, .any, .any, .any, .any, .any, .any, .any, .any], ⟨(.inl t82), (.inr rfl), (.inr rfl), (.inl t82), (.inl t82), (.inr rfl), (.inr rfl), (.inr rfl), (.inr rfl), (.inr rfl), (.inr rfl), (.inr rfl), (.inr rfl), (.inr rfl), (.inr rfl), (.inr rfl), (.inr rfl), (.inr rfl), (.inr rfl), (.inr rfl), (.inr rfl), (.inr rfl), (.inr rfl), (.inr rfl), (.inr rfl), (.inr rfl), (.inr rfl), (.inr rfl), trivial⟩, (i + 1), ⟨rfl, by omega⟩, rfl⟩
  · try simp only [e1]
    have qe1 := e1; try replace qe1 := s8z qe1
    refine c9.V9 rfl ?_
    refine c9.exit ?_
    obtain rfl : i = l.length := by omega
    rw [List.take_length] at *
    change c9 _ _ _ _ _
    refine c7z ?_
    refine m7.pre 2 t11 ?_
    refine c63z ?_
    refine Ends.mk (by simp only [res89, uT, iF, kC]; first | rfl | (simp (maxSteps := 2000000) (disch := omega) only [go_sem, Nat.reduceBEq, Nat.reduceAdd, Nat.reduceSub, Nat.reduceLeDiff, Nat.reduceMul, reduceIte, reduceCtorEq, Int.reduceNeg, Int.reduceToNat, Nat.reduceLT, Int.reduceLE, Int.reduceLT, Int.reduceAdd, Int.reduceSub, Int.reduceMul, pV, if_false, show ((10 : Int) = 0) = False from by simp, if_pos, if_neg]; rfl)) ?_
    exact ⟨[], _, (List.append_nil _).symm, t45, by rfl⟩
theorem app_tok {a : Blk} {l : c6} {zs : List AV} {x y z u : AV} (hz : zs.length = n * 4) (hn : n < 10000) : j5 cfg 133 (p4 133 4 g zs :: a :: ⟨0, false, 133, 4, [x, y, z, u], 0⟩ :: l) (.own 0 g 0 n) (.own 2 0 0 1) = some (.own 0 (g + 1) 0 (n + 1), p4 133 4 (g + 1) (zs ++ [x, y, z, u]) :: a :: ⟨0, false, 133, 4, [x, y, z, u], 0⟩ :: l) := by
  rw [z1 (C := cfg) (K := 4) (m := 1) (new := [x, y, z, u]) (zs := zs) rfl rfl (by omega) hz rfl (by omega) t99 rfl (by decide) (by omega)]
  rfl
theorem LF {l : c6} {zs : List AV} {x y z u : AV} (hz : zs.length = n * 4) (hn : n < 10000) : j5 cfg 133 (p4 133 4 g zs :: ⟨0, false, 133, 4, [x, y, z, u], 0⟩ :: l) (.own 0 g 0 n) (.own 1 0 0 1) = some (.own 0 (g + 1) 0 (n + 1), p4 133 4 (g + 1) (zs ++ [x, y, z, u]) :: ⟨0, false, 133, 4, [x, y, z, u], 0⟩ :: l) := by
  rw [z1 (C := cfg) (K := 4) (m := 1) (new := [x, y, z, u]) (zs := zs) rfl rfl (by omega) hz rfl (by omega) t99 rfl (by decide) (by omega)]
  rfl
theorem nV {k n p : Int} : w6 [.int .i64 k, .str s, .int .i64 n, .int .i64 p] := w6.cons .int (w6.cons .str (w6.cons .int (w6.cons .int .nil)))
theorem jJ {a b : List AV} (h : w6 a) (h' : w6 b) : w6 (a ++ b) := fun x hx => (List.mem_append.1 hx).elim (h x) (h' x)
theorem QM (hs : Span L isD i e) (hv : uR ((L.drop i).take (e - i)) < 9223372036854775808) (hl : L.length < 1000000) : CallA Tryz.prog cfg 89 [.vec (e - i) (rL ((L.drop i).take (e - i)))] h (fun y h' => y = .int .i64 ((uR ((L.drop i).take (e - i)) : Nat) : Int) ∧ h' = h) := by
  have hle := hs.le
  have e1 : e - i = ((L.drop i).take (e - i)).length := by rw [List.length_take, List.length_drop]; omega
  have := c_numv (h := h) _ (spanD hs) hv (by omega)
  rwa [← e1] at this
section
attribute [local go_sem] rX cY Option.bind_eq_bind QG QJ QK takeL H5 Nat.add_sub_cancel_left app_tok LF take_one B8 xO wrap64 uS
theorem c_lex0 (L : Bs) (N : Nat) (hx : LX (L.drop 0) N) (hN : N ≤ 4000) (hl : L.length ≤ 262144) : CallA Tryz.prog cfg 57 [.vec L.length (rL L)] [] (fun y' h' => SK y' = .tup [.any, .int .i64 L.length, .int .i64 0] ∧ h' = []) := by
  refine .bz Tryz.f57 124 ?_
  have hs0 := xQ rfl hx (by omega)
  refine c86z ?_
  refine .spl 11 rfl rfl (fun e1 => by exfalso; simp only [decide_eq_true_eq, gt_iff_lt] at e1; omega) (fun e1 => ?_)
  try simp only [e1]
  have qe1 := fact e1
  refine c111z ?_
  refine c66z ?_
  refine .ca rfl rfl (QL L 0 N hx (by omega) (by omega)) ?_
  refine c122z ?_
  refine c9.A5 5 rfl ?_
  refine .z7 (fun m st => ∃ (q : Nat) (k : Nat) (n : Nat) (zs : List AV), (m = L.length - q ∧ (k + n ≤ 4000 ∧ LX (L.drop q) n ∧ q ≤ L.length ∧ (q < L.length → uQ (bat L q) = false) ∧ zs.length = k * 4 ∧ w6 zs)) ∧ st = ⟨mkS 124 [(0, AV.vec L.length (rL L)), (5, AV.own 0 k 0 k), (6, AV.int .i64 ((q : Nat) : Int))], [p4 133 4 k zs]⟩) (.v ⟨(sk L 0), 0, N, [], ⟨rfl, ⟨by omega, hs0.2.2.1, hs0.2.1, hs0.2.2.2, rfl, w6.nil⟩⟩, rfl⟩) ?_
  rintro m sl h' ⟨q, k, n, zs, ⟨hm, ⟨hkn, hX, hq, hsp, hz, hpl⟩⟩, hst⟩
  obtain ⟨rfl, rfl⟩ := St.mk.inj hst; clear hst
  refine .sb ?_
  refine c0z ?_
  refine u2z ?_ ?_
  ·intro e2 qe2
   refine c72z ?_
   refine c150z ?_
   exact ⟨_, _, rfl, by (show gJ 0 _ 6 (.tup [.own 0 (k + 1) 0 (k + 1), .int .i64 ((q : Nat) : Int), .int .i64 0]) = _; simp only [nL, dT, nM, o2, Nat.not_lt_zero, if_false]; rw [iK (e := 133) (K := 4) (g := k + 1) (zs := zs ++ _) rfl (by decide) t80 (by omega) (w6.frz (jJ hpl nV) _ _ _)]; rfl), by rw [show q = L.length from by omega]; rfl⟩
  intro e2 qe2
  refine .sk ?_
  refine c19z ?_
  refine .sb ?_
  have hsp' := hsp (by omega)
  refine c31z ?_
  refine .ca rfl rfl (xR _) ?_
  refine .n ?_
  refine u2z ?_ ?_
  ·intro e3 qe3
   refine .sb ?_
   obtain ⟨ee, mm, hspn, hle16, hnm, hX2⟩ := hX.DS (by omega) (by assumption)
   have hlt := hspn.lt
   refine .z7 (fun m st => ∃ (j : Nat), (m = ee - j ∧ (q ≤ j ∧ j ≤ ee)) ∧ st = ⟨mkS 124 [(0, AV.vec L.length (rL L)), (5, AV.own 0 k 0 k), (6, AV.int .i64 ((q : Nat) : Int)), (7, AV.ptr 1 0 0), (8, AV.int .i64 ((j : Nat) : Int))], [p4 133 4 k zs, ⟨0, false, 133, 4, [.int .i64 0, .str ByteArray.empty, .int .i64 0, .int .i64 ((q : Nat) : Int)], 0⟩]⟩) (.v ⟨q, ⟨rfl, ⟨Nat.le_refl _, Nat.le_of_lt hspn.lt⟩⟩, rfl⟩) ?_
   rintro m sl h' ⟨j, ⟨hm, ⟨hj1, hj2⟩⟩, hst⟩
   obtain ⟨rfl, rfl⟩ := St.mk.inj hst; clear hst
   have hle := hspn.le
   refine .seq ?_
   refine c23z ?_
   refine .spl 50 rfl rfl (fun e4 => ?_) (fun e4 => ?_)
   ·try simp only [e4]
    have qe4 := fact e4
    refine .k 4 [(4, 50)] ?_
    refine .ca rfl rfl (xR _) ?_
    refine .k 1 [(4, 50)] ?_
    refine .spl 56 rfl rfl (fun e5 => ?_) (fun e5 => ?_)
    ·try simp only [e5]
     have qe5 := fact e5
     refine .m [(4, 50), (10, 56)] ?_
     refine .T ?_
     refine c171z ?_
     refine .c7 [0, 5, 6, 7, 8] ?_
     refine .rz ?_
     have hje := H6 hspn hj2 (by omega) t178
     exact ⟨_, by omega, .v ⟨(j + 1), ⟨rfl, ⟨by omega, by omega⟩⟩, rfl⟩ (he := t160)⟩
    try simp only [e5]
    have qe5 := fact e5
    refine .k 4 [(10, 56)] ?_
    refine .ca rfl rfl (xS _) ?_
    refine .m [(4, 50)] ?_
    refine u2z ?_ ?_
    ·intro e6 qe6
     refine c171z ?_
     refine .c7 [0, 5, 6, 7, 8] ?_
     refine .rz ?_
     have hje := H6 hspn hj2 (by omega) t178
     exact ⟨_, by omega, .v ⟨(j + 1), ⟨rfl, ⟨by omega, by omega⟩⟩, rfl⟩ (he := t160)⟩
    intro e6 qe6
    refine .exit ?_
    have hje : ee = j := (rN hspn hj1 hj2 (fun hlt => by first | omega | assumption | simp_all [isW])).symm
    subst hje
    change c9 ..
    refine c91z ?_
    refine c23z ?_
    refine .ca rfl rfl (TQ _) ?_
    refine .nil ?_
    refine u2z ?_ ?_
    ·intro e7 qe7
     refine c1z ?_
     refine c233z ?_
     refine .spl 111 rfl rfl (fun e8 => by exfalso; simp only [beq_iff_eq] at e8; omega) (fun e8 => ?_)
     try simp only [e8]
     have qe8 := fact e8
     refine c214z ?_
     have hs1 := xQ rfl hX2 (by omega)
     exact ⟨_, by omega, .v ⟨(sk L ee), (k + 1), mm, (zs ++ [.int .i64 _, .str _, .int .i64 _, .int .i64 ((q : Nat) : Int)]), ⟨rfl, ⟨by omega, hs1.2.2.1, hs1.2.1, hs1.2.2.2, t80, jJ hpl nV⟩⟩, rfl⟩ (he := by rfl) (hk := t52)⟩
    intro e7 qe7
    refine .z ?_
    refine .spl 77 rfl rfl (fun e9 => by exfalso; simp only [decide_eq_true_eq, gt_iff_lt] at e9; omega) (fun e9 => ?_)
    try simp only [e9]
    have qe9 := fact e9
    refine c45z ?_
    refine c233z ?_
    refine .spl 111 rfl rfl (fun e10 => by exfalso; simp only [beq_iff_eq] at e10; omega) (fun e10 => ?_)
    try simp only [e10]
    have qe10 := fact e10
    refine c214z ?_
    have hs1 := xQ rfl hX2 (by omega)
    exact ⟨_, by omega, .v ⟨(sk L ee), (k + 1), mm, (zs ++ [.int .i64 _, .str _, .int .i64 _, .int .i64 ((q : Nat) : Int)]), ⟨rfl, ⟨by omega, hs1.2.2.1, hs1.2.1, hs1.2.2.2, t80, jJ hpl nV⟩⟩, rfl⟩ (he := by rfl) (hk := t52)⟩
   try simp only [e4]
   have qe4 := fact e4
   refine .k 8 [(4, 50), (10, 56)] ?_
   refine .m [(4, 50), (10, 56)] ?_
   refine .F ?_
   refine .exit ?_
   have hje : ee = j := (rN hspn hj1 hj2 (fun hlt => by first | omega | assumption | simp_all [isW])).symm
   subst hje
   change c9 ..
   refine c91z ?_
   refine c23z ?_
   refine .ca rfl rfl (TQ _) ?_
   refine .nil ?_
   refine u2z ?_ ?_
   ·intro e11 qe11
    refine c1z ?_
    refine c233z ?_
    refine .spl 111 rfl rfl (fun e12 => by exfalso; simp only [beq_iff_eq] at e12; omega) (fun e12 => ?_)
    try simp only [e12]
    have qe12 := fact e12
    refine c214z ?_
    have hs1 := xQ rfl hX2 (by omega)
    exact ⟨_, by omega, .v ⟨(sk L ee), (k + 1), mm, (zs ++ [.int .i64 _, .str _, .int .i64 _, .int .i64 ((q : Nat) : Int)]), ⟨rfl, ⟨by omega, hs1.2.2.1, hs1.2.1, hs1.2.2.2, t80, jJ hpl nV⟩⟩, rfl⟩ (he := by rfl) (hk := t52)⟩
   intro e11 qe11
   refine .z ?_
   refine .spl 77 rfl rfl (fun e13 => by exfalso; simp only [decide_eq_true_eq, gt_iff_lt] at e13; omega) (fun e13 => ?_)
   try simp only [e13]
   have qe13 := fact e13
   refine c45z ?_
   refine c233z ?_
   refine .spl 111 rfl rfl (fun e14 => by exfalso; simp only [beq_iff_eq] at e14; omega) (fun e14 => ?_)
   try simp only [e14]
   have qe14 := fact e14
   refine c214z ?_
   have hs1 := xQ rfl hX2 (by omega)
   exact ⟨_, by omega, .v ⟨(sk L ee), (k + 1), mm, (zs ++ [.int .i64 _, .str _, .int .i64 _, .int .i64 ((q : Nat) : Int)]), ⟨rfl, ⟨by omega, hs1.2.2.1, hs1.2.1, hs1.2.2.2, t80, jJ hpl nV⟩⟩, rfl⟩ (he := by rfl) (hk := t52)⟩
  intro e3 qe3
  refine .c7 [0, 5, 6, 7, 8] ?_
  refine c31z ?_
  refine .ca rfl rfl (xS _) ?_
  refine .n ?_
  refine u2z ?_ ?_
  ·intro e15 qe15
   refine .sb ?_
   obtain ⟨ee, mm, hspn, hvv, hnm, hX2⟩ := hX.LC (by omega) (by assumption)
   have hlt := hspn.lt
   refine .z7 (fun m st => ∃ (j : Nat), (m = ee - j ∧ (q ≤ j ∧ j ≤ ee)) ∧ st = ⟨mkS 124 [(0, AV.vec L.length (rL L)), (5, AV.own 0 k 0 k), (6, AV.int .i64 ((q : Nat) : Int)), (7, AV.ptr 1 0 0), (8, AV.int .i64 ((j : Nat) : Int))], [p4 133 4 k zs, ⟨0, false, 133, 4, [.int .i64 0, .str ByteArray.empty, .int .i64 0, .int .i64 ((q : Nat) : Int)], 0⟩]⟩) (.v ⟨q, ⟨rfl, ⟨Nat.le_refl _, Nat.le_of_lt hspn.lt⟩⟩, rfl⟩) ?_
   rintro m sl h' ⟨j, ⟨hm, ⟨hj1, hj2⟩⟩, hst⟩
   obtain ⟨rfl, rfl⟩ := St.mk.inj hst; clear hst
   have hle := hspn.le
   refine .seq ?_
   refine c23z ?_
   refine .spl 89 rfl rfl (fun e16 => ?_) (fun e16 => ?_)
   ·try simp only [e16]
    have qe16 := fact e16
    refine .k 4 [(4, 89)] ?_
    refine .ca rfl rfl (xS _) ?_
    refine .n ?_
    refine u2z ?_ ?_
    ·intro e17 qe17
     refine c171z ?_
     refine .c7 [0, 5, 6, 7, 8] ?_
     refine .rz ?_
     have hje := H6 hspn hj2 (by omega) t178
     exact ⟨_, by omega, .v ⟨(j + 1), ⟨rfl, ⟨by omega, by omega⟩⟩, rfl⟩ (he := t160)⟩
    intro e17 qe17
    refine .exit ?_
    have hje : ee = j := (rN hspn hj1 hj2 (fun hlt => by first | omega | assumption | simp_all [isW])).symm
    subst hje
    change c9 ..
    refine .c7 [0, 5, 6, 7, 8] ?_
    refine c31z ?_
    refine .ca rfl rfl (QM hspn hvv (by omega)) ?_
    refine .n ?_
    refine .z ?_
    refine .spl 107 rfl rfl (fun e18 => by exfalso; simp only [decide_eq_true_eq] at e18; omega) (fun e18 => ?_)
    try simp only [e18]
    have qe18 := fact e18
    refine c45z ?_
    refine c233z ?_
    refine .spl 111 rfl rfl (fun e19 => by exfalso; simp only [beq_iff_eq] at e19; omega) (fun e19 => ?_)
    try simp only [e19]
    have qe19 := fact e19
    refine c214z ?_
    have hs1 := xQ rfl hX2 (by omega)
    exact ⟨_, by omega, .v ⟨(sk L ee), (k + 1), mm, (zs ++ [.int .i64 _, .str _, .int .i64 _, .int .i64 ((q : Nat) : Int)]), ⟨rfl, ⟨by omega, hs1.2.2.1, hs1.2.1, hs1.2.2.2, t80, jJ hpl nV⟩⟩, rfl⟩ (he := by rfl) (hk := t52)⟩
   try simp only [e16]
   have qe16 := fact e16
   refine .m [(4, 89)] ?_
   refine .F ?_
   refine .exit ?_
   have hje : ee = j := (rN hspn hj1 hj2 (fun hlt => by first | omega | assumption | simp_all [isW])).symm
   subst hje
   change c9 ..
   refine .c7 [0, 5, 6, 7, 8] ?_
   refine c31z ?_
   refine .ca rfl rfl (QM hspn hvv (by omega)) ?_
   refine .n ?_
   refine .z ?_
   refine .spl 107 rfl rfl (fun e20 => by exfalso; simp only [decide_eq_true_eq] at e20; omega) (fun e20 => ?_)
   try simp only [e20]
   have qe20 := fact e20
   refine c45z ?_
   refine c233z ?_
   refine .spl 111 rfl rfl (fun e21 => by exfalso; simp only [beq_iff_eq] at e21; omega) (fun e21 => ?_)
   try simp only [e21]
   have qe21 := fact e21
   refine c214z ?_
   have hs1 := xQ rfl hX2 (by omega)
   exact ⟨_, by omega, .v ⟨(sk L ee), (k + 1), mm, (zs ++ [.int .i64 _, .str _, .int .i64 _, .int .i64 ((q : Nat) : Int)]), ⟨rfl, ⟨by omega, hs1.2.2.1, hs1.2.1, hs1.2.2.2, t80, jJ hpl nV⟩⟩, rfl⟩ (he := by rfl) (hk := t52)⟩
  intro e15 qe15
  obtain ⟨hsg1, hsg2, mm, hnm, hX2⟩ := hX.DT (by omega) hsp' (by first | assumption | simp_all) (by first | assumption | simp_all)
  refine c18z ?_
  refine .ca rfl rfl (c_sign L q (by omega) (by omega)) ?_
  refine .n ?_
  refine .c7 [0, 5, 6, 7, 8] ?_
  refine c19z ?_
  refine .spl 38 rfl rfl (fun e22 => by exfalso; simp only [beq_iff_eq] at e22; omega) (fun e22 => ?_)
  try simp only [e22]
  have qe22 := fact e22
  refine c45z ?_
  refine c0z ?_
  refine .spl 111 rfl rfl (fun e23 => by exfalso; simp only [beq_iff_eq] at e23; omega) (fun e23 => ?_)
  try simp only [e23]
  have qe23 := fact e23
  refine c214z ?_
  have hs1 := xQ rfl hX2 (by omega)
  exact ⟨_, by omega, .v ⟨(sk L (q + sgn L q)), (k + 1), mm, (zs ++ [.int .i64 _, .str _, .int .i64 _, .int .i64 ((q : Nat) : Int)]), ⟨rfl, ⟨by omega, hs1.2.2.1, hs1.2.1, hs1.2.2.2, t80, jJ hpl nV⟩⟩, rfl⟩ (he := by rfl) (hk := t52)⟩
end
end Go.Proofs.YtfbjlfhjkojmkaaGreat
end
section
namespace Go.Proofs.YtfbjlfhjkojmkaaGreat
open Go.Ab Go.Un
theorem wrapU {n : Int} (h1 : 0 ≤ n) (h2 : n < 18446744073709551616) : IntKind.wrap .u64 n = n := by
  rw [IntKind.wrap_u64]; omega
theorem C5 : ∀ (f n : Nat), n < 10 ^ f → 0 < f → uW (f + 1) n = uW f n
  | 0, n, h, hf => by omega
  | f + 1, n, h, _ => by
    have e : uW (f + 1 + 1) n = if n < 10 then [dig n] else uW (f + 1) (n / 10) ++ [dig n] := rfl
    have e2 : uW (f + 1) n = if n < 10 then [dig n] else uW f (n / 10) ++ [dig n] := rfl
    rw [e, e2]
    split
    · rfl
    · rename_i hn
      have h1 : n / 10 < 10 ^ f := by rw [Nat.pow_succ] at h; omega
      cases f with
      | zero => simp at h1; omega
      | succ f => rw [C5 (f + 1) (n / 10) h1 (by omega)]
theorem C6 {n : Nat} (h : n < 10000000000000000000) (h0 : 0 < n / 10) : vG n = vG (n / 10) ++ [dig n] := by
  have e2 : vG n = if n < 10 then [dig n] else uW 19 (n / 10) ++ [dig n] := rfl
  rw [e2, if_neg (by omega)]
  unfold vG
  rw [C5 19 (n / 10) (by omega) (by omega)]
theorem vM {n : Nat} (h : n < 10) : vG n = [dig n] := by
  have e2 : vG n = if n < 10 then [dig n] else uW 19 (n / 10) ++ [dig n] := rfl
  rw [e2, if_pos h]
def YK (n : Nat) (s : Bs) : Bs := if n = 0 then s else vG n ++ s
theorem Y4 {n : Nat} (h : n < 10000000000000000000) : YK (n / 10) [dig n] = vG n := by
  unfold YK
  split
  · rw [vM (by omega)]
  · rw [C6 h (by omega)]
variable {s : Bs}
theorem DX {n : Nat} (h : n < 10000000000000000000) (h0 : 0 < n) : YK (n / 10) (dig n :: s) = YK n s := by
  unfold YK
  rw [if_neg (by omega : ¬ n = 0)]
  split
  · rw [vM (by omega)]; rfl
  · rw [C6 h (by omega)]; simp
theorem DY {n : Nat} : UInt8.ofNat (((48 : Int) + (((n % 10 : Nat)) : Int)).toNat) = dig n := by
  unfold dig
  congr 1
theorem QN {n : Nat} : ((n : Int)).tmod 10 = ((n % 10 : Nat) : Int) := rfl
theorem QO {n : Nat} : ((n : Int)).tdiv 10 = ((n / 10 : Nat) : Int) := rfl
theorem QP {a : UInt8} : (⟨#[a]⟩ : BA) ++ (⟨s.toArray⟩ : BA) = ⟨(a :: s).toArray⟩ := by
  apply ByteArray.ext
  simp [ByteArray.data_append]
theorem DZ : (⟨s.toArray⟩ : BA).size = s.length := by rw [jD]; rfl
attribute [local go_sem] lP w9 m8 aN l9 Int.natCast_nonneg Int.natCast_inj List.length_map wrap64 Y3 wrapU eJ P6 B8 G9 P7 xO max2 kJ
theorem LG {n m : Nat} (h : n * 10 ^ s.length ≤ m) : n / 10 * 10 ^ (dig n :: s).length ≤ m := by
  rw [List.length_cons, Nat.pow_succ, Nat.mul_comm (10 ^ s.length), ← Nat.mul_assoc]
  exact Nat.le_trans (Nat.mul_le_mul_right _ (Nat.div_mul_le_self n 10)) h
theorem LH {n m : Nat} (h0 : 0 < n) (h : n * 10 ^ s.length ≤ m) (hm : m < 10000000000000000000) : (dig n :: s).length ≤ 20 := by
  rw [List.length_cons]
  by_cases hs : s.length + 1 ≤ 20
  · exact hs
  · have h1 : 10 ^ 20 ≤ 10 ^ s.length := Nat.pow_le_pow_right (by omega) (by omega)
    have h2 : 1 * 10 ^ s.length ≤ n * 10 ^ s.length := Nat.mul_le_mul_right _ h0
    omega
theorem c_dig0 (m0 : Nat) (hm0 : m0 < 10000000000000000000) : CB 120 [.int .u64 (m0 : Int)] [] (.str ⟨(vG m0).toArray⟩) := by
  refine CallA.body (Q := fun y' => y' = .str ⟨(vG m0).toArray⟩) s9 fn120 rfl ?_
  simp only [ntm120, List.length_cons, List.length_nil, Nat.reduceAdd, Nat.reduceSub, List.replicate, List.cons_append, List.nil_append]
  refine c7z ?_
  refine m7.pre 1 t12 ?_
  refine c6z ?_
  refine c7z ?_
  refine m7.pre 7 t12 ?_
  refine c133z ?_
  refine c7z ?_
  refine m7.pre 3 t12 ?_
  refine c6z ?_
  refine c9.block ?_
  refine c9.w7 ([⟨0, false, 5, 1, [.int .u8 (48 + ((m0 % 10 : Nat) : Int))], 0⟩]) t163 ?_
  refine c9.loopW (fun m st => ∃ (n : Nat) (s : Bs), (m = n ∧ (n < 10000000000000000000 ∧ YK n s = vG m0 ∧ s.length ≤ 20 ∧ n * 10 ^ s.length ≤ m0)) ∧ st = ⟨[.int .u64 ((n : Nat) : Int), .any, .any, .str ⟨s.toArray⟩, .any, .any, .any, .any, .any, .any, .any, .any, .any, .any, .any, .any, .any, .any, .any, .any, .any, .any, .any, .any, .any], [⟨0, false, 5, 1, [.int .u8 (48 + ((m0 % 10 : Nat) : Int))], 0⟩]⟩) ((m0 / 10)) ⟨[.int .u64 (((m0 / 10) : Nat) : Int), .any, .any, .str ⟨[dig m0].toArray⟩, .any, .any, .any, .any, .any, .any, .any, .any, .any, .any, .any, .any, .any, .any, .any, .any, .any, .any, .any, .any, .any], [⟨0, false, 5, 1, [.int .u8 (48 + ((m0 % 10 : Nat) : Int))], 0⟩], [], (List.append_nil _).symm, Nat.le_refl _, z5.refl _, ⟨(.inl t159), (.inr rfl), (.inr rfl), (.inl t159), (.inr rfl), (.inr rfl), (.inr rfl), (.inr rfl), (.inr rfl), (.inr rfl), (.inr rfl), (.inr rfl), (.inr rfl), (.inr rfl), (.inr rfl), (.inr rfl), (.inr rfl), (.inr rfl), (.inr rfl), (.inr rfl), (.inr rfl), (.inr rfl), (.inr rfl), (.inr rfl), (.inr rfl), trivial⟩, eX.get ⟨t3, t3, t3, t3, t3, t3, t3, t3, t3, t3, t3, t3, t3, t3, t3, t3, t3, t3, t3, t3, t3, t3, t3, t3, t3, trivial⟩, (m0 / 10), [dig m0], ⟨rfl, ⟨by omega, Y4 hm0, by simp, t57⟩⟩, rfl⟩ ?_
  rintro m sl h' ⟨n, s, ⟨hm, ⟨hn, hP, hs, hM⟩⟩, hst⟩
  obtain ⟨rfl, rfl⟩ := St.mk.inj hst; clear hst
  refine c9.seq ?_
  refine c7z ?_
  refine m7.pre 2 t12 ?_
  refine c6z ?_
  refine c9.split 13 rfl (fun e1 => ?_) (fun e1 => ?_)
  · try simp only [e1]
    have qe1 := e1; try replace qe1 := s8z qe1
    refine c9.wQ rfl ?_
    refine c67z ?_
    refine c9.seq ?_
    refine c9.block ?_
    refine c9.region s9 ?_
    refine m7.pre 9 t12 ?_
    refine c6z ?_
    refine c9.region s9 ?_
    refine m7.pre 3 t12 ?_
    refine m7.nil ?_
    have hP2 := (DX (s := s) hn (by omega)).trans hP
    exact ⟨(n / 10), by omega, [.int .u64 (((n / 10) : Nat) : Int), .any, .any, .str ⟨(dig n :: s).toArray⟩, .any, .any, .any, .any, .any, .any, .any, .any, .any, .any, .any, .any, .any, .any, .any, .any, .any, .any, .any, .any, .any], [⟨0, false, 5, 1, [.int .u8 (48 + ((m0 % 10 : Nat) : Int))], 0⟩], _, by rfl, by simp, by exact z5.refl _, ⟨(.inl t159), (.inr rfl), (.inr rfl), (.inl t159), (.inr rfl), (.inr rfl), (.inr rfl), (.inr rfl), (.inr rfl), (.inr rfl), (.inr rfl), (.inr rfl), (.inr rfl), (.inr rfl), (.inr rfl), (.inr rfl), (.inr rfl), (.inr rfl), (.inr rfl), (.inr rfl), (.inr rfl), (.inr rfl), (.inr rfl), (.inr rfl), (.inr rfl), trivial⟩, eX.get ⟨t3, t3, t3, t3, t3, t3, t3, t3, t3, t3, t3, t3, t3, t3, t3, t3, t3, t3, t3, t3, t3, t3, t3, t3, t3, trivial⟩, (n / 10), (dig n :: s), ⟨rfl, ⟨by omega, hP2, LH (by omega) hM hm0, LG hM⟩⟩, rfl⟩
  · try simp only [e1]
    have qe1 := e1; try replace qe1 := s8z qe1
    refine c9.V9 rfl ?_
    refine c9.exit ?_
    change c9 _ _ _ _ _
    refine c7z ?_
    refine m7.pre 2 t12 ?_
    refine c63z ?_
    refine Ends.mk (by simp only [PW, uT, iF, kC]; first | rfl | (simp (maxSteps := 2000000) (disch := omega) only [go_sem, Nat.reduceBEq, Nat.reduceAdd, Nat.reduceSub, Nat.reduceLeDiff, Nat.reduceMul, reduceIte, reduceCtorEq, Int.reduceNeg, Int.reduceToNat, Nat.reduceLT, Int.reduceLE, Int.reduceLT, Int.reduceAdd, Int.reduceSub, Int.reduceMul, QN, QO, DY, gL, rd, QP, DZ, show ((10 : Int) = 0) = False from by simp, show (⟨#[dig m0]⟩ : BA) = ⟨[dig m0].toArray⟩ from rfl, pV, if_pos, if_neg]; rfl)) ?_
    exact ⟨_, _, (by first | rfl | exact (List.append_nil _).symm | (simp only [List.append_assoc, List.cons_append, List.nil_append]; rfl)), by first | rfl | (simp only [gJ, jX, o2, r7, gQ]; rfl), by (rw [← hP, show n = 0 from by omega]; rfl)⟩
variable {h : c6}
theorem LJ (n : Nat) (hn : n < 10000000000000000000) : CallA Tryz.prog cfg 120 [.int .u64 (n : Int)] h (fun y h' => y = .str ⟨(vG n).toArray⟩ ∧ h' = h) := C3 rfl ((c_dig0 n hn).mono fun _ _ h => by rw [h.1]; rfl) h
theorem C7 (n : Int) (h0 : 0 ≤ n) (hn : n < 10000000000000000000) : CallA Tryz.prog cfg 120 [.int .u64 n] h (fun y h' => y = .str ⟨(vG n.toNat).toArray⟩ ∧ h' = h) := by
  have := LJ (h := h) n.toNat (by omega)
  rwa [Int.toNat_of_nonneg h0] at this
theorem c_num (n : Int) (h1 : -9000000000000000000 ≤ n) (h2 : n < 9000000000000000000) : CB 105 [.int .i64 n] h (.str (X5 n)) := by
  refine CallA.body (Q := fun y' => y' = .str (X5 n)) s9 fn105 rfl ?_
  simp only [ntm105, List.length_cons, List.length_nil, Nat.reduceAdd, Nat.reduceSub, List.replicate, List.cons_append, List.nil_append]
  have hs1 : (vG (-(n + 1) + 1).toNat).length ≤ 20 := rC 20 _
  refine c7z ?_
  refine m7.pre 1 t15 ?_
  refine c133z ?_
  refine c7z ?_
  refine m7.pre 2 t15 ?_
  refine c6z ?_
  refine c9.split 4 rfl (fun e1 => ?_) (fun e1 => ?_)
  · try simp only [e1]
    have qe1 := e1; try replace qe1 := s8z qe1
    refine c9.wQ rfl ?_
    refine c7z ?_
    refine m7.pre 5 t15 ?_
    refine m7.SA rfl rfl rfl hb120 (C7 _ (by omega) (by omega)) ?_
    refine m7.pre 2 t15 ?_
    refine c63z ?_
    refine Ends.mk t65 ?_
    exact ⟨[], _, (List.append_nil _).symm, t45, t122⟩
  · try simp only [e1]
    have qe1 := e1; try replace qe1 := s8z qe1
    refine c189z ?_
    refine m7.pre 2 t15 ?_
    refine m7.SA rfl rfl rfl hb120 (C7 _ (by omega) (by omega)) ?_
    refine m7.pre 1 t15 ?_
    refine c63z ?_
    refine Ends.mk t65 ?_
    exact ⟨[], _, (List.append_nil _).symm, t45, t122⟩
theorem strE1 : p5 cfg jB 20 126 [.int .i64 1] [] = some (.int .i64 6, []) := by kernel_rfl
theorem strE2 : p5 cfg jB 20 126 [.int .i64 2] [] = some (.int .i64 6, []) := by kernel_rfl
theorem strE3 : p5 cfg jB 20 126 [.int .i64 3] [] = some (.int .i64 5, []) := by kernel_rfl
theorem strE4 : p5 cfg jB 20 126 [.int .i64 4] [] = some (.int .i64 5, []) := by kernel_rfl
theorem strE5 : p5 cfg jB 20 126 [.int .i64 5] [] = some (.int .i64 4, []) := by kernel_rfl
theorem strE6 : p5 cfg jB 20 126 [.int .i64 6] [] = some (.int .i64 4, []) := by kernel_rfl
theorem strE7 : p5 cfg jB 20 126 [.int .i64 7] [] = some (.int .i64 4, []) := by kernel_rfl
theorem strE8 : p5 cfg jB 20 126 [.int .i64 8] [] = some (.int .i64 3, []) := by kernel_rfl
theorem strE9 : p5 cfg jB 20 126 [.int .i64 9] [] = some (.int .i64 3, []) := by kernel_rfl
theorem strE10 : p5 cfg jB 20 126 [.int .i64 10] [] = some (.int .i64 2, []) := by kernel_rfl
theorem strE11 : p5 cfg jB 20 126 [.int .i64 11] [] = some (.int .i64 2, []) := by kernel_rfl
theorem strE12 : p5 cfg jB 20 126 [.int .i64 12] [] = some (.int .i64 2, []) := by kernel_rfl
theorem strE13 : p5 cfg jB 20 126 [.int .i64 13] [] = some (.int .i64 2, []) := by kernel_rfl
theorem strE14 : p5 cfg jB 20 126 [.int .i64 14] [] = some (.int .i64 2, []) := by kernel_rfl
theorem strE15 : p5 cfg jB 20 126 [.int .i64 15] [] = some (.int .i64 2, []) := by kernel_rfl
theorem strE16 : p5 cfg jB 20 126 [.int .i64 16] [] = some (.int .i64 1, []) := by kernel_rfl
theorem strE17 : p5 cfg jB 20 126 [.int .i64 17] [] = some (.int .i64 0, []) := by kernel_rfl
theorem pH (o : Int) (h1 : 1 ≤ o) (h2 : o ≤ 17) : CallA Tryz.prog cfg 126 [.int .i64 o] h (fun y h' => y = .int .i64 (eV o) ∧ h' = h) := by
  have key : ∀ (k v : Int), p5 cfg jB 20 126 [.int .i64 k] [] = some (.int .i64 v, []) → eV k = v → CallA Tryz.prog cfg 126 [.int .i64 k] h (fun y h' => y = .int .i64 (eV k) ∧ h' = h) := fun k v he hv => by
    rw [hv]
    exact C3 rfl ((qU s9 X0 20 _ _ _ _ _ he).mono fun _ _ h => by rw [h.1]; rfl) h
  have hcases : o = 1 ∨ o = 2 ∨ o = 3 ∨ o = 4 ∨ o = 5 ∨ o = 6 ∨ o = 7 ∨ o = 8 ∨ o = 9 ∨ o = 10 ∨ o = 11 ∨ o = 12 ∨ o = 13 ∨ o = 14 ∨ o = 15 ∨ o = 16 ∨ o = 17 := by omega
  rcases hcases with rfl | rfl | rfl | rfl | rfl | rfl | rfl | rfl | rfl | rfl | rfl | rfl | rfl | rfl | rfl | rfl | rfl
  · exact key _ _ strE1 rfl
  · exact key _ _ strE2 rfl
  · exact key _ _ strE3 rfl
  · exact key _ _ strE4 rfl
  · exact key _ _ strE5 rfl
  · exact key _ _ strE6 rfl
  · exact key _ _ strE7 rfl
  · exact key _ _ strE8 rfl
  · exact key _ _ strE9 rfl
  · exact key _ _ strE10 rfl
  · exact key _ _ strE11 rfl
  · exact key _ _ strE12 rfl
  · exact key _ _ strE13 rfl
  · exact key _ _ strE14 rfl
  · exact key _ _ strE15 rfl
  · exact key _ _ strE16 rfl
  · exact key _ _ strE17 rfl
theorem LK {l : List Ex} {i : Nat} (h : i < l.length) : List.take 1 (List.drop (i * 4) (l8 l)) = [AV.int .i64 (l.getD i j9).op] := by
  have := congrArg (fun x => x.take 1) (read_es h)
  simp only [List.take_take, aT] at this
  simpa using this
variable {o : Int}
theorem nW (h1 : 1 ≤ o) (h2 : o ≤ 17) : 0 ≤ eV o ∧ eV o ≤ 6 ∧ (eV o = 6 ↔ o = 1 ∨ o = 2) ∧ (eV o = 5 ↔ o = 3 ∨ o = 4) := by
  have hcases : o = 1 ∨ o = 2 ∨ o = 3 ∨ o = 4 ∨ o = 5 ∨ o = 6 ∨ o = 7 ∨ o = 8 ∨ o = 9 ∨ o = 10 ∨ o = 11 ∨ o = 12 ∨ o = 13 ∨ o = 14 ∨ o = 15 ∨ o = 16 ∨ o = 17 := by omega
  rcases hcases with rfl | rfl | rfl | rfl | rfl | rfl | rfl | rfl | rfl | rfl | rfl | rfl | rfl | rfl | rfl | rfl | rfl <;> decide
variable {vars : List BA}
theorem GE.op : ∀ {d : Nat} {e : Ex}, GE vars d e → 1 ≤ e.op ∧ e.op ≤ 17
  | d, .leaf o n s, h => by
    have h' := iD.1 h
    simp only [Ex.op]
    omega
  | 0, .un o a, h => h.elim
  | 0, .bin o a b, h => h.elim
  | d + 1, .un o a, h => by have := h.1; simp only [Ex.op]; omega
  | d + 1, .bin o a b, h => by have := h.1; simp only [Ex.op]; omega
section
attribute [local go_sem] LK
theorem H7 (e : Ex) (k : Nat) (hk : k < e.args.length) (h1 : 1 ≤ e.op ∧ e.op ≤ 17) (h2 : 1 ≤ (e.args.getD k j9).op ∧ (e.args.getD k j9).op ≤ 17) (hl : e.args.length ≤ 2) : CB 127 [.agg [.int .i64 e.op, .int .i64 e.num, .str e.name, .vec e.args.length (l8 e.args)], .int .i64 (k : Int)] h (.bool (kF e k)) := by
  refine .bz Tryz.f127 29 ?_
  refine .z ?_
  refine .ss s9 (mkP 12 [0, 1, 0, 7, 15, 31, 63, 0, 128, 511, 1023, 2047] []) ?_
  refine .k 6 [] ?_
  refine .ca rfl rfl (pH _ h2.1 h2.2) ?_
  refine .k 2 [] ?_
  refine .ca rfl rfl (pH _ h1.1 h1.2) ?_
  refine .n [] ?_
  refine .c7 [1, 5, 6] ?_
  refine c31z ?_
  refine .spl 20 rfl rfl (fun e1 => ?_) (fun e1 => ?_)
  ·try simp only [e1]
   have qe1 := fact e1
   refine .k 8 [(3, 20), (7, 24)] ?_
   refine .n ?_
   exact .ret (.ex (hq := t73))
  try simp only [e1]
  have qe1 := fact e1
  refine .k 4 [(3, 20)] ?_
  refine .spl 24 rfl rfl (fun e2 => ?_) (fun e2 => ?_)
  ·try simp only [e2]
   have qe2 := fact e2
   refine .m [(3, 20), (7, 24)] ?_
   exact .ret (.ex (hq := t73))
  try simp only [e2]
  have qe2 := fact e2
  refine .m [(3, 20), (7, 24)] ?_
  exact .ret (.ex (hq := t73))
end
variable {a : Ex}
theorem Q1 (h1 : 1 ≤ o ∧ o ≤ 17) (h2 : 1 ≤ a.op ∧ a.op ≤ 17) : CB 127 [.agg [.int .i64 o, .int .i64 0, .str ByteArray.empty, .vec 1 (p9 a)], .int .i64 0] h (.bool (kF (.un o a) 0)) := by
  have := H7 (h := h) (.un o a) 0 t185 h1 h2 t185
  simpa only [Ex.op, Ex.num, Ex.name, Ex.args, l8, List.flatMap_cons, List.flatMap_nil, List.append_nil, List.length_cons, List.length_nil, Nat.zero_add, Int.natCast_zero, Int.cast_ofNat_Int] using this
variable {b : Ex}
theorem C8 (h1 : 1 ≤ o ∧ o ≤ 17) (h2 : 1 ≤ a.op ∧ a.op ≤ 17) : CB 127 [.agg [.int .i64 o, .int .i64 0, .str ByteArray.empty, .vec 2 (p9 a ++ p9 b)], .int .i64 0] h (.bool (kF (.bin o a b) 0)) := by
  have := H7 (h := h) (.bin o a b) 0 t185 h1 h2 t185
  simpa only [Ex.op, Ex.num, Ex.name, Ex.args, l8, List.flatMap_cons, List.flatMap_nil, List.append_nil, List.length_cons, List.length_nil, Nat.zero_add, Nat.reduceAdd, Int.natCast_zero, Int.cast_ofNat_Int] using this
theorem tF (h1 : 1 ≤ o ∧ o ≤ 17) (h2 : 1 ≤ b.op ∧ b.op ≤ 17) : CB 127 [.agg [.int .i64 o, .int .i64 0, .str ByteArray.empty, .vec 2 (p9 a ++ p9 b)], .int .i64 1] h (.bool (kF (.bin o a b) 1)) := by
  have := H7 (h := h) (.bin o a b) 1 t185 h1 h2 t185
  simpa only [Ex.op, Ex.num, Ex.name, Ex.args, l8, List.flatMap_cons, List.flatMap_nil, List.append_nil, List.length_cons, List.length_nil, Nat.zero_add, Nat.reduceAdd, Int.natCast_one, Int.cast_ofNat_Int] using this
theorem dV : p9 (.un o a) = [.int .i64 o, .int .i64 0, .str ByteArray.empty, .vec 1 (p9 a)] := rfl
theorem bU : p9 (.bin o a b) = [.int .i64 o, .int .i64 0, .str ByteArray.empty, .vec 2 (p9 a ++ p9 b)] := rfl
theorem aQ {n : Int} {s : BA} : p9 (.leaf o n s) = [.int .i64 o, .int .i64 n, .str s, .vec 0 []] := rfl
theorem gV {l : List AV} : List.take 4 (p9 a ++ l) = p9 a := by rw [← m8 a, List.take_left]
theorem gX {l : List AV} : List.drop 4 (p9 a ++ l) = l := by rw [← m8 a, List.drop_left]
theorem kZ {s : BA} : (s.toList == ByteArray.empty.toList) = decide (s.size = 0) := by
  rw [ByteArray.toList_eq, ByteArray.toList_eq, Bool.eq_iff_iff]
  simp only [beq_iff_eq, decide_eq_true_eq]
  constructor
  · intro h
    have := congrArg List.length h
    simpa using this
  · intro h
    exact List.length_eq_zero_iff.1 t172
theorem eq_mk {s : BA} : (⟨#[]⟩ : BA) = ByteArray.empty := rfl
theorem lA : ByteArray.empty.size = 0 := rfl
section
attribute [local go_sem] dV bU aQ gV gX eJ kZ eq_mk lA
theorem LL {vars : List BA} (n : Int) (hn : 0 ≤ n) : CB 118 [.agg (p9 (.leaf 1 n ByteArray.empty))] h (.bool true) := by
  refine .bz Tryz.f118 77 ?_
  have hst : eV 1 = 6 := rfl
  refine c154z ?_
  refine c99z ?_
  refine c218z ?_
  refine .z ?_
  refine .spl 10 rfl rfl (fun e1 => ?_) (fun e1 => by exfalso; first | omega | (replace e1 := s9z e1; omega) | (simp at e1; omega) | (simp at e1; done))
  try simp only [e1]
  have qe1 := fact e1
  refine .T ?_
  refine c239z ?_
  refine .ss s9 (mkP 28 [0, 1, 3, 7, 15, 31, 63, 127, 255, 511, 1023, 2047, 4095, 0, 8192, 24576, 57855, 123391, 254463, 516607, 1040895, 2089471, 4186623, 8380927, 16769535, 33546751, 33554431, 134217727] []) ?_
  refine .k 4 [] ?_
  refine .spl 15 rfl rfl (fun e2 => ?_) (fun e2 => by exfalso; first | omega | (replace e2 := s9z e2; omega) | (simp at e2; omega) | (simp at e2; done))
  try simp only [e2]
  have qe2 := fact e2
  refine .k 5 [(3, 15)] ?_
  refine .spl 20 rfl rfl (fun e3 => ?_) (fun e3 => by exfalso; first | omega | (replace e3 := s9z e3; omega) | (simp at e3; omega) | (simp at e3; done))
  try simp only [e3]
  have qe3 := fact e3
  refine .k 8 [(8, 20)] ?_
  refine .spl 28 rfl rfl (fun e4 => by exfalso; first | omega | (replace e4 := s9z e4; omega) | (simp at e4; omega) | (simp at e4; done)) (fun e4 => ?_)
  try simp only [e4]
  have qe4 := fact e4
  refine .k 8 [(16, 28), (21, 33)] ?_
  refine .n [] ?_
  refine .c7 [1, 3, 4, 5] ?_
  refine c18z ?_
  refine .spl 40 rfl rfl (fun e5 => by exfalso; first | omega | (replace e5 := s9z e5; omega) | (simp at e5; omega) | (simp at e5; done)) (fun e5 => ?_)
  try simp only [e5]
  have qe5 := fact e5
  refine .m [(2, 40)] ?_
  refine c45z ?_
  refine c83z ?_
  refine c125z ?_
  refine .spl 51 rfl rfl (fun e6 => by exfalso; first | omega | (replace e6 := s9z e6; omega) | (simp at e6; omega) | (simp at e6; done)) (fun e6 => ?_)
  try simp only [e6]
  have qe6 := fact e6
  refine .k 3 [(5, 51)] ?_
  refine .spl 54 rfl rfl (fun e7 => by exfalso; first | omega | (replace e7 := s9z e7; omega) | (simp at e7; omega) | (simp at e7; done)) (fun e7 => ?_)
  try simp only [e7]
  have qe7 := fact e7
  refine .k 8 [(8, 54), (12, 58)] ?_
  refine .m [(5, 51)] ?_
  refine c17z ?_
  refine c83z ?_
  refine c135z ?_
  refine .z ?_
  exact .ret (.ex (hq := by rfl))
end
section
attribute [local go_sem] dV bU aQ gV gX eJ kZ eq_mk lA
theorem LM {vars : List BA} (s : BA) (hn : isName (L8 s)) (hr : rM s = false) : CB 118 [.agg (p9 (.leaf 2 0 s))] h (.bool true) := by
  refine .bz Tryz.f118 77 ?_
  have hst : eV 2 = 6 := rfl
  have hsz := (dM hn).1
  refine c154z ?_
  refine c99z ?_
  refine c218z ?_
  refine .z ?_
  refine .spl 10 rfl rfl (fun e1 => ?_) (fun e1 => by exfalso; first | omega | (replace e1 := s9z e1; omega) | (simp at e1; omega) | (simp at e1; done))
  try simp only [e1]
  have qe1 := fact e1
  refine .T ?_
  refine c239z ?_
  refine .ss s9 (mkP 28 [0, 1, 3, 7, 15, 31, 63, 127, 255, 511, 1023, 2047, 4095, 0, 8192, 24576, 57855, 123391, 254463, 516607, 1040895, 2089471, 4186623, 8380927, 16769535, 33546751, 33554431, 134217727] []) ?_
  refine .k 4 [] ?_
  refine .spl 15 rfl rfl (fun e2 => by exfalso; first | omega | (replace e2 := s9z e2; omega) | (simp at e2; omega) | (simp at e2; done)) (fun e2 => ?_)
  try simp only [e2]
  have qe2 := fact e2
  refine .k 8 [(3, 15), (8, 20)] ?_
  refine .k 5 [] ?_
  refine .spl 28 rfl rfl (fun e3 => ?_) (fun e3 => by exfalso; first | omega | (replace e3 := s9z e3; omega) | (simp at e3; omega) | (simp at e3; done))
  try simp only [e3]
  have qe3 := fact e3
  refine .k 5 [(16, 28)] ?_
  refine .spl 33 rfl rfl (fun e4 => ?_) (fun e4 => by exfalso; first | omega | (replace e4 := s9z e4; omega) | (simp at e4; omega) | (simp at e4; done))
  try simp only [e4]
  have qe4 := fact e4
  refine .k 2 [(21, 33)] ?_
  refine .ca rfl rfl (kY _ hn hr) ?_
  refine .n [] ?_
  refine .c7 [1, 3, 4, 5] ?_
  refine .zm [(2, 40)] ?_
  refine .spl 43 rfl rfl (fun e5 => by exfalso; first | omega | (replace e5 := s9z e5; omega) | (simp at e5; omega) | (simp at e5; done)) (fun e5 => ?_)
  try simp only [e5]
  have qe5 := fact e5
  refine c45z ?_
  refine c83z ?_
  refine c125z ?_
  refine .spl 51 rfl rfl (fun e6 => by exfalso; first | omega | (replace e6 := s9z e6; omega) | (simp at e6; omega) | (simp at e6; done)) (fun e6 => ?_)
  try simp only [e6]
  have qe6 := fact e6
  refine .k 3 [(5, 51)] ?_
  refine .spl 54 rfl rfl (fun e7 => by exfalso; first | omega | (replace e7 := s9z e7; omega) | (simp at e7; omega) | (simp at e7; done)) (fun e7 => ?_)
  try simp only [e7]
  have qe7 := fact e7
  refine .k 8 [(8, 54), (12, 58)] ?_
  refine .m [(5, 51)] ?_
  refine c17z ?_
  refine c83z ?_
  refine c135z ?_
  refine .z ?_
  exact .ret (.ex (hq := by rfl))
end
section
attribute [local go_sem] dV bU aQ gV gX eJ kZ eq_mk lA
theorem LN {vars : List BA} (o : Int) (a : Ex) (ho : o = 3 ∨ o = 4) (iha : ∀ (h : c6), CB 118 [.agg (p9 a)] h (.bool true)) : CB 118 [.agg (p9 (.un o a))] h (.bool true) := by
  refine .bz Tryz.f118 77 ?_
  have hst := (nW (o := o) (by omega) (by omega)).2.2.2.2 ho
  refine c154z ?_
  refine c99z ?_
  refine c218z ?_
  refine .z ?_
  refine .spl 10 rfl rfl (fun e1 => by exfalso; first | omega | (replace e1 := s9z e1; omega) | (simp at e1; omega) | (simp at e1; done)) (fun e1 => ?_)
  try simp only [e1]
  have qe1 := fact e1
  refine c146z ?_
  refine .spl 44 rfl rfl (fun e2 => ?_) (fun e2 => by exfalso; first | omega | (replace e2 := s9z e2; omega) | (simp at e2; omega) | (simp at e2; done))
  try simp only [e2]
  have qe2 := fact e2
  refine .T ?_
  refine .c7 [1] ?_
  refine c1z ?_
  refine .seq ?_
  refine c125z ?_
  refine .spl 51 rfl rfl (fun e3 => by exfalso; first | omega | (replace e3 := s9z e3; omega) | (simp at e3; omega) | (simp at e3; done)) (fun e3 => ?_)
  try simp only [e3]
  have qe3 := fact e3
  refine .k 3 [(5, 51)] ?_
  refine .spl 54 rfl rfl (fun e4 => ?_) (fun e4 => by exfalso; first | omega | (replace e4 := s9z e4; omega) | (simp at e4; omega) | (simp at e4; done))
  try simp only [e4]
  have qe4 := fact e4
  refine .k 4 [(8, 54)] ?_
  refine .spl 58 rfl rfl (fun e5 => by exfalso; first | omega | (replace e5 := s9z e5; omega) | (simp at e5; omega) | (simp at e5; done)) (fun e5 => ?_)
  try simp only [e5]
  have qe5 := fact e5
  refine .m [(5, 51), (8, 54), (12, 58)] ?_
  refine .spl 64 rfl rfl (fun e6 => by exfalso; first | omega | (replace e6 := s9z e6; omega) | (simp at e6; omega) | (simp at e6; done)) (fun e6 => ?_)
  try simp only [e6]
  have qe6 := fact e6
  refine c17z ?_
  refine c83z ?_
  refine c24z ?_
  refine c205z ?_
  refine c85z ?_
  refine .n ?_
  refine .spl 76 rfl rfl (fun e7 => by exfalso; first | omega | (replace e7 := s9z e7; omega) | (simp at e7; omega) | (simp at e7; done)) (fun e7 => ?_)
  try simp only [e7]
  have qe7 := fact e7
  refine c45z ?_
  refine .c7 [1, 3, 6] ?_
  refine .rz ?_
  refine c42z ?_
  refine c21z ?_
  exact .ret (.ex (hq := by rfl))
end
section
attribute [local go_sem] dV bU aQ gV gX eJ kZ eq_mk lA
theorem LO {vars : List BA} (o : Int) (a b : Ex) (ho : 5 ≤ o ∧ o ≤ 17) (iha : ∀ (h : c6), CB 118 [.agg (p9 a)] h (.bool true)) (ihb : ∀ (h : c6), CB 118 [.agg (p9 b)] h (.bool true)) : CB 118 [.agg (p9 (.bin o a b))] h (.bool true) := by
  refine .bz Tryz.f118 77 ?_
  have hst := nW (o := o) (by omega) (by omega)
  refine c154z ?_
  refine c99z ?_
  refine c218z ?_
  refine .z ?_
  refine .spl 10 rfl rfl (fun e1 => by exfalso; first | omega | (replace e1 := s9z e1; omega) | (simp at e1; omega) | (simp at e1; done)) (fun e1 => ?_)
  try simp only [e1]
  have qe1 := fact e1
  refine c146z ?_
  refine .spl 44 rfl rfl (fun e2 => by exfalso; first | omega | (replace e2 := s9z e2; omega) | (simp at e2; omega) | (simp at e2; done)) (fun e2 => ?_)
  try simp only [e2]
  have qe2 := fact e2
  refine c45z ?_
  refine c83z ?_
  refine c125z ?_
  refine .spl 51 rfl rfl (fun e3 => by exfalso; first | omega | (replace e3 := s9z e3; omega) | (simp at e3; omega) | (simp at e3; done)) (fun e3 => ?_)
  try simp only [e3]
  have qe3 := fact e3
  refine .k 3 [(5, 51)] ?_
  refine .spl 54 rfl rfl (fun e4 => ?_) (fun e4 => by exfalso; first | omega | (replace e4 := s9z e4; omega) | (simp at e4; omega) | (simp at e4; done))
  try simp only [e4]
  have qe4 := fact e4
  refine .k 4 [(8, 54)] ?_
  refine .spl 58 rfl rfl (fun e5 => by exfalso; first | omega | (replace e5 := s9z e5; omega) | (simp at e5; omega) | (simp at e5; done)) (fun e5 => ?_)
  try simp only [e5]
  have qe5 := fact e5
  refine .m [(5, 51), (8, 54), (12, 58)] ?_
  refine .spl 64 rfl rfl (fun e6 => by exfalso; first | omega | (replace e6 := s9z e6; omega) | (simp at e6; omega) | (simp at e6; done)) (fun e6 => ?_)
  try simp only [e6]
  have qe6 := fact e6
  refine c17z ?_
  refine c83z ?_
  refine c24z ?_
  refine c226z ?_
  refine .n ?_
  refine .spl 76 rfl rfl (fun e7 => by exfalso; first | omega | (replace e7 := s9z e7; omega) | (simp at e7; omega) | (simp at e7; done)) (fun e7 => ?_)
  try simp only [e7]
  have qe7 := fact e7
  refine c45z ?_
  refine .c7 [1, 3, 6] ?_
  refine .rz ?_
  refine c227z ?_
  refine .n ?_
  refine .spl 76 rfl rfl (fun e8 => by exfalso; first | omega | (replace e8 := s9z e8; omega) | (simp at e8; omega) | (simp at e8; done)) (fun e8 => ?_)
  try simp only [e8]
  have qe8 := fact e8
  refine c45z ?_
  refine .c7 [1, 3, 6] ?_
  refine .rz ?_
  refine c42z ?_
  refine c21z ?_
  exact .ret (.ex (hq := by rfl))
end
def v7 (vars : List BA) : Prop := ∀ x ∈ vars, isName (L8 x) ∧ rM x = false
theorem v7.n (h : v7 vars) : Names vars := fun x hx => (h x hx).1
theorem xT {vars : List BA} (hv : v7 vars) : ∀ {d : Nat} {e : Ex}, GE vars d e → ∀ (h : c6), CB 118 [.agg (p9 e)] h (.bool true)
  | d, .leaf o n s, hg, h => by
    rcases iD.1 hg with ⟨rfl, h1, _, rfl⟩ | ⟨rfl, rfl, h1⟩
    · exact LL (vars := vars) n h1
    · exact LM (vars := vars) s (hv s h1).1 (hv s h1).2
  | 0, .un o a, hg, h => hg.elim
  | 0, .bin o a b, hg, h => hg.elim
  | d + 1, .un o a, hg, h => LN (vars := vars) o a hg.1 (xT hv hg.2)
  | d + 1, .bin o a b, hg, h => LO (vars := vars) o a b hg.1 (xT hv hg.2.1) (xT hv hg.2.2)
def mx (a b : Int) : Int := if b > a then b else a
def hgt : Ex → Int
  | .leaf .. => 0
  | .un o a => mx 0 (if kF (.un o a) 0 then hgt a + 1 else hgt a) + 1
  | .bin o a b => mx (mx 0 (if kF (.bin o a b) 0 then hgt a + 1 else hgt a)) (if kF (.bin o a b) 1 then hgt b + 1 else hgt b)
theorem tG : ∀ e : Ex, 0 ≤ hgt e ∧ hgt e ≤ 2 * (e.dep : Int)
  | .leaf .. => ⟨Int.le_refl _, by simp [hgt, Ex.dep]⟩
  | .un o a => by
    have := tG a
    simp only [hgt, mx, Ex.dep]
    constructor <;> (repeat' split) <;> omega
  | .bin o a b => by
    have := tG a
    have := tG b
    simp only [hgt, mx, Ex.dep]
    constructor <;> (repeat' split) <;> omega
section
attribute [local go_sem] dV bU aQ gV gX eJ kZ eq_mk lA
theorem EA (o n : Int) (s : BA) (ho : o = 1 ∨ o = 2) : CB 119 [.agg (p9 (.leaf o n s))] h (.int .i64 (hgt (.leaf o n s))) := by
  refine .bz Tryz.f119 34 ?_
  have hst := (nW (o := o) (by omega) (by omega)).2.2.1.2 ho
  refine c48z ?_
  refine c58z ?_
  refine c83z ?_
  refine c223z ?_
  refine .spl 30 rfl rfl (fun e1 => by exfalso; first | omega | (replace e1 := s9z e1; omega) | (simp at e1; omega) | (simp at e1; done)) (fun e1 => ?_)
  try simp only [e1]
  have qe1 := fact e1
  refine c111z ?_
  exact .ret (.ex (hq := by rfl))
end
section
attribute [local go_sem] dV bU aQ gV gX eJ kZ eq_mk lA
theorem EB (o : Int) (a : Ex) (ho : o = 3 ∨ o = 4) (hd : a.dep ≤ 1000) (hga : 1 ≤ a.op ∧ a.op ≤ 17) (iha : ∀ (h : c6), CB 119 [.agg (p9 a)] h (.int .i64 (hgt a))) : CB 119 [.agg (p9 (.un o a))] h (.int .i64 (hgt (.un o a))) := by
  refine .bz Tryz.f119 34 ?_
  have hst := (nW (o := o) (by omega) (by omega)).2.2.2.2 ho
  have hha := tG a
  refine c48z ?_
  refine c205z ?_
  refine c85z ?_
  refine c106z ?_
  refine .ca rfl rfl (Q1 (by omega) hga) ?_
  refine .nil ?_
  refine u2z ?_ ?_
  ·intro e1 qe1
   refine c1z ?_
   refine c155z ?_
   refine c83z ?_
   refine c223z ?_
   refine .spl 30 rfl rfl (fun e2 => ?_) (fun e2 => by exfalso; first | omega | (replace e2 := s9z e2; omega) | (simp at e2; omega) | (simp at e2; done))
   try simp only [e2]
   have qe2 := fact e2
   refine .T ?_
   refine c1z ?_
   refine .z ?_
   exact .ret (.ex (hq := t60))
  intro e1 qe1
  refine .sk ?_
  refine c46z ?_
  change c9 _ _ _ _ _
  refine c234z ?_
  refine c8z ?_
  refine c9z ?_
  refine .seq ?_
  refine c223z ?_
  refine .spl 30 rfl rfl (fun e3 => ?_) (fun e3 => by exfalso; first | omega | (replace e3 := s9z e3; omega) | (simp at e3; omega) | (simp at e3; done))
  try simp only [e3]
  have qe3 := fact e3
  refine .T ?_
  refine .c7 [3] ?_
  refine c1z ?_
  refine .z ?_
  exact .ret (.ex (hq := t60))
end
section
attribute [local go_sem] dV bU aQ gV gX eJ kZ eq_mk lA
theorem EC (o : Int) (a b : Ex) (ho : 5 ≤ o ∧ o ≤ 17) (hd : a.dep ≤ 1000) (hd2 : b.dep ≤ 1000) (hga : 1 ≤ a.op ∧ a.op ≤ 17) (hgb : 1 ≤ b.op ∧ b.op ≤ 17) (iha : ∀ (h : c6), CB 119 [.agg (p9 a)] h (.int .i64 (hgt a))) (ihb : ∀ (h : c6), CB 119 [.agg (p9 b)] h (.int .i64 (hgt b))) : CB 119 [.agg (p9 (.bin o a b))] h (.int .i64 (hgt (.bin o a b))) := by
  refine .bz Tryz.f119 34 ?_
  have hst := nW (o := o) (by omega) (by omega)
  have hha := tG a
  have hhb := tG b
  refine c48z ?_
  refine c226z ?_
  refine c106z ?_
  refine .ca rfl rfl (C8 (by omega) hga) ?_
  refine .nil ?_
  refine u2z ?_ ?_
  ·intro e1 qe1
   refine c1z ?_
   refine c92z ?_
   refine c227z ?_
   refine c106z ?_
   refine .ca rfl rfl (tF (by omega) hgb) ?_
   refine .nil ?_
   refine u2z ?_ ?_
   ·intro e2 qe2
    refine c1z ?_
    refine c155z ?_
    refine c83z ?_
    refine c223z ?_
    refine .spl 30 rfl rfl (fun e3 => by exfalso; first | omega | (replace e3 := s9z e3; omega) | (simp at e3; omega) | (simp at e3; done)) (fun e3 => ?_)
    try simp only [e3]
    have qe3 := fact e3
    refine c111z ?_
    exact .ret (.ex (hq := t60))
   intro e2 qe2
   refine .sk ?_
   refine c46z ?_
   change c9 _ _ _ _ _
   refine c234z ?_
   refine c8z ?_
   refine c9z ?_
   refine .seq ?_
   refine c223z ?_
   refine .spl 30 rfl rfl (fun e4 => by exfalso; first | omega | (replace e4 := s9z e4; omega) | (simp at e4; omega) | (simp at e4; done)) (fun e4 => ?_)
   try simp only [e4]
   have qe4 := fact e4
   refine c17z ?_
   refine c173z ?_
   exact .ret (.ex (hq := t60))
  intro e1 qe1
  refine .sk ?_
  refine c46z ?_
  change c9 _ _ _ _ _
  refine c234z ?_
  refine c100z ?_
  refine c2z ?_
  refine c117z ?_
  refine c106z ?_
  refine .ca rfl rfl (tF (by omega) hgb) ?_
  refine .nil ?_
  refine u2z ?_ ?_
  ·intro e5 qe5
   refine c1z ?_
   refine c155z ?_
   refine c83z ?_
   refine c223z ?_
   refine .spl 30 rfl rfl (fun e6 => by exfalso; first | omega | (replace e6 := s9z e6; omega) | (simp at e6; omega) | (simp at e6; done)) (fun e6 => ?_)
   try simp only [e6]
   have qe6 := fact e6
   refine c111z ?_
   exact .ret (.ex (hq := t60))
  intro e5 qe5
  refine .sk ?_
  refine c46z ?_
  change c9 _ _ _ _ _
  refine c234z ?_
  refine c8z ?_
  refine c9z ?_
  refine .seq ?_
  refine c223z ?_
  refine .spl 30 rfl rfl (fun e7 => by exfalso; first | omega | (replace e7 := s9z e7; omega) | (simp at e7; omega) | (simp at e7; done)) (fun e7 => ?_)
  try simp only [e7]
  have qe7 := fact e7
  refine c17z ?_
  refine c173z ?_
  exact .ret (.ex (hq := t60))
end
theorem rO {vars : List BA} : ∀ {d : Nat} {e : Ex}, d ≤ 100 → GE vars d e → ∀ (h : c6), CB 119 [.agg (p9 e)] h (.int .i64 (hgt e))
  | d, .leaf o n s, hd, hg, h => by
    have h' := iD.1 hg
    exact EA o n s (by omega)
  | 0, .un o a, hd, hg, h => hg.elim
  | 0, .bin o a b, hd, hg, h => hg.elim
  | d + 1, .un o a, hd, hg, h => EB o a hg.1 (by have := hg.2.dep; omega) (GE.op hg.2) (rO (by omega) hg.2)
  | d + 1, .bin o a b, hd, hg, h => EC o a b hg.1 (by have := hg.2.1.dep; omega) (by have := hg.2.2.dep; omega) (GE.op hg.2.1) (GE.op hg.2.2) (rO (by omega) hg.2.1) (rO (by omega) hg.2.2)
theorem Q2 (hv : v7 vars) {d : Nat} (hd : d ≤ 12) (e : Ex) (hg : GE vars d e) : CB 101 [.agg (p9 e)] h (.bool true) := by
  refine .bz Tryz.f101 10 ?_
  have hh := tG e
  have hdp := hg.dep
  refine c200z ?_
  refine .ca rfl rfl (xT hv hg _) ?_
  refine .k 2 [(2, 5)] ?_
  refine .ca rfl rfl (rO (by omega) hg _) ?_
  refine .m [(2, 5)] ?_
  exact .ret (.ex (hq := by (exact congrArg AV.bool (decide_eq_true (by omega)))))
end Go.Proofs.YtfbjlfhjkojmkaaGreat
end
section
namespace Go.Proofs.YtfbjlfhjkojmkaaGreat
open Go.Ab Go.Un
theorem mx6 : (6 ≤ maxLen) = True := by simp; decide
theorem mx3 : (3 ≤ maxLen) = True := by simp; decide
def sgS (k : Int) : List BA := if k = 0 then [(⟨#[124, 124]⟩ : BA)] else if k = 1 then [(⟨#[38, 38]⟩ : BA)] else if k = 2 then [(⟨#[61, 61]⟩ : BA), (⟨#[33, 61]⟩ : BA), (⟨#[60]⟩ : BA), (⟨#[60, 61]⟩ : BA), (⟨#[62]⟩ : BA), (⟨#[62, 61]⟩ : BA)] else if k = 3 then [(⟨#[43]⟩ : BA), (⟨#[45]⟩ : BA)] else [(⟨#[42]⟩ : BA), (⟨#[47]⟩ : BA), (⟨#[37]⟩ : BA)]
def sgO (k : Int) : List Int := if k = 0 then [17] else if k = 1 then [16] else if k = 2 then [14, 15, 10, 11, 12, 13] else if k = 3 then [8, 9] else [5, 6, 7]
theorem LP {k : Int} (h0 : 0 ≤ k) (h4 : k ≤ 4) : (sgS k).length = (sgO k).length ∧ (sgO k).length ≤ 6 := by
  have hc : k = 0 ∨ k = 1 ∨ k = 2 ∨ k = 3 ∨ k = 4 := by omega
  rcases hc with rfl | rfl | rfl | rfl | rfl <;> decide
variable {o : Int}
theorem LQ (h : 5 ≤ o ∧ o ≤ 17) : ∀ i, i < (sgO (eV o)).length → (sgO (eV o)).getD i 0 = o → (sgS (eV o)).getD i ByteArray.empty = G5 o := by
  have hcases : o = 5 ∨ o = 6 ∨ o = 7 ∨ o = 8 ∨ o = 9 ∨ o = 10 ∨ o = 11 ∨ o = 12 ∨ o = 13 ∨ o = 14 ∨ o = 15 ∨ o = 16 ∨ o = 17 := by omega
  rcases hcases with rfl | rfl | rfl | rfl | rfl | rfl | rfl | rfl | rfl | rfl | rfl | rfl | rfl <;> decide
theorem LR (h : 5 ≤ o ∧ o ≤ 17) : ¬ ∀ i, i < (sgO (eV o)).length → (sgO (eV o)).getD i 0 ≠ o := by
  have hcases : o = 5 ∨ o = 6 ∨ o = 7 ∨ o = 8 ∨ o = 9 ∨ o = 10 ∨ o = 11 ∨ o = 12 ∨ o = 13 ∨ o = 14 ∨ o = 15 ∨ o = 16 ∨ o = 17 := by omega
  rcases hcases with rfl | rfl | rfl | rfl | rfl | rfl | rfl | rfl | rfl | rfl | rfl | rfl | rfl <;> decide
theorem rP (h : 5 ≤ o ∧ o ≤ 17) : 0 ≤ eV o ∧ eV o ≤ 4 := by
  have hcases : o = 5 ∨ o = 6 ∨ o = 7 ∨ o = 8 ∨ o = 9 ∨ o = 10 ∨ o = 11 ∨ o = 12 ∨ o = 13 ∨ o = 14 ∨ o = 15 ∨ o = 16 ∨ o = 17 := by omega
  rcases hcases with rfl | rfl | rfl | rfl | rfl | rfl | rfl | rfl | rfl | rfl | rfl | rfl | rfl <;> decide
variable {i : Nat}
theorem Q3 {l : List Int} (h : ∀ d, d < i → l.getD d 0 ≠ o) (e : l.getD i 0 ≠ o) : ∀ d, d < i + 1 → l.getD d 0 ≠ o := fun d hd => by
  by_cases hdi : d = i
  · rw [hdi]; exact e
  · exact h d (by omega)
theorem xU {a : Array UInt8} : (⟨a⟩ : BA).size = a.size := rfl
variable {h : c6} {a : Ex} {p : Bool}
theorem c_innU (hp : kF (.un o a) 0 = p) (h1 : 1 ≤ o ∧ o ≤ 17) (h2 : 1 ≤ a.op ∧ a.op ≤ 17) : CB 127 [.agg [.int .i64 o, .int .i64 0, .str ByteArray.empty, .vec 1 (p9 a)], .int .i64 0] h (.bool p) := by
  subst hp; exact Q1 h1 h2
theorem c_inn0 {b : Ex} (hp : kF (.bin o a b) 0 = p) (h1 : 1 ≤ o ∧ o ≤ 17) (h2 : 1 ≤ a.op ∧ a.op ≤ 17) : CB 127 [.agg [.int .i64 o, .int .i64 0, .str ByteArray.empty, .vec 2 (p9 a ++ p9 b)], .int .i64 0] h (.bool p) := by
  subst hp; exact C8 h1 h2
theorem c_inn1 {b : Ex} (hp : kF (.bin o a b) 1 = p) (h1 : 1 ≤ o ∧ o ≤ 17) (h2 : 1 ≤ b.op ∧ b.op ≤ 17) : CB 127 [.agg [.int .i64 o, .int .i64 0, .str ByteArray.empty, .vec 2 (p9 a ++ p9 b)], .int .i64 1] h (.bool p) := by
  subst hp; exact tF h1 h2
attribute [local go_sem] j5 rd lP w9 m8 aN bQ l9 Int.natCast_nonneg Int.natCast_inj List.length_map wrap64 Y3 wrapU eJ P6 B8 G9 P7 xO max2 kJ mx6 mx3 xU w8 dV bU aQ gV gX kZ eq_mk lA qD vK Nat.reduceMul
theorem c_signs (k : Int) : CB 125 [.int .i64 k] h (.tup [.vec (sgS k).length (w5 (sgS k)), .vec (sgO k).length (g7 (sgO k))]) := by
  refine .bz Tryz.f125 23 ?_
  refine c53z ?_
  refine .z ?_
  refine u2z ?_ ?_
  ·intro e1 qe1
   refine .z ?_
   exact .ret (.ex (hf := t33) (hq := t114))
  intro e1 qe1
  refine .z ?_
  refine u2z ?_ ?_
  ·intro e2 qe2
   refine c21z ?_
   exact .ret (.ex (hf := t33) (hq := t114))
  intro e2 qe2
  refine .z ?_
  refine u2z ?_ ?_
  ·intro e3 qe3
   refine c21z ?_
   exact .ret (.ex (hf := t33) (hq := t114))
  intro e3 qe3
  refine .c7 [4] ?_
  refine .z ?_
  refine u2z ?_ ?_
  ·intro e4 qe4
   refine .z ?_
   exact .ret (.ex (hf := t33) (hq := t114))
  intro e4 qe4
  refine c5z ?_
  refine .z ?_
  exact .ret (.ex (hf := t33) (hq := t114))
theorem c_text1 (n : Int) (h0 : 0 ≤ n) (h1 : n < 4611686018427387904) : CB 121 [.agg (p9 (.leaf 1 n ByteArray.empty))] h (.str (bJ (.leaf 1 n ByteArray.empty))) := by
  refine .bz Tryz.f121 95 ?_
  refine c48z ?_
  refine c58z ?_
  refine c215z ?_
  refine .T ?_
  refine c30z ?_
  refine .ca rfl rfl (c_num _ (by omega) (by omega)) ?_
  refine .n ?_
  exact .ret (.ex (hq := by (rw [X5, if_neg (by omega)]; rfl)))
theorem c_text2 (n : Int) (s : BA) : CB 121 [.agg (p9 (.leaf 2 n s))] h (.str (bJ (.leaf 2 n s))) := by
  refine .bz Tryz.f121 95 ?_
  refine c48z ?_
  refine c58z ?_
  refine .sb ?_
  refine .c7 [1, 3] ?_
  refine c8z ?_
  refine c100z ?_
  refine c239z ?_
  exact .ret (.ex (hq := by rfl))
theorem c_textU (o : Int) (a : Ex) (ho : o = 3 ∨ o = 4) (hga : 1 ≤ a.op ∧ a.op ≤ 17) (iha : ∀ (h : c6), CB 121 [.agg (p9 a)] h (.str (bJ a))) (hsa : (bJ a).size < 1000000) : CB 121 [.agg (p9 (.un o a))] h (.str (bJ (.un o a))) := by
  refine .bz Tryz.f121 95 ?_
  refine c48z ?_
  refine c205z ?_
  refine c85z ?_
  refine c106z ?_
  refine .ca rfl rfl (c_innU rfl (by omega) hga) ?_
  refine .nil ?_
  refine u2z ?_ ?_
  ·intro e1 qe1
   refine c1z ?_
   refine c219z ?_
   refine .spl 32 rfl rfl (fun e2 => by exfalso; first | omega | (replace e2 := s9z e2; omega) | (simp at e2; omega) | (simp at e2; done)) (fun e2 => ?_)
   try simp only [e2]
   have qe2 := fact e2
   refine c146z ?_
   refine .spl 39 rfl rfl (fun e3 => by exfalso; first | omega | (replace e3 := s9z e3; omega) | (simp at e3; omega) | (simp at e3; done)) (fun e3 => ?_)
   try simp only [e3]
   have qe3 := fact e3
   refine .F ?_
   refine c68z ?_
   refine u2z ?_ ?_
   ·intro e4 qe4
    refine .z ?_
    exact .ret (.ex (hq := t153))
   intro e4 qe4
   refine .z ?_
   refine .spl 53 rfl rfl (fun e5 => ?_) (fun e5 => by exfalso; first | omega | (replace e5 := s9z e5; omega) | (simp at e5; omega) | (simp at e5; done))
   try simp only [e5]
   have qe5 := fact e5
   refine .T ?_
   refine c173z ?_
   exact .ret (.ex (hq := t153))
  intro e1 qe1
  refine .sk ?_
  refine c219z ?_
  refine .spl 32 rfl rfl (fun e6 => by exfalso; first | omega | (replace e6 := s9z e6; omega) | (simp at e6; omega) | (simp at e6; done)) (fun e6 => ?_)
  try simp only [e6]
  have qe6 := fact e6
  refine c146z ?_
  refine .spl 39 rfl rfl (fun e7 => by exfalso; first | omega | (replace e7 := s9z e7; omega) | (simp at e7; omega) | (simp at e7; done)) (fun e7 => ?_)
  try simp only [e7]
  have qe7 := fact e7
  refine .F ?_
  refine c68z ?_
  refine u2z ?_ ?_
  ·intro e8 qe8
   refine .z ?_
   exact .ret (.ex (hq := t153))
  intro e8 qe8
  refine .z ?_
  refine .spl 53 rfl rfl (fun e9 => ?_) (fun e9 => by exfalso; first | omega | (replace e9 := s9z e9; omega) | (simp at e9; omega) | (simp at e9; done))
  try simp only [e9]
  have qe9 := fact e9
  refine .T ?_
  refine c173z ?_
  exact .ret (.ex (hq := t153))
theorem ED (o : Int) (a b : Ex) (ho : 5 ≤ o ∧ o ≤ 17) (hga : 1 ≤ a.op ∧ a.op ≤ 17) (hgb : 1 ≤ b.op ∧ b.op ≤ 17) (hp : kF (.bin o a b) 0 = true) (hq : kF (.bin o a b) 1 = true) (iha : ∀ (h : c6), CB 121 [.agg (p9 a)] h (.str (bJ a))) (hsa : (bJ a).size < 1000000) (ihb : ∀ (h : c6), CB 121 [.agg (p9 b)] h (.str (bJ b))) (hsb : (bJ b).size < 1000000) : CB 121 [.agg (p9 (.bin o a b))] h (.str (bJ (.bin o a b))) := by
  refine .bz Tryz.f121 95 ?_
  have hst := rP ho
  have hsg := LP hst.1 hst.2
  have hsa2 := LQ ho
  have hse := (sV ho).2
  refine c48z ?_
  refine c226z ?_
  refine c141z ?_
  refine .nil ?_
  refine .T ?_
  refine c1z ?_
  refine c92z ?_
  refine c227z ?_
  refine c142z ?_
  refine .nil ?_
  refine .T ?_
  refine c1z ?_
  refine c219z ?_
  refine .spl 32 rfl rfl (fun e1 => by exfalso; first | omega | (replace e1 := s9z e1; omega) | (simp at e1; omega) | (simp at e1; done)) (fun e1 => ?_)
  try simp only [e1]
  have qe1 := fact e1
  refine c146z ?_
  refine .spl 39 rfl rfl (fun e2 => by exfalso; first | omega | (replace e2 := s9z e2; omega) | (simp at e2; omega) | (simp at e2; done)) (fun e2 => ?_)
  try simp only [e2]
  have qe2 := fact e2
  refine .F ?_
  refine c68z ?_
  refine .spl 45 rfl rfl (fun e3 => by exfalso; first | omega | (replace e3 := s9z e3; omega) | (simp at e3; omega) | (simp at e3; done)) (fun e3 => ?_)
  try simp only [e3]
  have qe3 := fact e3
  refine c146z ?_
  refine .spl 53 rfl rfl (fun e4 => by exfalso; first | omega | (replace e4 := s9z e4; omega) | (simp at e4; omega) | (simp at e4; done)) (fun e4 => ?_)
  try simp only [e4]
  have qe4 := fact e4
  refine c45z ?_
  refine c244z ?_
  refine c235z ?_
  refine .cI (fun m st => ∃ (i : Nat), (m = (sgO (eV o)).length - i ∧ ((∀ d, d < i → (sgO (eV o)).getD d 0 ≠ o) ∧ i ≤ (sgO (eV o)).length)) ∧ st = ⟨mkS 95 [(1, AV.ptr h.length 0 0), (3, AV.own (h.length + 2) 1 0 2), (6, AV.vec (sgS (eV o)).length (w5 (sgS (eV o)))), (7, AV.vec (sgO (eV o)).length (g7 (sgO (eV o)))), (8, AV.int .i64 ((i : Nat) : Int))], h ++ [⟨0, false, 72, 4, [.int .i64 o, .int .i64 0, .str ByteArray.empty, .vec 2 (p9 a ++ p9 b)], 0⟩, ⟨0, false, 9, 1, [.str (⟨#[40]⟩ ++ bJ a ++ ⟨#[41]⟩)], 0⟩, ⟨1, false, 9, 1, [.str (⟨#[40]⟩ ++ bJ a ++ ⟨#[41]⟩), .str (⟨#[40]⟩ ++ bJ b ++ ⟨#[41]⟩)], 0⟩, ⟨0, false, 9, 1, [.str (⟨#[40]⟩ ++ bJ b ++ ⟨#[41]⟩)], 0⟩]⟩) _ (.v ⟨0, ⟨rfl, ⟨t104, by omega⟩⟩, rfl⟩) ?_
  rintro m sl h' ⟨i, ⟨hm, ⟨hI, hi⟩⟩, hst⟩
  obtain ⟨rfl, rfl⟩ := St.mk.inj hst
  refine c0z ?_
  refine u2z ?_ ?_
  ·intro e5 qe5
   refine c2z ?_
   refine c126z ?_
   refine u2z ?_ ?_
   ·intro e6 qe6
    refine .c7 [3, 6, 8] ?_
    have hsi := hsa2 i (by omega) (by assumption)
    have hss : ((sgS (eV o)).getD i ByteArray.empty).size ≤ 2 := by rw [hsi]; exact hse
    refine c69z ?_
    exact .ret (.ex (hq := t137))
   intro e6 qe6
   refine c207z ?_
   refine .rz ?_
   exact ⟨_, by omega, .v ⟨(i + 1), ⟨rfl, ⟨Q3 hI (by assumption), by omega⟩⟩, rfl⟩⟩
  intro e5 qe5
  refine .exit ?_
  exfalso; exact LR ho (fun d hd => hI d (by omega))
theorem EE (o : Int) (a b : Ex) (ho : 5 ≤ o ∧ o ≤ 17) (hga : 1 ≤ a.op ∧ a.op ≤ 17) (hgb : 1 ≤ b.op ∧ b.op ≤ 17) (hp : kF (.bin o a b) 0 = true) (hq : kF (.bin o a b) 1 = false) (iha : ∀ (h : c6), CB 121 [.agg (p9 a)] h (.str (bJ a))) (hsa : (bJ a).size < 1000000) (ihb : ∀ (h : c6), CB 121 [.agg (p9 b)] h (.str (bJ b))) (hsb : (bJ b).size < 1000000) : CB 121 [.agg (p9 (.bin o a b))] h (.str (bJ (.bin o a b))) := by
  refine .bz Tryz.f121 95 ?_
  have hst := rP ho
  have hsg := LP hst.1 hst.2
  have hsa2 := LQ ho
  have hse := (sV ho).2
  refine c48z ?_
  refine c226z ?_
  refine c141z ?_
  refine .nil ?_
  refine .T ?_
  refine c1z ?_
  refine c92z ?_
  refine c227z ?_
  refine c142z ?_
  refine .nil ?_
  refine c17z ?_
  refine c219z ?_
  refine .spl 32 rfl rfl (fun e1 => by exfalso; first | omega | (replace e1 := s9z e1; omega) | (simp at e1; omega) | (simp at e1; done)) (fun e1 => ?_)
  try simp only [e1]
  have qe1 := fact e1
  refine c146z ?_
  refine .spl 39 rfl rfl (fun e2 => by exfalso; first | omega | (replace e2 := s9z e2; omega) | (simp at e2; omega) | (simp at e2; done)) (fun e2 => ?_)
  try simp only [e2]
  have qe2 := fact e2
  refine .F ?_
  refine c68z ?_
  refine .spl 45 rfl rfl (fun e3 => by exfalso; first | omega | (replace e3 := s9z e3; omega) | (simp at e3; omega) | (simp at e3; done)) (fun e3 => ?_)
  try simp only [e3]
  have qe3 := fact e3
  refine c146z ?_
  refine .spl 53 rfl rfl (fun e4 => by exfalso; first | omega | (replace e4 := s9z e4; omega) | (simp at e4; omega) | (simp at e4; done)) (fun e4 => ?_)
  try simp only [e4]
  have qe4 := fact e4
  refine c45z ?_
  refine c244z ?_
  refine c235z ?_
  refine .cI (fun m st => ∃ (i : Nat), (m = (sgO (eV o)).length - i ∧ ((∀ d, d < i → (sgO (eV o)).getD d 0 ≠ o) ∧ i ≤ (sgO (eV o)).length)) ∧ st = ⟨mkS 95 [(1, AV.ptr h.length 0 0), (3, AV.own (h.length + 2) 1 0 2), (6, AV.vec (sgS (eV o)).length (w5 (sgS (eV o)))), (7, AV.vec (sgO (eV o)).length (g7 (sgO (eV o)))), (8, AV.int .i64 ((i : Nat) : Int))], h ++ [⟨0, false, 72, 4, [.int .i64 o, .int .i64 0, .str ByteArray.empty, .vec 2 (p9 a ++ p9 b)], 0⟩, ⟨0, false, 9, 1, [.str (⟨#[40]⟩ ++ bJ a ++ ⟨#[41]⟩)], 0⟩, ⟨1, false, 9, 1, [.str (⟨#[40]⟩ ++ bJ a ++ ⟨#[41]⟩), .str (bJ b)], 0⟩, ⟨0, false, 9, 1, [.str (bJ b)], 0⟩]⟩) _ (.v ⟨0, ⟨rfl, ⟨t104, by omega⟩⟩, rfl⟩) ?_
  rintro m sl h' ⟨i, ⟨hm, ⟨hI, hi⟩⟩, hst⟩
  obtain ⟨rfl, rfl⟩ := St.mk.inj hst
  refine c0z ?_
  refine u2z ?_ ?_
  ·intro e5 qe5
   refine c2z ?_
   refine c126z ?_
   refine u2z ?_ ?_
   ·intro e6 qe6
    refine .c7 [3, 6, 8] ?_
    have hsi := hsa2 i (by omega) (by assumption)
    have hss : ((sgS (eV o)).getD i ByteArray.empty).size ≤ 2 := by rw [hsi]; exact hse
    refine c69z ?_
    exact .ret (.ex (hq := t137))
   intro e6 qe6
   refine c207z ?_
   refine .rz ?_
   exact ⟨_, by omega, .v ⟨(i + 1), ⟨rfl, ⟨Q3 hI (by assumption), by omega⟩⟩, rfl⟩⟩
  intro e5 qe5
  refine .exit ?_
  exfalso; exact LR ho (fun d hd => hI d (by omega))
theorem EF (o : Int) (a b : Ex) (ho : 5 ≤ o ∧ o ≤ 17) (hga : 1 ≤ a.op ∧ a.op ≤ 17) (hgb : 1 ≤ b.op ∧ b.op ≤ 17) (hp : kF (.bin o a b) 0 = false) (hq : kF (.bin o a b) 1 = true) (iha : ∀ (h : c6), CB 121 [.agg (p9 a)] h (.str (bJ a))) (hsa : (bJ a).size < 1000000) (ihb : ∀ (h : c6), CB 121 [.agg (p9 b)] h (.str (bJ b))) (hsb : (bJ b).size < 1000000) : CB 121 [.agg (p9 (.bin o a b))] h (.str (bJ (.bin o a b))) := by
  refine .bz Tryz.f121 95 ?_
  have hst := rP ho
  have hsg := LP hst.1 hst.2
  have hsa2 := LQ ho
  have hse := (sV ho).2
  refine c48z ?_
  refine c226z ?_
  refine c141z ?_
  refine .nil ?_
  refine c17z ?_
  refine c92z ?_
  refine c227z ?_
  refine c142z ?_
  refine .nil ?_
  refine .T ?_
  refine c1z ?_
  refine c219z ?_
  refine .spl 32 rfl rfl (fun e1 => by exfalso; first | omega | (replace e1 := s9z e1; omega) | (simp at e1; omega) | (simp at e1; done)) (fun e1 => ?_)
  try simp only [e1]
  have qe1 := fact e1
  refine c146z ?_
  refine .spl 39 rfl rfl (fun e2 => by exfalso; first | omega | (replace e2 := s9z e2; omega) | (simp at e2; omega) | (simp at e2; done)) (fun e2 => ?_)
  try simp only [e2]
  have qe2 := fact e2
  refine .F ?_
  refine c68z ?_
  refine .spl 45 rfl rfl (fun e3 => by exfalso; first | omega | (replace e3 := s9z e3; omega) | (simp at e3; omega) | (simp at e3; done)) (fun e3 => ?_)
  try simp only [e3]
  have qe3 := fact e3
  refine c146z ?_
  refine .spl 53 rfl rfl (fun e4 => by exfalso; first | omega | (replace e4 := s9z e4; omega) | (simp at e4; omega) | (simp at e4; done)) (fun e4 => ?_)
  try simp only [e4]
  have qe4 := fact e4
  refine c45z ?_
  refine c244z ?_
  refine c235z ?_
  refine .cI (fun m st => ∃ (i : Nat), (m = (sgO (eV o)).length - i ∧ ((∀ d, d < i → (sgO (eV o)).getD d 0 ≠ o) ∧ i ≤ (sgO (eV o)).length)) ∧ st = ⟨mkS 95 [(1, AV.ptr h.length 0 0), (3, AV.own (h.length + 2) 1 0 2), (6, AV.vec (sgS (eV o)).length (w5 (sgS (eV o)))), (7, AV.vec (sgO (eV o)).length (g7 (sgO (eV o)))), (8, AV.int .i64 ((i : Nat) : Int))], h ++ [⟨0, false, 72, 4, [.int .i64 o, .int .i64 0, .str ByteArray.empty, .vec 2 (p9 a ++ p9 b)], 0⟩, ⟨0, false, 9, 1, [.str (bJ a)], 0⟩, ⟨1, false, 9, 1, [.str (bJ a), .str (⟨#[40]⟩ ++ bJ b ++ ⟨#[41]⟩)], 0⟩, ⟨0, false, 9, 1, [.str (⟨#[40]⟩ ++ bJ b ++ ⟨#[41]⟩)], 0⟩]⟩) _ (.v ⟨0, ⟨rfl, ⟨t104, by omega⟩⟩, rfl⟩) ?_
  rintro m sl h' ⟨i, ⟨hm, ⟨hI, hi⟩⟩, hst⟩
  obtain ⟨rfl, rfl⟩ := St.mk.inj hst
  refine c0z ?_
  refine u2z ?_ ?_
  ·intro e5 qe5
   refine c2z ?_
   refine c126z ?_
   refine u2z ?_ ?_
   ·intro e6 qe6
    refine .c7 [3, 6, 8] ?_
    have hsi := hsa2 i (by omega) (by assumption)
    have hss : ((sgS (eV o)).getD i ByteArray.empty).size ≤ 2 := by rw [hsi]; exact hse
    refine c69z ?_
    exact .ret (.ex (hq := t137))
   intro e6 qe6
   refine c207z ?_
   refine .rz ?_
   exact ⟨_, by omega, .v ⟨(i + 1), ⟨rfl, ⟨Q3 hI (by assumption), by omega⟩⟩, rfl⟩⟩
  intro e5 qe5
  refine .exit ?_
  exfalso; exact LR ho (fun d hd => hI d (by omega))
theorem EG (o : Int) (a b : Ex) (ho : 5 ≤ o ∧ o ≤ 17) (hga : 1 ≤ a.op ∧ a.op ≤ 17) (hgb : 1 ≤ b.op ∧ b.op ≤ 17) (hp : kF (.bin o a b) 0 = false) (hq : kF (.bin o a b) 1 = false) (iha : ∀ (h : c6), CB 121 [.agg (p9 a)] h (.str (bJ a))) (hsa : (bJ a).size < 1000000) (ihb : ∀ (h : c6), CB 121 [.agg (p9 b)] h (.str (bJ b))) (hsb : (bJ b).size < 1000000) : CB 121 [.agg (p9 (.bin o a b))] h (.str (bJ (.bin o a b))) := by
  refine .bz Tryz.f121 95 ?_
  have hst := rP ho
  have hsg := LP hst.1 hst.2
  have hsa2 := LQ ho
  have hse := (sV ho).2
  refine c48z ?_
  refine c226z ?_
  refine c141z ?_
  refine .nil ?_
  refine c17z ?_
  refine c92z ?_
  refine c227z ?_
  refine c142z ?_
  refine .nil ?_
  refine c17z ?_
  refine c219z ?_
  refine .spl 32 rfl rfl (fun e1 => by exfalso; first | omega | (replace e1 := s9z e1; omega) | (simp at e1; omega) | (simp at e1; done)) (fun e1 => ?_)
  try simp only [e1]
  have qe1 := fact e1
  refine c146z ?_
  refine .spl 39 rfl rfl (fun e2 => by exfalso; first | omega | (replace e2 := s9z e2; omega) | (simp at e2; omega) | (simp at e2; done)) (fun e2 => ?_)
  try simp only [e2]
  have qe2 := fact e2
  refine .F ?_
  refine c68z ?_
  refine .spl 45 rfl rfl (fun e3 => by exfalso; first | omega | (replace e3 := s9z e3; omega) | (simp at e3; omega) | (simp at e3; done)) (fun e3 => ?_)
  try simp only [e3]
  have qe3 := fact e3
  refine c146z ?_
  refine .spl 53 rfl rfl (fun e4 => by exfalso; first | omega | (replace e4 := s9z e4; omega) | (simp at e4; omega) | (simp at e4; done)) (fun e4 => ?_)
  try simp only [e4]
  have qe4 := fact e4
  refine c45z ?_
  refine c244z ?_
  refine c235z ?_
  refine .cI (fun m st => ∃ (i : Nat), (m = (sgO (eV o)).length - i ∧ ((∀ d, d < i → (sgO (eV o)).getD d 0 ≠ o) ∧ i ≤ (sgO (eV o)).length)) ∧ st = ⟨mkS 95 [(1, AV.ptr h.length 0 0), (3, AV.own (h.length + 2) 1 0 2), (6, AV.vec (sgS (eV o)).length (w5 (sgS (eV o)))), (7, AV.vec (sgO (eV o)).length (g7 (sgO (eV o)))), (8, AV.int .i64 ((i : Nat) : Int))], h ++ [⟨0, false, 72, 4, [.int .i64 o, .int .i64 0, .str ByteArray.empty, .vec 2 (p9 a ++ p9 b)], 0⟩, ⟨0, false, 9, 1, [.str (bJ a)], 0⟩, ⟨1, false, 9, 1, [.str (bJ a), .str (bJ b)], 0⟩, ⟨0, false, 9, 1, [.str (bJ b)], 0⟩]⟩) _ (.v ⟨0, ⟨rfl, ⟨t104, by omega⟩⟩, rfl⟩) ?_
  rintro m sl h' ⟨i, ⟨hm, ⟨hI, hi⟩⟩, hst⟩
  obtain ⟨rfl, rfl⟩ := St.mk.inj hst
  refine c0z ?_
  refine u2z ?_ ?_
  ·intro e5 qe5
   refine c2z ?_
   refine c126z ?_
   refine u2z ?_ ?_
   ·intro e6 qe6
    refine .c7 [3, 6, 8] ?_
    have hsi := hsa2 i (by omega) (by assumption)
    have hss : ((sgS (eV o)).getD i ByteArray.empty).size ≤ 2 := by rw [hsi]; exact hse
    refine c69z ?_
    exact .ret (.ex (hq := t137))
   intro e6 qe6
   refine c207z ?_
   refine .rz ?_
   exact ⟨_, by omega, .v ⟨(i + 1), ⟨rfl, ⟨Q3 hI (by assumption), by omega⟩⟩, rfl⟩⟩
  intro e5 qe5
  refine .exit ?_
  exfalso; exact LR ho (fun d hd => hI d (by omega))
theorem c_textB (o : Int) (a b : Ex) (ho : 5 ≤ o ∧ o ≤ 17) (hga : 1 ≤ a.op ∧ a.op ≤ 17) (hgb : 1 ≤ b.op ∧ b.op ≤ 17) (iha : ∀ (h : c6), CB 121 [.agg (p9 a)] h (.str (bJ a))) (hsa : (bJ a).size < 1000000) (ihb : ∀ (h : c6), CB 121 [.agg (p9 b)] h (.str (bJ b))) (hsb : (bJ b).size < 1000000) : CB 121 [.agg (p9 (.bin o a b))] h (.str (bJ (.bin o a b))) := by
  cases hp : kF (.bin o a b) 0 <;> cases hq : kF (.bin o a b) 1
  · exact EG o a b ho hga hgb hp hq iha hsa ihb hsb
  · exact EF o a b ho hga hgb hp hq iha hsa ihb hsb
  · exact EE o a b ho hga hgb hp hq iha hsa ihb hsb
  · exact ED o a b ho hga hgb hp hq iha hsa ihb hsb
theorem H8 : ∀ {d : Nat}, d ≤ 3 → yW d < 1000000
  | 0, _ => by decide
  | 1, _ => by decide
  | 2, _ => by decide
  | 3, _ => by decide
theorem tH {vars : List BA} (hv : Names vars) : ∀ {d : Nat} {e : Ex}, d ≤ 3 → GE vars d e → ∀ (h : c6), CB 121 [.agg (p9 e)] h (.str (bJ e))
  | d, .leaf o n s, hd, hg, h => by
    rcases iD.1 hg with ⟨rfl, h1, h2, rfl⟩ | ⟨rfl, rfl, h1⟩
    · exact c_text1 n h1 h2
    · exact c_text2 0 s
  | 0, .un o a, hd, hg, h => hg.elim
  | 0, .bin o a b, hd, hg, h => hg.elim
  | d + 1, .un o a, hd, hg, h => c_textU o a hg.1 (GE.op hg.2) (tH hv (by omega) hg.2) (Nat.lt_of_le_of_lt (bM hv hg.2).2 (H8 (by omega)))
  | d + 1, .bin o a b, hd, hg, h => c_textB o a b hg.1 (GE.op hg.2.1) (GE.op hg.2.2) (tH hv (by omega) hg.2.1) (Nat.lt_of_le_of_lt (bM hv hg.2.1).2 (H8 (by omega))) (tH hv (by omega) hg.2.2) (Nat.lt_of_le_of_lt (bM hv hg.2.2).2 (H8 (by omega)))
theorem EH {e : Ex} : l8 [e] = p9 e := by simp [l8]
theorem EI (x : BA) : CB 123 [.agg [.str x, .vec 0 []]] h (.str x) := by
  refine .bz Tryz.f123 19 ?_
  refine c86z ?_
  refine .T ?_
  refine .z ?_
  exact .ret (.ex (hq := by rfl))
variable {vars : List BA}
theorem c_refT1 (hv : Names vars) (x : BA) (e : Ex) (hg : GE vars 1 e) (hx : x.size ≤ 16) : CB 123 [.agg [.str x, .vec 1 (p9 e)]] h (.str (x ++ IP ++ bJ e ++ IQ)) := by
  refine .bz Tryz.f123 19 ?_
  have hse := (bM hv hg).2
  have hb : yW 1 = 48 := rfl
  refine c86z ?_
  refine c17z ?_
  refine .ss s9 (mkP 11 [0, 1, 3, 0, 8, 24, 56, 120, 255, 511, 1023] []) ?_
  refine .k 7 [] ?_
  refine .ca rfl rfl (tH hv (by omega) hg _) ?_
  refine .n [] ?_
  exact .ret (.ex (hq := by rfl))
variable {E : Env}
theorem Q4 (hE : rD E) (hv : Names vars) {r : Rf} (g : GR E vars r) : CB 123 [.agg (O6 r)] h (.str (IS r)) := by
  obtain ⟨x, idx⟩ := r
  rcases g with ⟨m, hm, hn, ⟨_, e, hi, he⟩ | ⟨_, hi⟩⟩ | ⟨p, hp, _, hn, hi⟩
  · have hx := u5 (hE.mn m hm)
    simp only at hn hi
    rw [← hn] at hx
    subst hi
    have := c_refT1 (h := h) hv x e he hx
    simp only [O6, List.length_singleton, EH]
    exact this
  · simp only at hi
    subst hi
    exact EI x
  · simp only at hi
    subst hi
    exact EI x
variable {xs : List Ar}
theorem LS (h : (xs.getD i cN).mu = true) (h0 : 0 < i) : dQ xs (i + 1) = dQ xs i ++ kG ++ aU ++ IS (xs.getD i cN).r := by rw [dQ, if_pos h, if_pos h0]
theorem LU (h : (xs.getD i cN).mu = true) (h0 : ¬ 0 < i) : dQ xs (i + 1) = dQ xs i ++ aU ++ IS (xs.getD i cN).r := by rw [dQ, if_pos h, if_neg h0]
theorem LV (h : (xs.getD i cN).mu = false) (h0 : 0 < i) : dQ xs (i + 1) = dQ xs i ++ kG ++ bJ (xs.getD i cN).e := by rw [dQ, if_neg t186, if_pos h0]
theorem LW (h : (xs.getD i cN).mu = false) (h0 : ¬ 0 < i) : dQ xs (i + 1) = dQ xs i ++ bJ (xs.getD i cN).e := by rw [dQ, if_neg t186, if_neg h0]
theorem tI {a : Ar} : AP a = [.bool a.mu, .str a.r.name, .vec a.r.idx.length (l8 a.r.idx), .int .i64 a.e.op, .int .i64 a.e.num, .str a.e.name, .vec a.e.args.length (l8 a.e.args)] := by rw [AP, aT]
variable {l : List Ar}
theorem LY (h : i < l.length) : List.take 1 (List.drop (i * 7) (aO l)) = [AV.bool (l.getD i cN).mu] := by
  have := congrArg (fun x => x.take 1) (sS h)
  simp only [List.take_take, tI] at this
  simpa using this
theorem read_ar (h : i < l.length) : List.take 2 (List.drop (i * 7 + 1) (aO l)) = O6 (l.getD i cN).r := by
  have := congrArg (fun x => (x.drop 1).take 2) (sS h)
  simp only [tI, List.drop_take, List.take_take, List.drop_drop] at this
  simpa [O6] using this
theorem read_ae (h : i < l.length) : List.take 4 (List.drop (i * 7 + 3) (aO l)) = p9 (l.getD i cN).e := by
  have := congrArg (fun x => (x.drop 3).take 4) (sS h)
  simp only [tI, List.drop_take, List.take_take, List.drop_drop] at this
  rw [aT]
  simpa using this
theorem Y5 (hE : rD E) (hv : Names vars) (h : ∀ a ∈ xs, (a.mu = true ∧ GR E vars a.r) ∨ (a.mu = false ∧ GE vars 2 a.e)) (i : Nat) (hi : i ≤ xs.length) : (dQ xs i).size ≤ 1 + 112 * i := (xK hE hv h i hi).2.1
theorem QQ (h : ∀ a ∈ xs, (a.mu = true ∧ GR E vars a.r) ∨ (a.mu = false ∧ GE vars 2 a.e)) (hi : i < xs.length) : ((xs.getD i cN).mu = true → GR E vars (xs.getD i cN).r) ∧ ((xs.getD i cN).mu = false → GE vars 2 (xs.getD i cN).e) := by
  have hm := h _ (l3 (d := cN) hi)
  rcases hm with ⟨h1, h2⟩ | ⟨h1, h2⟩
  · exact ⟨fun _ => h2, fun h => absurd (h1.symm.trans h) (by decide)⟩
  · exact ⟨fun h => absurd (h1.symm.trans h) (by decide), fun _ => h2⟩
section
attribute [local go_sem] LY read_ar read_ae
theorem EJ (hE : rD E) (hv : Names vars) (xs : List Ar) (ha : ∀ a ∈ xs, (a.mu = true ∧ GR E vars a.r) ∨ (a.mu = false ∧ GE vars 2 a.e)) (hl : xs.length ≤ 100) : CB 122 [.vec xs.length (aO xs)] h (.str (QA xs)) := by
  refine .bz Tryz.f122 39 ?_
  refine c48z ?_
  refine .cI (fun m st => ∃ (i : Nat), (m = xs.length - i ∧ i ≤ xs.length) ∧ st = ⟨mkS 39 [(0, AV.vec xs.length (aO xs)), (3, AV.str (dQ xs i)), (4, AV.int .i64 ((i : Nat) : Int))], h⟩) _ (.v ⟨0, ⟨rfl, by omega⟩, rfl⟩ (hs := t26)) ?_
  rintro m sl h' ⟨i, ⟨hm, hi⟩, hst⟩
  obtain ⟨rfl, rfl⟩ := St.mk.inj hst
  have hsz := Y5 hE hv ha i hi
  refine c0z ?_
  refine u2z ?_ ?_
  ·intro e1 qe1
   refine c2z ?_
   refine c0z ?_
   refine u2z ?_ ?_
   ·intro e2 qe2
    refine c1z ?_
    refine .c7 [0, 3, 4] ?_
    have har := QQ ha (i := i) (by omega)
    refine .z ?_
    refine u2z ?_ ?_
    ·intro e3 qe3
     have hrs := ((har.1 (by assumption)).pw hE hv).2
     refine .r ?_
     refine .e 7 ?_
     refine .ca rfl rfl (Q4 hE hv (har.1 (by assumption))) ?_
     refine c236z ?_
     refine .rz ?_
     exact ⟨_, by omega, .v ⟨(i + 1), ⟨rfl, by omega⟩, rfl⟩ (hs := t26)⟩
    intro e3 qe3
    have hes := (bM hv (har.2 (by assumption))).2
    have hb : yW 2 = 104 := rfl
    refine .r ?_
    refine .e 6 ?_
    refine .ca rfl rfl (tH hv (by omega) (har.2 (by assumption)) _) ?_
    refine c236z ?_
    refine .rz ?_
    exact ⟨_, by omega, .v ⟨(i + 1), ⟨rfl, by omega⟩, rfl⟩ (hs := t26)⟩
   intro e2 qe2
   refine .sk ?_
   have har := QQ ha (i := i) (by omega)
   refine .z ?_
   refine u2z ?_ ?_
   ·intro e4 qe4
    refine .c7 [0, 3, 4] ?_
    have hrs := ((har.1 (by assumption)).pw hE hv).2
    refine .r ?_
    refine .e 7 ?_
    refine .ca rfl rfl (Q4 hE hv (har.1 (by assumption))) ?_
    refine c236z ?_
    refine .rz ?_
    exact ⟨_, by omega, .v ⟨(i + 1), ⟨rfl, by omega⟩, rfl⟩ (hs := t26)⟩
   intro e4 qe4
   refine .c7 [0, 3, 4] ?_
   have hes := (bM hv (har.2 (by assumption))).2
   have hb : yW 2 = 104 := rfl
   refine .r ?_
   refine .e 6 ?_
   refine .ca rfl rfl (tH hv (by omega) (har.2 (by assumption)) _) ?_
   refine c236z ?_
   refine .rz ?_
   exact ⟨_, by omega, .v ⟨(i + 1), ⟨rfl, by omega⟩, rfl⟩ (hs := t26)⟩
  intro e1 qe1
  refine .exit ?_
  obtain rfl : i = xs.length := by omega
  change c9 ..
  refine c32z ?_
  exact ⟨[], _, (List.append_nil _).symm, t45, by rfl⟩
end
section
attribute [local go_sem] j9
theorem c_noE : CB 102 [.agg (p9 j9)] h (.bool true) := by
  refine .bz Tryz.f102 22 ?_
  refine .z ?_
  refine .s ?_
  refine .k 8 [(3, 6)] ?_
  refine .k 8 [(8, 11), (13, 16)] ?_
  refine .m [(13, 16)] ?_
  exact .ret (.ex (hq := by rfl))
end
theorem c_noR : CB 104 [.agg (O6 l7)] h (.bool true) := by
  show CallA _ _ _ [.agg [.str ByteArray.empty, .vec 0 []]] _ _
  refine .bz Tryz.f104 12 ?_
  refine .z ?_
  refine .s ?_
  refine .k 8 [(3, 6)] ?_
  refine .n ?_
  exact .ret (.ex (hq := by rfl))
theorem QR (x : BA) (hx : isName (L8 x)) (hr : rM x = false) : CB 103 [.agg [.str x, .vec 0 []]] h (.bool true) := by
  refine .bz Tryz.f103 25 ?_
  refine .z ?_
  refine c30z ?_
  refine .ca rfl rfl (kY _ hx hr) ?_
  refine .k 8 [(3, 6), (8, 11)] ?_
  refine .k 8 [(8, 11), (13, 16)] ?_
  refine .m [(3, 6), (8, 11)] ?_
  exact .ret (.ex (hq := by rfl))
theorem c_okR1 (hv : v7 vars) (x : BA) (hx : isName (L8 x)) (hr : rM x = false) (e : Ex) (hg : GE vars 1 e) : CB 103 [.agg [.str x, .vec 1 (p9 e)]] h (.bool true) := by
  refine .bz Tryz.f103 25 ?_
  refine .z ?_
  refine c30z ?_
  refine .ca rfl rfl (kY _ hx hr) ?_
  refine .k 8 [(3, 6), (8, 11)] ?_
  refine .k 7 [(8, 11), (13, 16)] ?_
  refine .ca rfl rfl (Q2 hv (by omega) e hg) ?_
  refine .m [(3, 6), (8, 11)] ?_
  exact .ret (.ex (hq := by rfl))
structure GRes (E : Env) : Prop where
  mn : ∀ m ∈ E.c4, rM m.name = false
  pn : ∀ p ∈ E.params, rM p.name = false
theorem LZ (hE : rD E) (hR : GRes E) (hv : v7 vars) {r : Rf} (g : GR E vars r) : CB 103 [.agg (O6 r)] h (.bool true) := by
  obtain ⟨x, idx⟩ := r
  rcases g with ⟨m, hm, hn, ⟨_, e, hi, he⟩ | ⟨_, hi⟩⟩ | ⟨p, hp, _, hn, hi⟩
  · have h1 := hE.mn m hm
    have h2 := hR.mn m hm
    simp only at hn hi
    rw [← hn] at h1 h2
    subst hi
    have := c_okR1 (h := h) hv x h1 h2 e he
    simp only [O6, List.length_singleton, EH]
    exact this
  · have h1 := hE.mn m hm
    have h2 := hR.mn m hm
    simp only at hn hi
    rw [← hn] at h1 h2
    subst hi
    exact QR x h1 h2
  · have h1 := hE.pn p hp
    have h2 := hR.pn p hp
    simp only at hn hi
    rw [← hn] at h1 h2
    subst hi
    exact QR x h1 h2
end Go.Proofs.YtfbjlfhjkojmkaaGreat
end
section
namespace Go.Un
open Go.Ab
theorem cC : ∀ s : Sl, s.len ≤ s.wt
 | .nil => Nat.le_refl _
 | .cons k n e r as1 th el rest => by
  have := cC rest
  simp only [Sl.len, Sl.wt]
  omega
section
variable {c : Core} {ps : List Pm} {blk : List BA → Int → Int → Int → Int → BR} {vs : List BA} {deep J l : Int}
theorem r_lock (h : (c5 c.L J 14).1 < 4) : o5 c ps blk vs deep J l = (row 5 ByteArray.empty j9 (r6 c ps vs (c5 c.L J 14).2).1 [] .nil .nil, vs, (r6 c ps vs (c5 c.L J 14).2).2, l) := by
 unfold o5 gU
 rw [if_pos h]
theorem MA (h0 : ¬ (c5 c.L J 14).1 < 4) (h : (c5 c.L J 14).1 < 7) : o5 c ps blk vs deep J l = (row 6 ByteArray.empty j9 (r6 c ps vs (c5 c.L J 14).2).1 [] .nil .nil, vs, (r6 c ps vs (c5 c.L J 14).2).2, l) := by
 unfold o5 gU
 rw [if_neg h0, if_pos h]
theorem r_var (h : (c5 c.L J 14).1 = 7) : o5 c ps blk vs deep J l = (row 1 (vnm l.toNat) (g8 c vs (c5 c.L J 14).2).1 l7 [] .nil .nil, vs ++ [vnm l.toNat], (g8 c vs (c5 c.L J 14).2).2, l) := by
 unfold o5 gU
 rw [if_neg (by omega), if_neg (by omega), if_pos h]
theorem MB (h : (c5 c.L J 14).1 = 8) (h2 : 0 < vs.length) : o5 c ps blk vs deep J l = (row 2 (vs.getD (c5 c.L (c5 c.L J 14).2 vs.length).1.toNat ByteArray.empty) (g8 c vs (c5 c.L (c5 c.L J 14).2 vs.length).2).1 l7 [] .nil .nil, vs, (g8 c vs (c5 c.L (c5 c.L J 14).2 vs.length).2).2, l) := by
 unfold o5 gU
 rw [if_neg (by omega), if_neg (by omega), if_neg (by omega), if_pos ⟨h, h2⟩]
theorem r_call (h : (c5 c.L J 14).1 = 9) : o5 c ps blk vs deep J l = (row 3 (c.fs.getD (c5 c.L (c5 c.L J 14).2 c.fs.length).1.toNat g9).name j9 l7 (u9 c ps vs (c.fs.getD (c5 c.L (c5 c.L J 14).2 c.fs.length).1.toNat g9).params (c5 c.L (c5 c.L J 14).2 c.fs.length).2).1 .nil .nil, vs,
   (u9 c ps vs (c.fs.getD (c5 c.L (c5 c.L J 14).2 c.fs.length).1.toNat g9).params (c5 c.L (c5 c.L J 14).2 c.fs.length).2).2, l) := by
 unfold o5 gU
 rw [if_neg (by omega), if_neg (by omega), if_neg (by omega), if_neg (by omega), if_pos (.inl h), if_neg (by omega)]
theorem r_go (h : (c5 c.L J 14).1 = 10) : o5 c ps blk vs deep J l = (row 4 (c.fs.getD (c5 c.L (c5 c.L J 14).2 c.fs.length).1.toNat g9).name j9 l7 (u9 c ps vs (c.fs.getD (c5 c.L (c5 c.L J 14).2 c.fs.length).1.toNat g9).params (c5 c.L (c5 c.L J 14).2 c.fs.length).2).1 .nil .nil, vs,
   (u9 c ps vs (c.fs.getD (c5 c.L (c5 c.L J 14).2 c.fs.length).1.toNat g9).params (c5 c.L (c5 c.L J 14).2 c.fs.length).2).2, l) := by
 unfold o5 gU
 rw [if_neg (by omega), if_neg (by omega), if_neg (by omega), if_neg (by omega), if_pos (.inr h), if_pos h]
variable {b : BR}
theorem r_if (h : (c5 c.L J 14).1 = 11) (h2 : 0 < deep) {d : BR} (hb : blk vs (deep - 1) 3 (g8 c vs (c5 c.L J 14).2).2 l = b) (h3 : (c5 c.L b.2.1 2).1 = 1) (hd : blk vs (deep - 1) 3 (c5 c.L b.2.1 2).2 b.2.2 = d) : o5 c ps blk vs deep J l = (row 7 ByteArray.empty (g8 c vs (c5 c.L J 14).2).1 l7 [] b.1 d.1, vs, d.2.1, d.2.2) := by
 unfold o5 gU
 rw [if_neg (by omega), if_neg (by omega), if_neg (by omega), if_neg (by omega), if_neg (by omega), if_pos ⟨h, h2⟩, hb]
 unfold ifK
 rw [if_pos h3, hd]
theorem r_if2 (h : (c5 c.L J 14).1 = 11) (h2 : 0 < deep) (hb : blk vs (deep - 1) 3 (g8 c vs (c5 c.L J 14).2).2 l = b) (h3 : ¬ (c5 c.L b.2.1 2).1 = 1) : o5 c ps blk vs deep J l = (row 7 ByteArray.empty (g8 c vs (c5 c.L J 14).2).1 l7 [] b.1 .nil, vs, (c5 c.L b.2.1 2).2, b.2.2) := by
 unfold o5 gU
 rw [if_neg (by omega), if_neg (by omega), if_neg (by omega), if_neg (by omega), if_neg (by omega), if_pos ⟨h, h2⟩, hb]
 unfold ifK
 rw [if_neg h3]
theorem r_while (h : (c5 c.L J 14).1 = 12) (h2 : 0 < deep) (hb : blk vs (deep - 1) 3 (g8 c vs (c5 c.L J 14).2).2 l = b) : o5 c ps blk vs deep J l = (row 8 ByteArray.empty (g8 c vs (c5 c.L J 14).2).1 l7 [] b.1 .nil, vs, b.2.1, b.2.2) := by
 unfold o5 gU
 rw [if_neg (by omega), if_neg (by omega), if_neg (by omega), if_neg (by omega), if_neg (by omega), if_neg (by omega), if_pos ⟨h, h2⟩, hb]
theorem r_ret (h : (c5 c.L J 14).1 = 13) (h2 : (c5 c.L (c5 c.L J 14).2 3).1 = 1) : o5 c ps blk vs deep J l = (row 9 ByteArray.empty j9 l7 [] .nil .nil, vs, (c5 c.L (c5 c.L J 14).2 3).2, l) := by
 unfold o5 gU
 rw [if_neg (by omega), if_neg (by omega), if_neg (by omega), if_neg (by omega), if_neg (by omega), if_neg (by omega), if_neg (by omega), if_pos ⟨h, h2⟩]
theorem MC (h : (c5 c.L J 14).1 = 13) (h2 : ¬ (c5 c.L (c5 c.L J 14).2 3).1 = 1) (hb : blk vs 0 2 (r6 c ps vs (c5 c.L (c5 c.L J 14).2 3).2).2 l = b) : o5 c ps blk vs deep J l = prK vs (r6 c ps vs (c5 c.L (c5 c.L J 14).2 3).2).1 b := by
 unfold o5 gU
 rw [if_neg (by omega), if_neg (by omega), if_neg (by omega), if_neg (by omega), if_neg (by omega), if_neg (by omega), if_neg (by omega), if_neg (by omega), if_pos h, hb]
theorem EK (h7 : 7 < (c5 c.L J 14).1) (h13 : ¬ (c5 c.L J 14).1 = 13) (h8 : (c5 c.L J 14).1 = 8 → vs.length = 0) (h9 : ¬ (c5 c.L J 14).1 = 9) (h10 : ¬ (c5 c.L J 14).1 = 10) (h11 : (c5 c.L J 14).1 = 11 → deep ≤ 0) (h12 : (c5 c.L J 14).1 = 12 → deep ≤ 0) (hb : blk vs 0 2 (r6 c ps vs (c5 c.L J 14).2).2 l = b) : o5 c ps blk vs deep J l = prK vs (r6 c ps vs (c5 c.L J 14).2).1 b := by
 unfold o5 gU
 rw [if_neg (by omega), if_neg (by omega), if_neg (by omega), if_neg (by omega), if_neg (by omega), if_neg (by omega), if_neg (by omega), if_neg (by omega), if_neg h13, hb]
end
variable {out : Sl}
theorem bV {c : Core} {ps : List Pm} {blk : List BA → Int → Int → Int → Int → BR} {n : Nat} {vs vs' : List BA} {deep J l J' l' : Int} {S : Sl} {R : BR} (h : eZ c ps blk (n + 1) vs deep out J l = R) (hl : 0 < l) (hr : o5 c ps blk vs deep J (l - 1) = (S, vs', J', l')) : eZ c ps blk n vs' deep (out.app S) J' l' = R := by
 rw [eZ, if_neg (by omega), hr] at h
 exact h
theorem Q5 {c : Core} {ps : List Pm} {blk : List BA → Int → Int → Int → Int → BR} {n : Nat} {vs : List BA} {deep J l : Int} {R : BR} (h : eZ c ps blk n vs deep out J l = R) (hl : n = 0 ∨ l ≤ 0) : R = (out, J, l) := by
 rw [← h]
 cases n with
 | zero => rfl
 | succ n => rw [eZ, if_pos (by omega)]
theorem aR {c : Core} (hc : OkC c) {ps : List Pm} {fu : Nat} (hfu : fu ≤ 23) {all vs vs' : List BA} {left0 deep J l J' l' : Int} {out S : Sl} (h0 : left0 ≤ fu + 1) (hd : 0 ≤ deep) (ho : OkB (Y0 c ps) c.L all left0 (deep.toNat + 1) (out, J, l)) (hv : ∀ x ∈ vs, x ∈ u6 out all) (hl : 0 < l)
  (hr : o5 c ps (g0 c ps fu) vs deep J (l - 1) = (S, vs', J', l')) : OkB (Y0 c ps) c.L all left0 (deep.toNat + 1) (out.app S, J', l') ∧ l' ≤ l - 1 ∧ ∀ x ∈ vs', x ∈ u6 (out.app S) all := by
 have hl2 := ho.ol
 have hw := ho.wt
 have hdp := ho.dep
 simp only at hl2 hw hdp
 obtain ⟨r1, r2, r3⟩ := P5 hc (ps := ps) (blk := g0 c ps fu) (vars := vs) (all := u6 out all) (deep := deep) (I := J) (left := l - 1) ho.oi ⟨by omega, by omega⟩ hd hv (ho.fr.mono t83) fun d most I all' l' a1 a2 a3 a4 a5 a6 a7 => fV hc fu vs d most I all' l' a1 a2 a3 a4 (by omega) (by omega) a6 a7
 rw [hr] at r1 r2 r3
 have q1 := r1.ol
 have q2 := r1.wt
 have q3 := r1.dep
 simp only at q1 q2 q3 r2 r3
 refine ⟨⟨r1.oi, ⟨q1.1, t83⟩, GS.app.2 ⟨ho.gs, r1.gs⟩, ?_, ?_, ?_⟩, r2, ?_⟩
 ·simp only [eI]; exact r1.fr
 ·simp only [Sl.A8]; omega
 ·simp only [xN]; omega
 ·rw [eI]; exact r3
def YL (l : List Mx) : Prop := ∀ j, j < l.length → (l.getD j v9).name = mnm j ∧ 0 ≤ (l.getD j v9).size ∧ (l.getD j v9).size ≤ 3 ∧ ((l.getD j v9).re = true → (l.getD j v9).size = 0)
def YM (l : List Gl) : Prop := ∀ j, j < l.length → (l.getD j jZ).name = gnm j ∧ -10 ≤ (l.getD j jZ).init ∧ (l.getD j jZ).init ≤ 10
def MD (N n : Nat) (l : List Pm) : Prop := (n = N ∧ l = []) ∨ (N = 1 ∧ n = 0 ∧ l.map (·.name) = [pnm 1]) ∨ (N = 2 ∧ n = 1 ∧ l.map (·.name) = [pnm 2]) ∨ (N = 2 ∧ n = 0 ∧ l.map (·.name) = [pnm 2, pnm 1])
def ME (l : List Fu) : Prop := ∀ j, j < l.length → (l.getD j g9).name = fnm j ∧ (j = 0 → (l.getD j g9).params = []) ∧
  ((l.getD j g9).params.map (·.name) = [] ∨ (l.getD j g9).params.map (·.name) = [pnm 1] ∨ (l.getD j g9).params.map (·.name) = [pnm 2, pnm 1])
variable {j : Nat}
theorem tJ {α : Type} {l : List α} {x d : α} (h : j < (l ++ [x]).length) : (j < l.length ∧ (l ++ [x]).getD j d = l.getD j d) ∨ (j = l.length ∧ (l ++ [x]).getD j d = x) := by
 simp at h
 by_cases hj : j < l.length
 ·exact .inl ⟨hj, by simp [List.getD, List.getElem?_append_left hj]⟩
 ·obtain rfl : j = l.length := by omega
  exact .inr ⟨rfl, by simp [List.getD]⟩
theorem YL.snoc {l : List Mx} (h : YL l) {m : Mx} (h1 : m.name = mnm l.length) (h2 : 0 ≤ m.size ∧ m.size ≤ 3) (h3 : m.re = true → m.size = 0) : YL (l ++ [m]) := fun j hj => by
 rcases tJ (d := v9) hj with ⟨q, e⟩ | ⟨rfl, e⟩
 ·rw [e]; exact h j q
 ·rw [e]; exact ⟨h1, h2.1, h2.2, h3⟩
theorem YM.snoc {l : List Gl} (h : YM l) {m : Gl} (h1 : m.name = gnm l.length) (h2 : -10 ≤ m.init ∧ m.init ≤ 10) : YM (l ++ [m]) := fun j hj => by
 rcases tJ (d := jZ) hj with ⟨q, e⟩ | ⟨rfl, e⟩
 ·rw [e]; exact h j q
 ·rw [e]; exact ⟨h1, h2⟩
theorem ME.snoc {l : List Fu} (h : ME l) {f : Fu} (h1 : f.name = fnm l.length) (h2 : l.length = 0 → f.params = []) (h3 : f.params.map (·.name) = [] ∨ f.params.map (·.name) = [pnm 1] ∨ f.params.map (·.name) = [pnm 2, pnm 1]) : ME (l ++ [f]) := fun j hj => by
 rcases tJ (d := g9) hj with ⟨q, e⟩ | ⟨rfl, e⟩
 ·rw [e]; exact h j q
 ·rw [e]; exact ⟨h1, h2, h3⟩
variable {N n : Nat} {l : List Pm}
theorem MD.step (h : MD N n l) (hn : 0 < n) (hN : N ≤ 2) {p : Pm} (hp : p.name = pnm n) : MD N (n - 1) (l ++ [p]) := by
 rcases h with ⟨rfl, rfl⟩ | ⟨_, h, _⟩ | ⟨rfl, rfl, h⟩ | ⟨_, h, _⟩
 ·have : n = 1 ∨ n = 2 := by omega
  rcases this with rfl | rfl
  ·exact .inr (.inl ⟨rfl, rfl, by simp [hp]⟩)
  ·exact .inr (.inr (.inl ⟨rfl, rfl, by simp [hp]⟩))
 ·omega
 ·exact .inr (.inr (.inr ⟨rfl, rfl, by simp [h, hp]⟩))
 ·omega
theorem MD.fin (h : MD N n l) (hn : n = 0 ∨ l = []) (hN : N ≤ 2) : l.map (·.name) = [] ∨ l.map (·.name) = [pnm 1] ∨ l.map (·.name) = [pnm 2, pnm 1] := by
 rcases h with ⟨rfl, rfl⟩ | ⟨_, _, h⟩ | ⟨_, h1, h⟩ | ⟨_, _, h⟩
 ·exact .inl rfl
 ·exact .inr (.inl h)
 ·rcases hn with hn | hn
  ·omega
  ·subst hn; exact .inl rfl
 ·exact .inr (.inr h)
theorem MD.len (h : MD N n l) : l.length ≤ 2 := by
 have : l.length = (l.map (·.name)).length := by simp
 rcases h with ⟨rfl, rfl⟩ | ⟨_, _, h⟩ | ⟨_, _, h⟩ | ⟨_, _, h⟩
 ·simp
 all_goals rw [this, h]; simp
def bW (l : List Pm) : List BA := (l.filter fun x => !x.mu).map (·.name)
theorem C9 (h : j < l.length) : bW (l.take (j + 1)) = bW (l.take j) ++ (if (l.getD j fR).mu then [] else [(l.getD j fR).name]) := by
 unfold bW
 rw [List.take_add_one, List.filter_append, List.map_append]
 congr 1
 simp only [List.getD_eq_getElem?_getD, List.getElem?_eq_getElem h, Option.toList_some, Option.getD_some, List.filter_cons, List.filter_nil]
 cases l[j].mu <;> rfl
def setBody (fs : List Fu) (i : Nat) (B : Sl) : List Fu := fs.set i { fs.getD i g9 with body := B }
def mC (fs : List Fu) : List (BA × List Pm) := fs.map fun f => (f.name, f.params)
variable {fs : List Fu} {i : Nat} {B : Sl}
theorem jK : (setBody fs i B).length = fs.length := by simp [setBody]
theorem jL (h : i < fs.length) : (setBody fs i B).getD j g9 = if j = i then { fs.getD i g9 with body := B } else fs.getD j g9 := by
 unfold setBody
 by_cases e : j = i
 ·subst e
  simp [List.getD, h]
 ·rw [if_neg e]
  simp [List.getD, List.getElem?_set_ne (Ne.symm e)]
theorem nX (h : i < fs.length) : mC (setBody fs i B) = mC fs := by
 refine List.ext_getElem (by simp [mC, setBody]) fun j h1 h2 => ?_
 have hj : j < fs.length := by simpa [mC] using h2
 have e := jL (j := j) (B := B) h
 have e1 : (setBody fs i B).getD j g9 = (setBody fs i B)[j]'(by rw [jK]; exact hj) := by simp [List.getD, jK, hj]
 have e2 : fs.getD j g9 = fs[j] := by simp [List.getD, hj]
 simp only [mC, List.getElem_map]
 rw [← e1, ← e2, e]
 split
 ·rename_i q; subst q; rfl
 ·rfl
theorem ME.mC {l l' : List Fu} (h : ME l) (e : mC l' = mC l) : ME l' := fun j hj => by
 have hl : l'.length = l.length := by have := congrArg List.length e; simpa [Un.mC] using this
 have e1 : ∀ (m : List Fu), j < m.length → (Un.mC m).getD j (ByteArray.empty, []) = ((m.getD j g9).name, (m.getD j g9).params) := fun m hm => by simp [Un.mC, List.getD, hm]
 have h1 := e1 l' hj
 have h2 := e1 l (by omega)
 rw [e, h2] at h1
 injection h1 with h3 h4
 have := h j (by omega)
 rw [h3, h4] at this
 exact this
structure Db (gs : List Gl) (ms : List Mx) (fs : List Fu) (i : Nat) (left : Int) : Prop where
 body : ∀ j, j < i → GS ⟨gs.map (·.name), ms, mC fs, (fs.getD j g9).params⟩ (fs.getD j g9).body (gs.map (·.name) ++ bW (fs.getD j g9).params) ∧ (fs.getD j g9).body.dep ≤ 3
 wt : qM fs i ≤ 2 * (24 - left).toNat
 ol : 0 ≤ left ∧ left ≤ 24
theorem vN {l l' : List Fu} : ∀ i, (∀ j, j < i → (l.getD j g9).body = (l'.getD j g9).body) → qM l i = qM l' i
 | 0, _ => rfl
 | i + 1, h => by
  rw [qM, qM, vN i fun j hj => h j (by omega), h i (by omega)]
theorem Db.step {gs : List Gl} {ms : List Mx} {fs : List Fu} {i : Nat} {left left' : Int} {L : List Int} {B : Sl} {I' : Int} (h : Db gs ms fs i left) (hi : i < fs.length)
  (hb : OkB ⟨gs.map (·.name), ms, mC fs, (fs.getD i g9).params⟩ L (gs.map (·.name) ++ bW (fs.getD i g9).params) left 3 (B, I', left')) : Db gs ms (setBody fs i B) (i + 1) left' := by
 have hol := hb.ol
 have hwt := hb.wt
 have h1 := h.ol
 have h2 := h.wt
 simp only at hol hwt
 refine ⟨fun j hj => ?_, ?_, by omega⟩
 ·rw [nX hi, jL hi]
  by_cases e : j = i
  ·subst e
   rw [if_pos rfl]
   exact ⟨hb.gs, hb.dep⟩
  ·rw [if_neg e]
   exact h.body j (by omega)
 ·have e1 : qM (setBody fs i B) i = qM fs i := vN i fun j hj => by rw [jL hi, if_neg (by omega)]
  rw [qM, e1, jL hi, if_pos rfl]
  simp only
  omega
variable {gs : List Gl}
theorem prog_ok {ms : List Mx} {left : Int} (hg : YM gs) (hgl : gs.length ≤ 2) (hm : YL ms) (hml : 1 ≤ ms.length ∧ ms.length ≤ 4) (hf : ME fs) (hfl : 1 ≤ fs.length ∧ fs.length ≤ 4) (hb : Db gs ms fs fs.length left) : GP ⟨gs, ms, fs⟩ := by
 have hw := hb.wt
 have hl := hb.ol
 refine ⟨⟨hgl, hg, hml, hm, hfl, hf⟩, fun i hi => ?_, by show qM fs fs.length ≤ 48; omega⟩
 exact hb.body i hi
theorem Y6 {ps : List Pm} (hg : YM gs) (hgl : gs.length ≤ 2) (hp : ps.map (·.name) = [] ∨ ps.map (·.name) = [pnm 1] ∨ ps.map (·.name) = [pnm 2, pnm 1]) : Fr 24 (gs.map (·.name) ++ bW ps) := by
 intro j hj hm
 refine B4 j hj ?_
 rcases List.mem_append.1 hm with hm | hm
 ·obtain ⟨g, hg1, hg2⟩ := List.mem_map.1 hm
  obtain ⟨k, hk, rfl⟩ := bB (d := jZ) hg1
  rw [← hg2, (hg k hk).1]
  exact List.mem_append.2 (.inl (List.mem_map.2 ⟨k, List.mem_range.2 (by omega), rfl⟩))
 ·obtain ⟨p, hp1, hp2⟩ := List.mem_map.1 hm
  have hp3 : p.name ∈ ps.map (·.name) := List.mem_map.2 ⟨p, (List.mem_filter.1 hp1).1, rfl⟩
  rw [hp2] at hp3
  refine List.mem_append.2 (.inr (List.mem_append.2 (.inr (List.mem_append.2 (.inr ?_)))))
  rcases hp with e | e | e
  ·rw [e] at hp3; simp at hp3
  ·rw [e] at hp3; simp at hp3; rw [hp3]; simp
  ·rw [e] at hp3; simpa using hp3
theorem okC_of {L : List Int} {ms : List Mx} {gF : Nat} {ar : Bool} (hm : YL ms) (hml : 1 ≤ ms.length ∧ ms.length ≤ 4) (hf : ME fs) (hfl : 1 ≤ fs.length ∧ fs.length ≤ 4) : OkC ⟨L, gs, ms, fs, gF, ar⟩ := by
 refine ⟨hml, fun i hi => ⟨(hm i hi).2.1, (hm i hi).2.2.1⟩, hfl, fun f hff => ?_⟩
 obtain ⟨k, hk, rfl⟩ := bB (d := g9) hff
 have h1 := (hf k hk).2.2
 have h2 : (fs.getD k g9).params.length = ((fs.getD k g9).params.map (·.name)).length := by simp
 rw [h2]
 rcases h1 with e | e | e <;> rw [e] <;> simp
end Go.Un
end
section
namespace Go.Proofs.YtfbjlfhjkojmkaaGreat
open Go.Ab Go.Un
theorem tK {s : BA} : rM s = QH.any fun x => L8 x == L8 s := by
  simp only [rM, hasB, ByteArray.toList_eq]; rfl
theorem EL : ∀ j, j < 24 → rM (vnm j) = false := by
  intro j hj
  rw [tK]
  have key : ∀ j, j < 24 → (QH.any fun x => L8 x == L8 (vnm j)) = false := by decide
  exact key j hj
theorem EM : ∀ j, j < 2 → rM (gnm j) = false := by
  intro j hj
  rw [tK]
  have key : ∀ j, j < 2 → (QH.any fun x => L8 x == L8 (gnm j)) = false := by decide
  exact key j hj
theorem EN : ∀ j, j < 4 → rM (mnm j) = false := by
  intro j hj
  rw [tK]
  have key : ∀ j, j < 4 → (QH.any fun x => L8 x == L8 (mnm j)) = false := by decide
  exact key j hj
theorem EO : ∀ j, j < 4 → rM (fnm j) = false := by
  intro j hj
  rw [tK]
  have key : ∀ j, j < 4 → (QH.any fun x => L8 x == L8 (fnm j)) = false := by decide
  exact key j hj
theorem H9 : ∀ j, j < 3 → rM (pnm j) = false := by
  intro j hj
  rw [tK]
  have key : ∀ j, j < 3 → (QH.any fun x => L8 x == L8 (pnm j)) = false := by decide
  exact key j hj
variable {pre th el rest : Sl} {k : Int} {n : BA} {e : Ex} {r : Rf} {xs : List Ar}
theorem xV : List.take 11 (List.drop (pre.len * 11) (n8 (pre.app (.cons k n e r xs th el rest)))) = [.int .i64 k, .str n, .int .i64 e.op, .int .i64 e.num, .str e.name, .vec e.args.length (l8 e.args), .str r.name, .vec r.idx.length (l8 r.idx), .vec xs.length (aO xs), .vec th.len (n8 th), .vec el.len (n8 el)] := by
  rw [read_s rfl, rowS, aT]; rfl
variable {h : c6} {vars : List BA}
theorem xW (hv : v7 vars) (hg : GE vars 2 e) : CB 121 [.agg [.int .i64 e.op, .int .i64 e.num, .str e.name, .vec e.args.length (l8 e.args)]] h (.str (bJ e)) := by
  rw [← aT]; exact tH hv.n (by omega) hg h
theorem xX (hv : v7 vars) (hg : GE vars 2 e) : CB 101 [.agg [.int .i64 e.op, .int .i64 e.num, .str e.name, .vec e.args.length (l8 e.args)]] h (.bool true) := by
  rw [← aT]; exact Q2 hv (by omega) e hg
theorem v7.snoc (h : v7 vars) {j : Nat} (hj : j < 24) : v7 (vars ++ [vnm j]) := by
  intro x hx
  rcases List.mem_append.1 hx with hx | hx
  · exact h x hx
  · replace hx := s7z hx
    subst hx
    exact ⟨rE, EL j hj⟩
theorem I0 {pre : Sl} {k : Int} {n : BA} {e : Ex} {r : Rf} {xs : List Ar} {th el rest : Sl} : (pre.app (.cons k n e r xs th el rest)).wt = pre.wt + (1 + th.wt + el.wt + rest.wt) := by rw [Sl.A8, Sl.wt]
theorem u3 {pre : Sl} {k : Int} {n : BA} {e : Ex} {r : Rf} {xs : List Ar} {th el rest : Sl} : (pre.app (.cons k n e r xs th el rest)).len = pre.len + (rest.len + 1) := by rw [Go.Un.Sl.bD, Go.Un.Sl.len]
theorem dW {k : Int} {n : BA} {e : Ex} {r : Rf} {xs : List Ar} {th el rest : Sl} : (Sl.cons k n e r xs th el rest).dep = max (max th.dep el.dep + 1) rest.dep := rfl
theorem dH : pre.app (.cons k n e r xs th el rest) = (pre.app (.cons k n e r xs th el .nil)).app rest := by rw [Sl.A7]; rfl
theorem MF : (((pre.app (.cons k n e r xs th el .nil)).len : Nat) : Int) = (pre.len : Int) + 1 := by rw [Go.Un.Sl.bD]; simp [Go.Un.Sl.len]
theorem vO {tabs : BA} (h : Cl (L8 tabs) 0) : Cl (L8 (tabs ++ eY)) 0 := aG h B3
attribute [local go_sem] lP w9 m8 aN bQ aP l9 Int.natCast_nonneg Int.natCast_inj List.length_map wrap64 Y3 kJ xU w8 kZ eq_mk lA xV Nat.reduceMul
theorem MG {E : Env} (hE : rD E) (S : Sl) (ih : ∀ S' : Sl, S'.wt < S.wt → ∀ (vars : List BA) (tabs : BA), v7 vars → GS E S' vars → tabs.size + S'.dep ≤ 10 → Cl (L8 tabs) 0 → ∀ h : c6, CB 106 [.vec S'.len (n8 S'), .str tabs] h (.str (kH S' tabs ByteArray.empty))) (vars : List BA) (tabs : BA) (hv0 : v7 vars) (hG0 : GS E S vars) (hd : tabs.size + S.dep ≤ 10) (ht : Cl (L8 tabs) 0) (hw : S.wt ≤ 1000) : CB 106 [.vec S.len (n8 S), .str tabs] h (.str (kH S tabs ByteArray.empty)) := by
  refine .bz Tryz.f106 133 ?_
  have hlw := cC S
  have hTs := (iC hE S vars tabs ByteArray.empty 0 hv0.n hG0 hd ht Cl.nil).2
  have hse : ByteArray.empty.size = 0 := rfl
  refine c48z ?_
  refine .z7 (fun m st => ∃ (Z : Sl) (pre : Sl) (rst : Sl) (vs : List BA) (out : BA), (m = rst.len ∧ (Z = S ∧ S = pre.app rst ∧ GS E rst vs ∧ v7 vs ∧ kH rst tabs out = kH S tabs ByteArray.empty ∧ tabs.size + rst.dep ≤ 10)) ∧ st = ⟨mkS 133 [(0, AV.vec (Go.Un.Sl.len Z) (n8 Z)), (1, AV.str tabs), (5, AV.str out), (6, AV.int .i64 ((pre.len : Nat) : Int))], h⟩) (.v ⟨S, Sl.nil, S, vars, ByteArray.empty, ⟨rfl, ⟨rfl, rfl, hG0, hv0, rfl, hd⟩⟩, rfl⟩ (hs := t9)) ?_
  rintro m sl h' ⟨Z, pre, rst, vs, out, ⟨hm, ⟨hZ, hS, hG, hv, hT, hdp⟩⟩, hst⟩
  obtain ⟨rfl, rfl⟩ := St.mk.inj hst; clear hst
  subst hZ
  have hlen := congrArg Go.Un.Sl.len hS; rw [Go.Un.Sl.bD] at hlen
  have hos : out.size ≤ 400000 := by have := DA rst tabs out; rw [hT] at this; omega
  refine c0z ?_
  refine u2z ?_ ?_
  ·intro e1 qe1
   refine c2z ?_
   obtain ⟨k, n, e, r, xs, th, el, rest, rfl⟩ := Go.Un.Sl.mQ (s := rst) (by omega)
   subst hS
   have hwc := @I0 pre k n e r xs th el rest
   have hlc := @u3 pre k n e r xs th el rest
   have hdc := @dW k n e r xs th el rest
   rcases hG with ⟨rfl, ⟨j, hj, rfl⟩, hn, he, rfl, rfl, rfl, rfl, hr⟩ | ⟨rfl, hn, he, rfl, rfl, rfl, rfl, hr⟩ | ⟨rfl | rfl, ⟨f, hf, rfl, ha⟩, rfl, rfl, rfl, rfl, hr⟩ | ⟨rfl | rfl, rfl, rfl, hR, rfl, rfl, rfl, hr⟩ | ⟨rfl, rfl, he, rfl, rfl, hth, hel, hr⟩ | ⟨rfl, rfl, he, rfl, rfl, hth, rfl, hr⟩ | ⟨rfl, rfl, rfl, rfl, rfl, rfl, rfl, hr⟩
   ·have hes := (bM hv.n he).2; have hb : yW 2 = 104 := rfl
    have hns := u5 (rE (j := j))
    refine c174z ?_
    refine c100z ?_
    refine .so s9 (mkP 12 [0, 1, 0, 4, 15, 31, 0, 64, 192, 511, 1023, 2047] []) ?_
    refine .k 8 [] ?_
    refine .ca rfl rfl (xW hv he) ?_
    refine .n [] ?_
    change c9 ..
    refine c118z ?_
    have hT2 := hT
    simp only [kH, show ((1 : Int) = 2) = False from by simp, show ((1 : Int) = 3) = False from by simp, show ((1 : Int) = 4) = False from by simp, show ((1 : Int) = 5) = False from by simp, show ((1 : Int) = 6) = False from by simp, show ((1 : Int) = 7) = False from by simp, show ((1 : Int) = 8) = False from by simp, if_true, if_false, true_or, or_true, or_false, false_or, or_self] at hT2
    exact ⟨_, by omega, .v ⟨_, (pre.app (.cons 1 (vnm j) e l7 [] .nil .nil .nil)), rest, (vs ++ [vnm j]), _, ⟨rfl, ⟨rfl, dH, hr, (hv.snoc hj), hT2, by omega⟩⟩, rfl⟩ (he := by rfl) (hs := t9)⟩
   ·have hes := (bM hv.n he).2; have hb : yW 2 = 104 := rfl
    have hns := u5 (hv _ hn).1
    refine c174z ?_
    refine c8z ?_
    refine c100z ?_
    refine .c7 [0, 1, 5, 6, 7] ?_
    refine .so s9 (mkP 11 [0, 0, 2, 7, 15, 0, 32, 96, 255, 511, 1023] []) ?_
    refine .k 7 [] ?_
    refine .ca rfl rfl (xW hv he) ?_
    refine .n [] ?_
    change c9 ..
    refine c118z ?_
    have hT2 := hT
    simp only [kH, show ((2 : Int) = 1) = False from by simp, show ((2 : Int) = 3) = False from by simp, show ((2 : Int) = 4) = False from by simp, show ((2 : Int) = 5) = False from by simp, show ((2 : Int) = 6) = False from by simp, show ((2 : Int) = 7) = False from by simp, show ((2 : Int) = 8) = False from by simp, if_true, if_false, true_or, or_true, or_false, false_or, or_self] at hT2
    exact ⟨_, by omega, .v ⟨_, (pre.app (.cons 2 n e l7 [] .nil .nil .nil)), rest, vs, _, ⟨rfl, ⟨rfl, dH, hr, hv, hT2, by omega⟩⟩, rfl⟩ (he := by rfl) (hs := t9)⟩
   ·have hns := u5 (hE.fn f hf)
    have has := (G6 hE hv.n ha (hE.fp f hf)).2.1
    have hxl := (jF hE hv.n ha).1; have hfl := hE.fp f hf
    refine c183z ?_
    refine .c7 [0, 1, 5, 6, 7, 23] ?_
    refine c100z ?_
    refine .so s9 (mkP 10 [0, 0, 2, 7, 0, 16, 48, 127, 255, 511] []) ?_
    refine .k 6 [] ?_
    refine .ca rfl rfl (EJ hE hv.n xs (jF hE hv.n ha).2 (by omega)) ?_
    refine .n [] ?_
    change c9 ..
    refine c118z ?_
    have hT2 := hT
    simp only [kH, show ((3 : Int) = 1) = False from by simp, show ((3 : Int) = 2) = False from by simp, show ((3 : Int) = 4) = False from by simp, show ((3 : Int) = 5) = False from by simp, show ((3 : Int) = 6) = False from by simp, show ((3 : Int) = 7) = False from by simp, show ((3 : Int) = 8) = False from by simp, if_true, if_false, true_or, or_true, or_false, false_or, or_self] at hT2
    exact ⟨_, by omega, .v ⟨_, (pre.app (.cons 3 f.1 j9 l7 xs .nil .nil .nil)), rest, vs, _, ⟨rfl, ⟨rfl, dH, hr, hv, hT2, by omega⟩⟩, rfl⟩ (he := by rfl) (hs := t9)⟩
   ·have hns := u5 (hE.fn f hf)
    have has := (G6 hE hv.n ha (hE.fp f hf)).2.1
    have hxl := (jF hE hv.n ha).1; have hfl := hE.fp f hf
    refine c228z ?_
    refine c100z ?_
    refine .so s9 (mkP 11 [0, 1, 0, 4, 15, 0, 32, 96, 255, 511, 1023] []) ?_
    refine .k 7 [] ?_
    refine .ca rfl rfl (EJ hE hv.n xs (jF hE hv.n ha).2 (by omega)) ?_
    refine .n [] ?_
    change c9 ..
    refine c118z ?_
    have hT2 := hT
    simp only [kH, show ((4 : Int) = 1) = False from by simp, show ((4 : Int) = 2) = False from by simp, show ((4 : Int) = 3) = False from by simp, show ((4 : Int) = 5) = False from by simp, show ((4 : Int) = 6) = False from by simp, show ((4 : Int) = 7) = False from by simp, show ((4 : Int) = 8) = False from by simp, if_true, if_false, true_or, or_true, or_false, false_or, or_self] at hT2
    exact ⟨_, by omega, .v ⟨_, (pre.app (.cons 4 f.1 j9 l7 xs .nil .nil .nil)), rest, vs, _, ⟨rfl, ⟨rfl, dH, hr, hv, hT2, by omega⟩⟩, rfl⟩ (he := by rfl) (hs := t9)⟩
   ·have hrs := (hR.pw hE hv.n).2
    refine c228z ?_
    refine c8z ?_
    refine c100z ?_
    refine c138z ?_
    refine .ca rfl rfl (Q4 hE hv.n hR) ?_
    refine c25z ?_
    refine c118z ?_
    have hT2 := hT
    simp only [kH, show ((5 : Int) = 1) = False from by simp, show ((5 : Int) = 2) = False from by simp, show ((5 : Int) = 3) = False from by simp, show ((5 : Int) = 4) = False from by simp, show ((5 : Int) = 6) = False from by simp, show ((5 : Int) = 7) = False from by simp, show ((5 : Int) = 8) = False from by simp, if_true, if_false, true_or, or_true, or_false, false_or, or_self] at hT2
    exact ⟨_, by omega, .v ⟨_, (pre.app (.cons 5 ByteArray.empty j9 r [] .nil .nil .nil)), rest, vs, _, ⟨rfl, ⟨rfl, dH, hr, hv, hT2, by omega⟩⟩, rfl⟩ (he := by rfl) (hs := t9)⟩
   ·have hrs := (hR.pw hE hv.n).2
    refine c228z ?_
    refine c112z ?_
    refine c100z ?_
    refine .c7 [0, 1, 5, 6, 7] ?_
    refine c138z ?_
    refine .ca rfl rfl (Q4 hE hv.n hR) ?_
    refine c25z ?_
    refine c118z ?_
    have hT2 := hT
    simp only [kH, show ((6 : Int) = 1) = False from by simp, show ((6 : Int) = 2) = False from by simp, show ((6 : Int) = 3) = False from by simp, show ((6 : Int) = 4) = False from by simp, show ((6 : Int) = 5) = False from by simp, show ((6 : Int) = 7) = False from by simp, show ((6 : Int) = 8) = False from by simp, if_true, if_false, true_or, or_true, or_false, false_or, or_self] at hT2
    exact ⟨_, by omega, .v ⟨_, (pre.app (.cons 6 ByteArray.empty j9 r [] .nil .nil .nil)), rest, vs, _, ⟨rfl, ⟨rfl, dH, hr, hv, hT2, by omega⟩⟩, rfl⟩ (he := by rfl) (hs := t9)⟩
   ·have hes := (bM hv.n he).2; have hb : yW 2 = 104 := rfl
    have hts : (tabs ++ eY).size = tabs.size + 1 := by rw [w8]; rfl
    have hths := (iC hE th vs (tabs ++ eY) ByteArray.empty 0 hv.n hth (by omega) (vO ht) Cl.nil).2
    have hels := (iC hE el vs (tabs ++ eY) ByteArray.empty 0 hv.n hel (by omega) (vO ht) Cl.nil).2
    refine c228z ?_
    refine c112z ?_
    refine c8z ?_
    refine .seq ?_
    refine .c7 [0, 1, 5, 6, 7, 23] ?_
    refine c100z ?_
    refine .sk ?_
    refine .T ?_
    refine c86z ?_
    refine c17z ?_
    refine .ss s9 (mkP 18 [0, 0, 3, 0, 8, 24, 63, 127, 0, 256, 0, 1024, 3896, 8191, 0, 32767, 65535, 131071] []) ?_
    refine .k 5 [] ?_
    refine .ca rfl rfl (xW hv he) ?_
    refine .k 6 [] ?_
    refine .ca rfl rfl (ih th (by omega) vs (tabs ++ eY) hv hth (by omega) (vO ht) _) ?_
    refine .n [] ?_
    refine .c7 [0, 1, 5, 6, 7] ?_
    refine .z ?_
    refine u2z ?_ ?_
    ·intro e2 qe2
     refine .r ?_
     refine .e 6 ?_
     refine .ca rfl rfl (ih el (by omega) vs (tabs ++ eY) hv hel (by omega) (vO ht) _) ?_
     refine c25z ?_
     refine c118z ?_
     have hT2 := hT
     have hel0 : 0 < el.len := by omega
     simp only [kH, show ((7 : Int) = 1) = False from by simp, show ((7 : Int) = 2) = False from by simp, show ((7 : Int) = 3) = False from by simp, show ((7 : Int) = 4) = False from by simp, show ((7 : Int) = 5) = False from by simp, show ((7 : Int) = 6) = False from by simp, show ((7 : Int) = 8) = False from by simp, if_true, if_false, true_or, or_true, or_false, false_or, or_self, if_pos hel0] at hT2
     exact ⟨_, by omega, .v ⟨_, (pre.app (.cons 7 ByteArray.empty e l7 [] th el .nil)), rest, vs, _, ⟨rfl, ⟨rfl, dH, hr, hv, hT2, by omega⟩⟩, rfl⟩ (he := by rfl) (hs := t9)⟩
    intro e2 qe2
    refine c5z ?_
    refine c46z ?_
    have hT2 := hT
    have hel0 : ¬ 0 < el.len := by omega
    simp only [kH, show ((7 : Int) = 1) = False from by simp, show ((7 : Int) = 2) = False from by simp, show ((7 : Int) = 3) = False from by simp, show ((7 : Int) = 4) = False from by simp, show ((7 : Int) = 5) = False from by simp, show ((7 : Int) = 6) = False from by simp, show ((7 : Int) = 8) = False from by simp, if_true, if_false, true_or, or_true, or_false, false_or, or_self, if_neg hel0] at hT2
    exact ⟨_, by omega, .v ⟨_, (pre.app (.cons 7 ByteArray.empty e l7 [] th el .nil)), rest, vs, _, ⟨rfl, ⟨rfl, dH, hr, hv, hT2, by omega⟩⟩, rfl⟩ (he := by rfl) (hs := t9)⟩
   ·have hes := (bM hv.n he).2; have hb : yW 2 = 104 := rfl
    have hts : (tabs ++ eY).size = tabs.size + 1 := by rw [w8]; rfl
    have hths := (iC hE th vs (tabs ++ eY) ByteArray.empty 0 hv.n hth (by omega) (vO ht) Cl.nil).2
    refine c228z ?_
    refine c112z ?_
    refine c8z ?_
    refine .seq ?_
    refine c80z ?_
    refine c1z ?_
    refine .T ?_
    refine c86z ?_
    refine .T ?_
    refine .c7 [0, 1, 5, 6, 7] ?_
    refine c1z ?_
    refine .ss s9 (mkP 18 [0, 0, 3, 0, 8, 24, 63, 127, 0, 256, 0, 1024, 3896, 8191, 0, 32767, 65535, 131071] []) ?_
    refine .k 5 [] ?_
    refine .ca rfl rfl (xW hv he) ?_
    refine .k 6 [] ?_
    refine .ca rfl rfl (ih th (by omega) vs (tabs ++ eY) hv hth (by omega) (vO ht) _) ?_
    refine .n [] ?_
    refine .c7 [0, 1, 5, 6, 7] ?_
    refine c8z ?_
    refine c5z ?_
    refine c46z ?_
    have hT2 := hT
    simp only [kH, show ((8 : Int) = 1) = False from by simp, show ((8 : Int) = 2) = False from by simp, show ((8 : Int) = 3) = False from by simp, show ((8 : Int) = 4) = False from by simp, show ((8 : Int) = 5) = False from by simp, show ((8 : Int) = 6) = False from by simp, show ((8 : Int) = 7) = False from by simp, if_true, if_false, true_or, or_true, or_false, false_or, or_self, Go.Un.Sl.len, Nat.lt_irrefl] at hT2
    exact ⟨_, by omega, .v ⟨_, (pre.app (.cons 8 ByteArray.empty e l7 [] th .nil .nil)), rest, vs, _, ⟨rfl, ⟨rfl, dH, hr, hv, hT2, by omega⟩⟩, rfl⟩ (he := by rfl) (hs := t9)⟩
   ·skip
    refine c228z ?_
    refine c112z ?_
    refine c8z ?_
    refine .seq ?_
    refine c80z ?_
    refine c1z ?_
    refine c208z ?_
    refine c1z ?_
    refine c139z ?_
    have hT2 := hT
    simp only [kH, show ((9 : Int) = 1) = False from by simp, show ((9 : Int) = 2) = False from by simp, show ((9 : Int) = 3) = False from by simp, show ((9 : Int) = 4) = False from by simp, show ((9 : Int) = 5) = False from by simp, show ((9 : Int) = 6) = False from by simp, show ((9 : Int) = 7) = False from by simp, show ((9 : Int) = 8) = False from by simp, if_true, if_false, true_or, or_true, or_false, false_or, or_self] at hT2
    exact ⟨_, by omega, .v ⟨_, (pre.app (.cons 9 ByteArray.empty j9 l7 [] .nil .nil .nil)), rest, vs, _, ⟨rfl, ⟨rfl, dH, hr, hv, hT2, by omega⟩⟩, rfl⟩ (he := by rfl) (hs := t9)⟩
  intro e1 qe1
  refine .exit ?_
  obtain rfl := Go.Un.Sl.xE (show rst.len = 0 by omega)
  rw [kH] at hT
  refine c224z ?_
  exact .ret (.ex (hq := by (exact congrArg AV.str hT)))
theorem EP {E : Env} (hE : rD E) : ∀ (n : Nat) (S : Sl), S.wt ≤ n → n ≤ 1000 → ∀ (vars : List BA) (tabs : BA), v7 vars → GS E S vars → tabs.size + S.dep ≤ 10 → Cl (L8 tabs) 0 → ∀ h : c6, CB 106 [.vec S.len (n8 S), .str tabs] h (.str (kH S tabs ByteArray.empty))
  | n, S, hn, h1, vars, tabs, hv, hG, hd, ht, h => by
    refine MG hE S (fun S' hS' => ?_) vars tabs hv hG hd ht (by omega)
    cases n with
    | zero => omega
    | succ n => exact EP hE n S' (by omega) (by omega)
end Go.Proofs.YtfbjlfhjkojmkaaGreat
end
section
namespace Go.Proofs.YtfbjlfhjkojmkaaGreat
open Go.Ab Go.Un
structure Frame where
  b0 : Blk
  b1 : Blk
  b2 : Blk
  z : Blk
  m : Blk
  g : Blk
  rest : c6
def Frame.n (e : Frame) : Nat := e.rest.length + 9
def hB (c : Core) (e : Frame) (I left : Int) : c6 :=
  e.b0 :: e.b1 :: e.b2 :: e.z :: ⟨0, false, 91, 2, [.vec c.L.length (g7 c.L), .int .i64 I], 0⟩ ::
  ⟨0, false, 93, 6, [.ptr 4 0 0, .vec c.gs.length (o8 c.gs), .vec c.ms.length (g5 c.ms), .own 8 c.gF 0 c.fs.length, .int .i64 left, .bool c.ar], 0⟩ ::
  e.m :: e.g :: ⟨c.gF, false, 101, 3, n6 c.fs, 0⟩ :: e.rest
section
variable {c : Core} {e : Frame} {I left k : Int} {l : c6}
theorem bK : (hB c e I left).length = e.n := by simp [hB, Frame.n]
theorem hB_1 : (hB c e I left)[4]? = some ⟨0, false, 91, 2, [.vec c.L.length (g7 c.L), .int .i64 I], 0⟩ := rfl
theorem hB_2 : (hB c e I left)[5]? = some ⟨0, false, 93, 6, [.ptr 4 0 0, .vec c.gs.length (o8 c.gs), .vec c.ms.length (g5 c.ms), .own 8 c.gF 0 c.fs.length, .int .i64 left, .bool c.ar], 0⟩ := rfl
theorem hB_5 : (hB c e I left)[8]? = some ⟨c.gF, false, 101, 3, n6 c.fs, 0⟩ := rfl
theorem UH : (hB c e I left ++ l)[4]? = some ⟨0, false, 91, 2, [.vec c.L.length (g7 c.L), .int .i64 I], 0⟩ := rfl
theorem UI : (hB c e I left ++ l)[5]? = some ⟨0, false, 93, 6, [.ptr 4 0 0, .vec c.gs.length (o8 c.gs), .vec c.ms.length (g5 c.ms), .own 8 c.gF 0 c.fs.length, .int .i64 left, .bool c.ar], 0⟩ := rfl
theorem UJ : (hB c e I left ++ l)[8]? = some ⟨c.gF, false, 101, 3, n6 c.fs, 0⟩ := rfl
theorem UK : (hB c e I left ++ l).set 5 ⟨0, false, 93, 6, [.ptr 4 0 0, .vec c.gs.length (o8 c.gs), .vec c.ms.length (g5 c.ms), .own 8 c.gF 0 c.fs.length, .int .i64 k, .bool c.ar], 0⟩ = hB c e I k ++ l := rfl
variable {j : Nat}
theorem dX : (hB c e I left ++ l)[e.n + j]? = l[j]? := by
  rw [List.getElem?_append_right (by rw [bK]; omega), bK, Nat.add_sub_cancel_left]
theorem xY : (hB c e I left ++ l)[e.n]? = l[0]? := by
  rw [List.getElem?_append_right (by rw [bK]; omega), bK, Nat.sub_self]
theorem eC {b : Blk} : (hB c e I left ++ l).set (e.n + j) b = hB c e I left ++ l.set j b := by
  rw [List.set_append_right _ _ (by rw [bK]; omega), bK, Nat.add_sub_cancel_left]
theorem I6 {b : Blk} : (hB c e I left ++ l).set e.n b = hB c e I left ++ l.set 0 b := by
  rw [List.set_append_right _ _ (by rw [bK]; omega), bK, Nat.sub_self]
variable {left' : Int}
theorem fA {I' : Int} : z5 (hB c e I left) (hB c e I' left') := by
  refine z5.of ⟨.inl rfl, .inl rfl, .inl rfl, .inl rfl, .inr (eX.get ⟨.vec _ _, .int _ _, trivial⟩), .inr (eX.get ⟨.ptr _ _ _ ?_, .vec _ _, .vec _ _, .own _ _ _ _ ?_, .int _ _, .bool _, trivial⟩), .inl rfl, .inl rfl, .inl rfl, lZ.refl _ _⟩
  · rw [bK]; unfold Frame.n; omega
  · rw [bK]; unfold Frame.n; omega
theorem xZ {I' : Int} {l' : c6} (hk : lZ (e.n + l'.length) l l') : z5 (hB c e I left ++ l) (hB c e I' left' ++ l') :=
  fA.app (by rw [bK, bK]) (by rw [bK]; exact hk)
end
theorem famB (c : Core) (e : Frame) (left : Int) : bE 4 c.L e.n fun I => hB c e I left := ⟨fun _ => rfl, fun _ _ => rfl, fun _ => bK⟩
theorem eK {c : Core} {e : Frame} {left : Int} (l : c6) (I n : Int) (hI : OkI c.L I) (hL : c.L.length < 4611686018427387904) (hn : 0 < n) (hm : n ≤ 4611686018427387904) : CH 47 [.ptr 4 0 0, .int .i64 n] (hB c e I left ++ l) (.int .i64 (c5 c.L I n).1) (hB c e (c5 c.L I n).2 left ++ l) := kX (famB c e left) l I n hI hL hn hm
theorem I7 {c : Core} {e : Frame} {left : Int} (l : c6) (I v : Int) (hI : OkI c.L I) (hL : c.L.length < 4611686018427387904) (names : List BA) (hN : names.length < 1000) (hv : 0 ≤ v ∧ v < 1000) : CH 100 [.ptr 4 0 0, .vec names.length (w5 names), .int .i64 v] (hB c e I left ++ l) (.agg (p9 (cL c.L names v.toNat I).1)) (hB c e (cL c.L names v.toNat I).2 left ++ l) := by
  have h := QE hL names hN v.toNat (by omega) ((famB c e left).app l) I hI
  rw [Int.toNat_of_nonneg hv.1] at h
  exact h
variable {i : Nat}
theorem nY {l : List Mx} (h : i < l.length) : List.take 1 (List.drop (i * 3 + 2) (g5 l)) = [AV.int .i64 (l.getD i v9).size] := by
  have := congrArg (fun x => x.drop 2) (xF h)
  simp only [List.drop_take, List.drop_drop] at this
  simpa using this
theorem MH {l : List Mx} (h : i < l.length) : List.take 1 (List.drop (i * 3) (g5 l)) = [AV.str (l.getD i v9).name] := by
  have := congrArg (fun x => x.take 1) (xF h)
  simp only [List.take_take] at this
  simpa using this
theorem Q6 {l : List Pm} (h : i < l.length) : List.take 1 (List.drop (i * 2) (s4 l)) = [AV.str (l.getD i fR).name] := by
  have := congrArg (fun x => x.take 1) (CT h)
  simp only [List.take_take] at this
  simpa using this
theorem jM {l : List Pm} (h : i < l.length) : List.take 1 (List.drop (i * 2 + 1) (s4 l)) = [AV.bool (l.getD i fR).mu] := by
  have := congrArg (fun x => x.drop 1) (CT h)
  simp only [List.drop_take, List.drop_drop] at this
  simpa using this
variable {vars : List BA} {size : Int}
theorem idx_pos {c : Core} {I : Int} (h : c.ar = true) (h2 : (c5 c.L I 3).1 = 1) : eT c vars size I = cL c.L vars 1 (c5 c.L I 3).2 := by rw [eT, if_pos h, if_pos h2]
theorem idx_neg {c : Core} {I : Int} (h : c.ar = true) (h2 : ¬ (c5 c.L I 3).1 = 1) : eT c vars size I = (.leaf 1 (c5 c.L (c5 c.L I 3).2 size).1 ByteArray.empty, (c5 c.L (c5 c.L I 3).2 size).2) := by rw [eT, if_pos h, if_neg h2]
theorem idx_no {c : Core} {I : Int} (h : c.ar = false) : eT c vars size I = (.leaf 1 (c5 c.L I size).1 ByteArray.empty, (c5 c.L I size).2) := by rw [eT, if_neg t186]
theorem wex_pos {c : Core} {I : Int} (h : c.ar = true) : g8 c vars I = cL c.L vars (1 + (c5 c.L I 2).1).toNat (c5 c.L I 2).2 := by rw [g8, if_pos h]
theorem wex_neg {c : Core} {I : Int} (h : c.ar = false) : g8 c vars I = cL c.L vars 0 I := by rw [g8, if_neg t186]
attribute [local go_sem] l9 w9 n5 aA m8 Int.natCast_nonneg Int.natCast_inj List.length_map bK hB_1 hB_2 hB_5 UH UI UJ UK dX xY eC I6
theorem frz_E {n d : Nat} {H : c6} {a : Ex} : o2 (gJ n H (d + 1)) (p9 a) = some (p9 a) := by
  rw [aT]
  rfl
theorem MI {r : Rf} : mU (AP ⟨true, r, j9⟩) (.bool true :: (O6 r ++ [.int .i64 0, .int .i64 0, .str ByteArray.empty, .j6])) := ⟨.inl rfl, .inl rfl, .inl rfl, .inl rfl, .inl rfl, .inl rfl, .inr ⟨rfl, rfl⟩, trivial⟩
theorem ER {x : Ex} : mU (AP ⟨false, l7, x⟩) (.bool false :: .str ByteArray.empty :: .j6 :: p9 x) := ⟨.inl rfl, .inl rfl, .inr ⟨rfl, rfl⟩, mU.refl _⟩
theorem frz_A {n d : Nat} {H : c6} {l : List Ar} : o2 (jX n H (d + 1)) (aO l) = some (aO l) := by
  induction l with
  | nil => rfl
  | cons a l ih =>
    refine vL ?_ ih
    simp only [AP, o2, nN, nO, lM, Y1]
section
attribute [local go_sem] eJ
theorem c_index {c : Core} {e : Frame} {left I : Int} (hc : OkC c) (hI : OkI c.L I) (hL : c.L.length < 4611686018427387904) (vars : List BA) (hN : vars.length < 1000) (size : Int) (hs : 0 < size ∧ size ≤ 3) : CH 99 [.ptr 5 0 0, .vec vars.length (w5 vars), .int .i64 size] (hB c e I left) (.agg (p9 (eT c vars size I).1)) (hB c e (eT c vars size I).2 left) := by
  refine .wz Tryz.f99 32 ?_
  have h3 := l6 hI (n := 3) (by omega)
  refine c26z ?_
  refine c23z ?_
  refine .spl 11 rfl rfl (fun e1 => ?_) (fun e1 => ?_)
  ·try simp only [e1]
   have qe1 := fact e1
   refine .k 4 [(4, 11)] ?_
   refine .ch rfl rfl (eK _ _ 3 hI hL (by omega) (by omega)) ?_
   refine .m [(4, 11)] ?_
   refine u2z ?_ ?_
   ·intro e2 qe2
    refine .c7 [0, 1, 6] ?_
    refine c23z ?_
    refine .ch rfl rfl (I7 _ _ 1 h3.2.2 hL vars hN (by omega)) ?_
    refine c150z ?_
    exact ⟨hB _ _ _ _, _, _, rfl, t68, fA, t7, t71⟩
   intro e2 qe2
   refine .sk ?_
   refine .c7 [0, 2, 6] ?_
   refine c23z ?_
   refine .ch rfl rfl (eK _ _ size (by first | exact h3.2.2 | exact hI) hL (by omega) (by omega)) ?_
   refine c150z ?_
   exact ⟨hB _ _ _ _, _, _, rfl, t68, fA, t7, t71⟩
  try simp only [e1]
  have qe1 := fact e1
  refine .m [(4, 11)] ?_
  refine c17z ?_
  refine .c7 [0, 2, 6] ?_
  refine c23z ?_
  refine .ch rfl rfl (eK _ _ size (by first | exact h3.2.2 | exact hI) hL (by omega) (by omega)) ?_
  refine c150z ?_
  exact ⟨hB _ _ _ _, _, _, rfl, t68, fA, t7, t71⟩
end
section
attribute [local go_sem] eJ wrap64
theorem c_wexpr {c : Core} {e : Frame} {left I : Int} (hc : OkC c) (hI : OkI c.L I) (hL : c.L.length < 4611686018427387904) (vars : List BA) (hN : vars.length < 1000) : CH 76 [.ptr 5 0 0, .vec vars.length (w5 vars)] (hB c e I left) (.agg (p9 (g8 c vars I).1)) (hB c e (g8 c vars I).2 left) := by
  refine .wz Tryz.f76 28 ?_
  have h2 := l6 hI (n := 2) (by omega)
  refine c86z ?_
  refine u2z ?_ ?_
  ·intro e1 qe1
   refine c23z ?_
   refine .ch rfl rfl (I7 _ _ 0 hI hL vars hN (by omega)) ?_
   refine c150z ?_
   exact ⟨hB _ _ _ _, _, _, rfl, t68, fA, t7, t118⟩
  intro e1 qe1
  refine .sk ?_
  refine .sm s9 (mkP 13 [0, 1, 3, 7, 0, 0, 32, 96, 224, 480, 992, 2047, 4095] [9, 11, 12]) [0, 1, 2, 3, 4] ?_
  refine dS.p (pd := []) 9 ?_
  refine dS.p5 rfl rfl rfl rfl rfl uP (eK _ _ 2 hI hL (by omega) (by omega)) ?_
  refine dS.p 1 ?_
  refine dS.p5 rfl rfl rfl rfl rfl KF (I7 _ _ _ h2.2.2 hL vars hN (by omega)) ?_
  refine dS.p 1 ?_
  refine dS.nil t10 ?_
  refine c3z ?_
  exact ⟨hB _ _ _ _, _, _, rfl, t68, fA, t7, t118⟩
end
theorem iL {l : List BA} {x : BA} : w5 (l ++ [x]) = w5 l ++ [.str x] := by simp [w5]
theorem Y7 {c : Core} (h : i < c.ms.length) : (c.ms.map (·.name)).take (i + 1) = (c.ms.map (·.name)).take i ++ [(c.ms.getD i v9).name] := by
  rw [List.take_add_one]
  simp [List.getD, h]
theorem D0 (l m : List Pm) : extra (l ++ m) = extra l ++ extra m := by
  induction l with
  | nil => rfl
  | cons p l ih => simp only [List.cons_append, extra]; split <;> simp [ih]
variable {j : Nat}
theorem vP {l : List Pm} (h : j < l.length) : l.take (j + 1) = l.take j ++ [l.getD j fR] := by
  rw [List.take_add_one]
  simp [List.getD, h]
variable {ps : List Pm}
theorem ES {c : Core} : j8 c (ps.take 0) = c.ms.map (·.name) := by simp [j8, extra]
theorem rn_t {c : Core} (h : j < ps.length) (hm : (ps.getD j fR).mu = true) : j8 c (ps.take (j + 1)) = j8 c (ps.take j) ++ [(ps.getD j fR).name] ++ [(ps.getD j fR).name] := by
  rw [vP h]
  simp only [j8, D0, List.append_assoc]
  simp only [extra, hm, if_true]
  rfl
theorem rn_f {c : Core} (h : j < ps.length) (hm : (ps.getD j fR).mu = false) : j8 c (ps.take (j + 1)) = j8 c (ps.take j) := by
  rw [vP h]
  simp only [j8, D0]
  simp only [extra, hm, Bool.false_eq_true, if_false, List.append_nil]
theorem ref_pos {c : Core} {I : Int} (h1 : (c5 c.L I (j8 c ps).length).1 < c.ms.length) (h2 : 0 < (c.ms.getD (c5 c.L I (j8 c ps).length).1.toNat v9).size) : r6 c ps vars I =
    (⟨(j8 c ps).getD (c5 c.L I (j8 c ps).length).1.toNat ByteArray.empty, [(eT c vars (c.ms.getD (c5 c.L I (j8 c ps).length).1.toNat v9).size (c5 c.L I (j8 c ps).length).2).1]⟩, (eT c vars (c.ms.getD (c5 c.L I (j8 c ps).length).1.toNat v9).size (c5 c.L I (j8 c ps).length).2).2) := if_pos ⟨h1, h2⟩
theorem ref_neg {c : Core} {I : Int} (h : ¬ ((c5 c.L I (j8 c ps).length).1 < c.ms.length ∧ 0 < (c.ms.getD (c5 c.L I (j8 c ps).length).1.toNat v9).size)) : r6 c ps vars I =
    (⟨(j8 c ps).getD (c5 c.L I (j8 c ps).length).1.toNat ByteArray.empty, []⟩, (c5 c.L I (j8 c ps).length).2) := if_neg h
theorem encN_ne {l : List BA} (h : 0 < l.length) : w5 l ≠ [] := by
  intro e
  have := congrArg List.length e
  rw [w9, List.length_nil] at this
  omega
theorem ET {x : Ex} : l8 [x] = p9 x := by simp [l8]
theorem EU {c : Core} {e : Frame} {I left : Int} {fb rb : Blk} {g n : Nat} {zs : List BA} {x : AV} (hz : zs.length = n) (hn : n < 1000) :
    j5 cfg 9 (hB c e I left ++ [fb, rb, p4 9 1 g (w5 zs), ⟨0, false, 9, 1, [x], 0⟩]) (.own (e.n + 2) g 0 n) (.own (e.n + 3) 0 0 1) = some (.own (e.n + 2) (g + 1) 0 (n + 1), hB c e I left ++ [fb, rb, p4 9 1 (g + 1) (w5 zs ++ [x]), ⟨0, false, 9, 1, [x], 0⟩]) := by
  have hb : (hB c e I left ++ [fb, rb, p4 9 1 g (w5 zs), ⟨0, false, 9, 1, [x], 0⟩])[e.n + 2]? = some (p4 9 1 g (w5 zs)) := dX
  rw [z1 (C := cfg) (K := 1) (m := 1) (new := [x]) hb rfl (by omega) (by rw [w9, hz, Nat.mul_one]) rfl (by omega) t127 rfl (by decide) (by omega), eC]
  rfl
theorem Y8 {c : Core} {e : Frame} {I left : Int} {fb rb : Blk} {g n : Nat} {zs : List BA} {x y : AV} (hz : zs.length = n) (hn : n < 1000) :
    j5 cfg 9 (hB c e I left ++ [fb, rb, p4 9 1 g (w5 zs), ⟨0, false, 9, 1, [x, y], 0⟩]) (.own (e.n + 2) g 0 n) (.own (e.n + 3) 0 0 2) = some (.own (e.n + 2) (g + 1) 0 (n + 2), hB c e I left ++ [fb, rb, p4 9 1 (g + 1) (w5 zs ++ [x, y]), ⟨0, false, 9, 1, [x, y], 0⟩]) := by
  have hb : (hB c e I left ++ [fb, rb, p4 9 1 g (w5 zs), ⟨0, false, 9, 1, [x, y], 0⟩])[e.n + 2]? = some (p4 9 1 g (w5 zs)) := dX
  rw [z1 (C := cfg) (K := 1) (m := 2) (new := [x, y]) hb rfl (by omega) (by rw [w9, hz, Nat.mul_one]) rfl (by omega) t127 rfl (by decide) (by omega), eC]
  rfl
theorem QS {n : Nat} {l : List BA} : ∀ x ∈ w5 l, Refs n x := by
  intro x hx
  obtain ⟨y, _, rfl⟩ := List.mem_map.1 hx
  exact .str _
theorem Frame.n_ge (e : Frame) : 9 ≤ e.n := by unfold Frame.n; omega
theorem MJ {c : Core} {e : Frame} {left I : Int} {l : c6} (hc : OkC c) (hI : OkI c.L I) (hL : c.L.length < 4611686018427387904) (vars : List BA) (hN : vars.length < 1000) (size : Int) (hs : 0 < size ∧ size ≤ 3) : CH 99 [.ptr 5 0 0, .vec vars.length (w5 vars), .int .i64 size] (hB c e I left ++ l) (.agg (p9 (eT c vars size I).1)) (hB c e (eT c vars size I).2 left ++ l) := c_index (e := ⟨e.b0, e.b1, e.b2, e.z, e.m, e.g, e.rest ++ l⟩) hc hI hL vars hN size hs
theorem Q7 {c : Core} {e : Frame} {left I : Int} {l : c6} (hc : OkC c) (hI : OkI c.L I) (hL : c.L.length < 4611686018427387904) (vars : List BA) (hN : vars.length < 1000) : CH 76 [.ptr 5 0 0, .vec vars.length (w5 vars)] (hB c e I left ++ l) (.agg (p9 (g8 c vars I).1)) (hB c e (g8 c vars I).2 left ++ l) := c_wexpr (e := ⟨e.b0, e.b1, e.b2, e.z, e.m, e.g, e.rest ++ l⟩) hc hI hL vars hN
section
attribute [local go_sem] eJ wrap64 dA EU Y8 MH nY Q6 jM qD B8 G9 xO max2
theorem c_ref {c : Core} {e : Frame} {left I : Int} (hc : OkC c) (hI : OkI c.L I) (hL : c.L.length < 4611686018427387904) (vars : List BA) (hN : vars.length < 1000) (f : Fu) (hp : f.params.length ≤ 2) : CH 75 [.ptr 5 0 0, .agg (dA f), .vec vars.length (w5 vars)] (hB c e I left) (.agg (O6 (r6 c f.params vars I).1)) (hB c e (r6 c f.params vars I).2 left) := by
  refine .wz Tryz.f75 107 ?_
  have hml := hc.ml
  refine c48z ?_
  refine c9.A5 7 rfl ?_
  refine .z7 (fun m st => ∃ (i : Nat), (m = c.ms.length - i ∧ i ≤ c.ms.length) ∧ st = ⟨mkS 107 [(0, AV.ptr 5 0 0), (2, AV.vec vars.length (w5 vars)), (4, AV.ptr e.n 0 0), (6, AV.ptr (e.n + 1) 0 0), (7, AV.own (e.n + 2) i 0 i), (8, AV.int .i64 ((i : Nat) : Int))], hB c e I left ++ [⟨0, false, 101, 3, [.str f.name, .vec f.params.length (s4 f.params), .vec f.body.len (n8 f.body)], 0⟩, ⟨0, false, 137, 2, [.str ByteArray.empty, .j6], 0⟩, p4 9 1 i (w5 ((c.ms.map (·.name)).take i))]⟩) (.v ⟨0, ⟨rfl, by omega⟩, rfl⟩ (hs := t35) (hr := t1)) ?_
  rintro m sl h' ⟨i, ⟨hm, hi⟩, hst⟩
  obtain ⟨rfl, rfl⟩ := St.mk.inj hst; clear hst
  have htk : ((c.ms.map (·.name)).take i).length = i := by simp; omega
  refine c0z ?_
  refine u2z ?_ ?_
  ·intro e1 qe1
   refine c2z ?_
   refine .c7 [0, 2, 4, 6, 7, 8] ?_
   refine c127z ?_
   refine .c7 [0, 2, 4, 6, 7, 8] ?_
   refine .rz ?_
   exact ⟨_, by omega, .v ⟨(i + 1), ⟨rfl, by omega⟩, rfl⟩ (he := by (rw [Y7 (by omega), iL]; simp only [List.append_assoc, List.cons_append, List.nil_append]; rfl)) (hl := t25) (hk := t110) (hs := t35) (hr := t1)⟩
  intro e1 qe1
  refine .exit ?_
  obtain rfl : i = c.ms.length := by omega
  change c9 ..
  refine .c7 [0, 2, 4, 6, 7] ?_
  refine c53z ?_
  refine .z7 (fun m st => ∃ (j : Nat) (g : Nat), (m = f.params.length - j ∧ j ≤ f.params.length) ∧ st = ⟨mkS 107 [(0, AV.ptr 5 0 0), (2, AV.vec vars.length (w5 vars)), (4, AV.ptr e.n 0 0), (6, AV.ptr (e.n + 1) 0 0), (7, AV.own (e.n + 2) g 0 (j8 c (f.params.take j)).length), (9, AV.int .i64 ((c.ms.length : Nat) : Int)), (10, AV.int .i64 ((j : Nat) : Int))], hB c e I left ++ [⟨0, false, 101, 3, [.str f.name, .vec f.params.length (s4 f.params), .vec f.body.len (n8 f.body)], 0⟩, ⟨0, false, 137, 2, [.str ByteArray.empty, .j6], 0⟩, p4 9 1 g (w5 (j8 c (f.params.take j)))]⟩) (.v ⟨0, c.ms.length, ⟨rfl, by omega⟩, rfl⟩ (hs := t55) (hr := t1)) ?_ (he := by (rw [ES, show (c.ms.map (·.name)).take c.ms.length = c.ms.map (·.name) from List.take_of_length_le (by simp)]))
  rintro m sl h' ⟨j, g, ⟨hm, hj⟩, hst⟩
  obtain ⟨rfl, rfl⟩ := St.mk.inj hst; clear hst
  have hxl := (kU hc (f.params.take j)).2
  have hxt : (f.params.take j).length ≤ 2 := by simp; omega
  refine c0z ?_
  refine u2z ?_ ?_
  ·intro e2 qe2
   refine c87z ?_
   refine u2z ?_ ?_
   ·intro e3 qe3
    refine .c7 [0, 2, 4, 6, 7, 9, 10] ?_
    refine c9.iZ s9 (mkP 16 [0, 0, 2, 0, 14, 30, 62, 0, 128, 0, 896, 1920, 3968, 8190, 16383, 32767] [13, 14]) [0] (by kernel_rfl) (by kernel_rfl) ?_
    refine dS.p (pd := []) 16 ?_
    refine dS.nil t10 ?_
    change c9 ..
    refine .c7 [0, 2, 4, 6, 7, 9, 10] ?_
    refine .rz ?_
    have hxs := congrArg List.length (rn_t (c := c) (j := j) (ps := f.params) (by omega) (by assumption)); simp only [List.length_append, List.length_singleton] at hxs
    exact ⟨_, by omega, .v ⟨(j + 1), (g + 1), ⟨rfl, by omega⟩, rfl⟩ (he := by (rw [rn_t (by omega) (by assumption), iL, iL]; simp only [List.append_assoc, List.cons_append, List.nil_append]; rfl)) (hl := t25) (hk := t110) (hs := t55) (hr := t1)⟩
   intro e3 qe3
   refine c5z ?_
   refine .c7 [0, 2, 4, 6, 7, 9, 10] ?_
   refine .rz ?_
   have hxs := congrArg List.length (rn_f (c := c) (j := j) (ps := f.params) (by omega) (by assumption))
   exact ⟨_, by omega, .v ⟨(j + 1), g, ⟨rfl, by omega⟩, rfl⟩ (he := by (rw [rn_f (by omega) (by assumption)]; exact (List.append_nil _).symm)) (hl := t25) (hk := t110) (hs := t55) (hr := t1)⟩
  intro e2 qe2
  refine .exit ?_
  obtain rfl : j = f.params.length := by omega
  rw [List.take_length] at hxl ⊢
  change c9 ..
  have hrl := kU hc f.params
  have hk := l6 hI (n := ((j8 c f.params).length : Int)) (by omega)
  rw [cU (encN_ne hrl.1)]
  refine c125z ?_
  refine .ch rfl rfl (eK _ _ _ hI hL (by omega) (by omega)) ?_
  refine .n ?_
  refine .c7 [0, 2, 6, 7, 9, 11] ?_
  refine c26z ?_
  refine c31z ?_
  refine .spl 80 rfl rfl (fun e4 => ?_) (fun e4 => ?_)
  ·try simp only [e4]
   have qe4 := fact e4
   refine .k 8 [(3, 80)] ?_
   refine .m [(3, 80)] ?_
   refine u2z ?_ ?_
   ·intro e5 qe5
    refine .c7 [0, 2, 6, 11, 12] ?_
    have hsz := hc.mx (c5 c.L I (j8 c f.params).length).1.toNat (by omega)
    refine c120z ?_
    refine .e 3 ?_
    refine .ch rfl rfl (MJ hc hk.2.2 hL vars hN _ (by omega)) ?_
    refine c25z ?_
    refine .c7 [6, 12] ?_
    refine c32z ?_
    exact ⟨hB _ _ _ _, _, _, rfl, t68, fA, t7, t81⟩
   intro e5 qe5
   refine .sk ?_
   refine .c7 [6, 12] ?_
   refine c32z ?_
   exact ⟨hB _ _ _ _, _, _, rfl, t68, fA, t7, t81⟩
  try simp only [e4]
  have qe4 := fact e4
  refine .k 8 [(3, 80)] ?_
  refine .m [(3, 80)] ?_
  refine c17z ?_
  refine .c7 [6, 12] ?_
  refine c32z ?_
  exact ⟨hB _ _ _ _, _, _, rfl, t68, fA, t7, t81⟩
end
end Go.Proofs.YtfbjlfhjkojmkaaGreat
end
section
namespace Go.Proofs.YtfbjlfhjkojmkaaGreat
open Go.Ab Go.Un
structure Sco where
  p : Go.Un.Pg
  l : List Ent
  loc : Int
  st : Int
  code : List Ins
  sites : List Int
structure Frm where
  pre : c6
  rest : c6
def Frm.k (e : Frm) : Nat := e.pre.length
def Frm.n (e : Frm) : Nat := e.pre.length + (e.rest.length + 3)
def v8 (k : Nat) (s : Sco) : Blk := ⟨0, false, 148, 10, [.vec s.p.globals.length (o8 s.p.globals), .vec s.p.c4.length (g5 s.p.c4), .vec s.p.funcs.length (n6 s.p.funcs), .vec s.l.length (j0 s.l), .int .i64 s.loc, .int .i64 s.st, .int .i64 0, .int .i64 0, .own (k + 1) s.code.length 0 s.code.length, .own (k + 2) s.sites.length 0 s.sites.length], 0⟩
def hT (e : Frm) (b : Blk) (c : List Ins) (ss : List Int) : c6 := e.pre ++ (b :: p4 77 12 c.length (o3 c) :: p4 3 1 ss.length (g7 ss) :: e.rest)
section
variable {e : Frm} {b b' : Blk} {c c' : List Ins} {ss ss' : List Int} {l : c6} {j : Nat}
theorem y0 : (hT e b c ss).length = e.n := by simp [hT, Frm.n]
theorem Frm.lt (e : Frm) : e.k < e.n ∧ e.k + 1 < e.n ∧ e.k + 2 < e.n := by unfold Frm.k Frm.n; omega
theorem hT_0 : (hT e b c ss)[e.k]? = some b := by rw [hT, Frm.k, List.getElem?_append_right (Nat.le_refl _), Nat.sub_self]; rfl
theorem hT_1 : (hT e b c ss)[e.k + 1]? = some (p4 77 12 c.length (o3 c)) := by rw [hT, Frm.k, List.getElem?_append_right (by omega), Nat.add_sub_cancel_left]; rfl
theorem hT_2 : (hT e b c ss)[e.k + 2]? = some (p4 3 1 ss.length (g7 ss)) := by rw [hT, Frm.k, List.getElem?_append_right (by omega), Nat.add_sub_cancel_left]; rfl
theorem MK : (hT e b c ss ++ l)[e.k]? = some b := by rw [List.getElem?_append_left (by rw [y0]; exact e.lt.1), hT_0]
theorem ML : (hT e b c ss ++ l)[e.k + 1]? = some (p4 77 12 c.length (o3 c)) := by rw [List.getElem?_append_left (by rw [y0]; exact e.lt.2.1), hT_1]
theorem MM : (hT e b c ss ++ l)[e.k + 2]? = some (p4 3 1 ss.length (g7 ss)) := by rw [List.getElem?_append_left (by rw [y0]; exact e.lt.2.2), hT_2]
theorem dC : (hT e b c ss ++ l)[e.n + j]? = l[j]? := by rw [List.getElem?_append_right (by rw [y0]; omega), y0, Nat.add_sub_cancel_left]
theorem yA : (hT e b c ss ++ l)[e.n]? = l[0]? := by rw [List.getElem?_append_right (by rw [y0]; omega), y0, Nat.sub_self]
theorem fG : (hT e b c ss ++ l).set (e.n + j) b' = hT e b c ss ++ l.set j b' := by rw [List.set_append_right _ _ (by rw [y0]; omega), y0, Nat.add_sub_cancel_left]
theorem I8 : (hT e b c ss ++ l).set e.n b' = hT e b c ss ++ l.set 0 b' := by rw [List.set_append_right _ _ (by rw [y0]; omega), y0, Nat.sub_self]
theorem MN : (hT e b c ss).set e.k b' = hT e b' c ss := by
  rw [hT, Frm.k, List.set_append_right _ _ (Nat.le_refl _), Nat.sub_self]; rfl
theorem Q8 : (hT e b c ss ++ l).set e.k b' = hT e b' c ss ++ l := by
  rw [List.set_append_left _ _ (by rw [y0]; exact e.lt.1), MN]
theorem hT_p1 : (hT e b c ss).set (e.k + 1) (p4 77 12 c'.length (o3 c')) = hT e b c' ss := by
  rw [hT, Frm.k, List.set_append_right _ _ (by omega), Nat.add_sub_cancel_left]; rfl
theorem hT_p2 : (hT e b c ss).set (e.k + 2) (p4 3 1 ss'.length (g7 ss')) = hT e b c ss' := by
  rw [hT, Frm.k, List.set_append_right _ _ (by omega), Nat.add_sub_cancel_left]; rfl
theorem QT : (hT e b c ss ++ l).set (e.k + 1) (p4 77 12 c'.length (o3 c')) = hT e b c' ss ++ l := by
  rw [List.set_append_left _ _ (by rw [y0]; exact e.lt.2.1), hT_p1]
theorem hT_p2a : (hT e b c ss ++ l).set (e.k + 2) (p4 3 1 ss'.length (g7 ss')) = hT e b c ss' ++ l := by
  rw [List.set_append_left _ _ (by rw [y0]; exact e.lt.2.2), hT_p2]
theorem QU : hT e b c ss ++ l = hT ⟨e.pre, e.rest ++ l⟩ b c ss := by simp [hT]
end
theorem QV (l : List Ins) : w6 (o3 l) := w6.flat fun i => by
  rw [dJ, aT]
  exact .cons .int (.cons .int (.cons .bool (.cons .int (.cons .int (.cons .str (.cons .vec (.cons .bool (.cons .int (.cons .vec (.cons .vec (.cons .vec .nil)))))))))))
theorem uY (l : List Int) : w6 (g7 l) := w6.map fun _ => .int
theorem yB {e : Frm} {b b' : Blk} {c c' : List Ins} {ss ss' : List Int} (hb : ∀ x ∈ b'.cells, Refs e.n x) : z5 (hT e b c ss) (hT e b' c' ss') := by
  unfold hT
  refine z5.app (z5.refl _) rfl ⟨.inr ?_, .inr (by rw [o6]; exact (QV _).refs _), .inr (by rw [o6]; exact (uY _).refs _), lZ.refl _ _⟩
  rw [show e.pre.length + (b' :: p4 77 12 c'.length (o3 c') :: p4 3 1 ss'.length (g7 ss') :: e.rest).length = e.n from by simp [Frm.n]]
  exact hb
variable {s : Sco}
theorem hT_keep {e : Frm} {k : Nat} {s' : Sco} : k = e.k → z5 (hT e (v8 k s) s.code s.sites) (hT e (v8 k s') s'.code s'.sites) := by
  rintro rfl
  refine yB (eX.get ⟨.vec _ _, .vec _ _, .vec _ _, .vec _ _, .int _ _, .int _ _, .int _ _, .int _ _, .own _ _ _ _ ?_, .own _ _ _ _ ?_, trivial⟩)
  · exact e.lt.2.1
  · exact e.lt.2.2
theorem eL {f : FuncId} {args : List AV} {x : AV} {s' : Sco} {l : c6} {e : Frm} (h : CH f args (hT ⟨e.pre, e.rest ++ l⟩ (v8 e.k s) s.code s.sites) x (hT ⟨e.pre, e.rest ++ l⟩ (v8 e.k s') s'.code s'.sites)) : CH f args (hT e (v8 e.k s) s.code s.sites ++ l) x (hT e (v8 e.k s') s'.code s'.sites ++ l) := by
  rw [QU, QU]
  exact h
theorem Y9 {α : Type} (f : α → List AV) (K j : Nat) (hK : ∀ a, (f a).length = K) (hj : j < K) (d : α) {l : List α} {i : Nat} (h : i < l.length) : List.take 1 (List.drop (i * K + j) (l.flatMap f)) = List.take 1 (List.drop j (f (l.getD i d))) := by
  rw [← bP f K hK d h, List.drop_take, List.take_take, List.drop_drop, Nat.min_eq_left (by omega)]
theorem iM {l : List Ent} {i : Nat} (h : i < l.length) : List.take 1 (List.drop (i * 3) (j0 l)) = [.str (l.getD i iB).name] := Y9 gE 3 0 (fun _ => rfl) (by omega) iB h
variable {x : BA}
theorem find_at {l : List Ent} : ∀ {i : Nat}, i < l.length → (∀ d, d < i → ((l.getD d iB).name.toList == x.toList) = false) → ((l.getD i iB).name.toList == x.toList) = true → aV l x = some (l.getD i iB) := by
  have tl : ∀ {a b : BA}, (a.toList == b.toList) = decide (a = b) := by
    intro a b
    rw [ByteArray.toList_eq, ByteArray.toList_eq, Bool.eq_iff_iff]
    simp only [beq_iff_eq, decide_eq_true_eq]
    constructor
    · intro h
      exact ByteArray.ext (Array.toList_inj.1 h)
    · rintro rfl; rfl
  induction l with
  | nil => intro i h; simp at h
  | cons e l ih =>
    intro i hi h1 h2
    rw [aV, List.find?_cons]
    cases i with
    | zero =>
      rw [tl] at h2
      simp only [List.getD_cons_zero] at h2 ⊢
      rw [h2]
    | succ i =>
      have h0 := h1 0 (by omega)
      rw [tl] at h0
      simp only [List.getD_cons_zero] at h0
      rw [h0]
      simp only [List.getD_cons_succ] at h2 ⊢
      exact ih (by simpa using hi) (fun d hd => by have := h1 (d + 1) (by omega); simpa using this) h2
theorem find_no {l : List Ent} (h : ∀ d, d < l.length → ((l.getD d iB).name.toList == x.toList) = false) : aV l x = none := by
  rw [aV, List.find?_eq_none]
  intro e he
  obtain ⟨i, hi, rfl⟩ := bB (d := iB) he
  have := h i hi
  intro hc
  simp only [decide_eq_true_eq] at hc
  rw [hc] at this
  simp at this
theorem find_nx {l : List Ent} {i : Nat} (h : ∀ d, d < i → ((l.getD d iB).name.toList == x.toList) = false) (e : ((l.getD i iB).name.toList == x.toList) = false) : ∀ d, d < i + 1 → ((l.getD d iB).name.toList == x.toList) = false := fun d hd => by
  by_cases hdi : d = i
  · rw [hdi]; exact e
  · exact h d (by omega)
variable {v : Ent}
theorem Q9 {l : List Ent} (h : aV l x = some v) : AV.tup [.agg [.str v.name, .int .i64 v.kind, .int .i64 v.n], .bool true] = .tup [.agg (gE (dR l x)), .bool (aV l x).isSome] := by
  rw [dF h, h]; rfl
theorem R2 {l : List Ent} (h : aV l x = none) : AV.tup [.agg [.str ByteArray.empty, .int .i64 0, .int .i64 0], .bool false] = .tup [.agg (gE (dR l x)), .bool (aV l x).isSome] := by
  rw [dR, h]; rfl
variable {i : Ins}
theorem jN : dJ i = [.int .i64 i.op, .int .i64 i.target, .bool i.global, .int .i64 i.e.op, .int .i64 i.e.num, .str i.e.name, .vec i.e.args.length (l8 i.e.args), .bool i.pl.param, .int .i64 i.pl.index, .vec i.pl.at'.length (l8 i.pl.at'), .vec i.ints.length (l8 i.ints), .vec i.w4.length (cO i.w4)] := by rw [dJ, aT]; rfl
theorem I9 {l : List Ins} : o3 (l ++ [i]) = o3 l ++ dJ i := by simp [o3]
theorem nZ {l : List Int} {i : Int} : g7 (l ++ [i]) = g7 l ++ [.int .i64 i] := by simp [g7]
theorem UZ (l : List Ex) : w6 (l8 l) := w6.flat fun e => by rw [aT]; exact .cons .int (.cons .int (.cons .str (.cons .vec .nil)))
theorem EV (l : List Pl) : w6 (cO l) := w6.flat fun p => .cons .bool (.cons .int (.cons .vec .nil))
theorem tL : List.take 12 (dJ i) = dJ i := List.take_of_length_le (by rw [aC]; omega)
variable {b0 : Blk}
theorem MO {e : Frm} {b : Blk} {c : List Ins} {ss : List Int} {l : c6} {n : Nat} (hn : c.length = n) (hl : n < 100000) : j5 cfg 77 (hT e b c ss ++ (b0 :: ⟨1, false, 77, 12, dJ i, 0⟩ :: l)) (.own (e.k + 1) n 0 n) (.own (e.n + 1) 1 0 1) = some (.own (e.k + 1) (n + 1) 0 (n + 1), hT e b (c ++ [i]) ss ++ (b0 :: ⟨1, false, 77, 12, dJ i, 0⟩ :: l)) := by
  subst hn
  have h1 : (c ++ [i]).length = c.length + 1 := by simp
  rw [z1 (C := cfg) (K := 12) (m := 1) (new := dJ i) ML rfl (by omega) (by rw [s5, Nat.mul_comm]) (by rw [aC]) (by omega) (by simp [rd, dC, aC, tL]) rfl (by decide) (by omega), ← I9, ← h1, QT]
theorem D1 {e : Frm} {b : Blk} {c : List Ins} {ss : List Int} {l : c6} {n : Nat} (hn : c.length = n) (hl : n < 100000) : j5 cfg 77 (hT e b c ss ++ (b0 :: ⟨1, false, 77, 12, [.int .i64 i.op, .int .i64 i.target, .bool i.global, .int .i64 i.e.op, .int .i64 i.e.num, .str i.e.name, .vec i.e.args.length (l8 i.e.args), .bool i.pl.param, .int .i64 i.pl.index, .vec i.pl.at'.length (l8 i.pl.at'), .vec i.ints.length (l8 i.ints), .vec i.w4.length (cO i.w4)], 0⟩ :: l)) (.own (e.k + 1) n 0 n) (.own (e.n + 1) 1 0 1) = some (.own (e.k + 1) (n + 1) 0 (n + 1), hT e b (c ++ [i]) ss ++ (b0 :: ⟨1, false, 77, 12, [.int .i64 i.op, .int .i64 i.target, .bool i.global, .int .i64 i.e.op, .int .i64 i.e.num, .str i.e.name, .vec i.e.args.length (l8 i.e.args), .bool i.pl.param, .int .i64 i.pl.index, .vec i.pl.at'.length (l8 i.pl.at'), .vec i.ints.length (l8 i.ints), .vec i.w4.length (cO i.w4)], 0⟩ :: l)) := by
  rw [← jN]; exact MO hn hl
theorem R3 {e : Frm} {b b1 : Blk} {c : List Ins} {ss : List Int} {l : c6} {t : Int} {n : Nat} (hn : ss.length = n) (hl : n < 100000) : j5 cfg 3 (hT e b c ss ++ (b0 :: b1 :: ⟨1, false, 3, 1, [.int .i64 t], 0⟩ :: l)) (.own (e.k + 2) n 0 n) (.own (e.n + 2) 1 0 1) = some (.own (e.k + 2) (n + 1) 0 (n + 1), hT e b c (ss ++ [t]) ++ (b0 :: b1 :: ⟨1, false, 3, 1, [.int .i64 t], 0⟩ :: l)) := by
  subst hn
  have h1 : (ss ++ [t]).length = ss.length + 1 := by simp
  rw [z1 (C := cfg) (K := 1) (m := 1) (new := [.int .i64 t]) MM rfl (by omega) (by rw [l9, Nat.mul_one]) rfl (by omega) (by simp [rd, dC]) rfl (by decide) (by omega), ← nZ, ← h1, hT_p2a]
attribute [local go_sem] j5 rd p6 m8 aN bQ s5 aC eE cK n5 aJ aA l9 aP Int.natCast_nonneg Int.natCast_inj List.length_map wrap64 eJ gV gX P6 B8 G9 P7 xO max2 dV bU aQ Nat.reduceMul lO iM v8 gE nY jM tL y0 hT_0 hT_1 hT_2 MK ML MM dC yA fG I8 MN Q8
variable {h : c6}
theorem QW (l : List Ent) (x : BA) (hl : l.length < 1000000) : CB 51 [.vec l.length (j0 l), .str x] h (.tup [.agg (gE (dR l x)), .bool (aV l x).isSome]) := by
  refine .bz Tryz.f51 25 ?_
  refine c53z ?_
  refine .cI (fun m st => ∃ (i : Nat), (m = l.length - i ∧ ((∀ d, d < i → ((l.getD d iB).name.toList == x.toList) = false) ∧ i ≤ l.length)) ∧ st = ⟨mkS 25 [(0, AV.vec l.length (j0 l)), (1, AV.str x), (4, AV.ptr h.length 0 0), (6, AV.int .i64 ((i : Nat) : Int))], h ++ [⟨0, false, 110, 3, [.str ByteArray.empty, .int .i64 0, .int .i64 0], 0⟩]⟩) _ (.v ⟨0, ⟨rfl, ⟨t104, by omega⟩⟩, rfl⟩) ?_
  rintro m sl h' ⟨i, ⟨hm, ⟨hI, hi⟩⟩, hst⟩
  obtain ⟨rfl, rfl⟩ := St.mk.inj hst
  refine c0z ?_
  refine u2z ?_ ?_
  ·intro e1 qe1
   refine c87z ?_
   refine u2z ?_ ?_
   ·intro e2 qe2
    refine .c7 [0, 4, 6] ?_
    refine .z ?_
    exact .ret (.ex (hq := t156))
   intro e2 qe2
   refine c5z ?_
   refine .c7 [0, 1, 4, 6] ?_
   refine .rz ?_
   exact ⟨_, by omega, .v ⟨(i + 1), ⟨rfl, ⟨find_nx hI (by assumption), by omega⟩⟩, rfl⟩⟩
  intro e1 qe1
  refine .exit ?_
  obtain rfl : i = l.length := by omega
  refine c224z ?_
  exact .ret (.ex (hq := t156))
theorem J0 {l : List Ent} (hf : aV l x = some v) (hl : l.length < 1000000) : CB 51 [.vec l.length (j0 l), .str x] h (.tup [.agg [.str v.name, .int .i64 v.kind, .int .i64 v.n], .bool true]) := by
  have := QW (h := h) l x hl
  rw [← Q9 hf] at this
  exact this
theorem EW {l : List Ent} (hf : aV l x = none) (hl : l.length < 1000000) : CB 51 [.vec l.length (j0 l), .str x] h (.tup [.agg [.str ByteArray.empty, .int .i64 0, .int .i64 0], .bool false]) := by
  have := QW (h := h) l x hl
  rw [← R2 hf] at this
  exact this
theorem c_var {e : Frm} (hl : s.l.length < 1000000) (t : Int) (hf : aV s.l x = some v) (hk : v.kind = 1 ∨ v.kind = 4) : CB 109 [.ptr e.k 0 0, .str x, .int .i64 t] (hT e (v8 e.k s) s.code s.sites) (.agg [.str v.name, .int .i64 v.kind, .int .i64 v.n]) := by
  refine .bz Tryz.f109 37 ?_
  refine .z ?_
  refine c23z ?_
  refine .ca rfl rfl (J0 hf hl) ?_
  refine .n ?_
  refine .sb ?_
  refine .c7 [0, 2, 6, 7, 8] ?_
  refine c8z ?_
  refine c31z ?_
  refine .spl 28 rfl rfl (fun e1 => ?_) (fun e1 => ?_)
  ·try simp only [e1]
   have qe1 := fact e1
   refine .m [(3, 28)] ?_
   refine uFbz ?_
   intro e2 qe2
   refine c5z ?_
   refine c220z ?_
   exact .ret (.ex (hf := t2) (hq := by rfl))
  try simp only [e1]
  have qe1 := fact e1
  refine .m [(3, 28)] ?_
  refine c45z ?_
  refine c220z ?_
  exact .ret (.ex (hf := t2) (hq := by rfl))
theorem c_ex1 {e : Frm} (hl : s.l.length < 1000000) (t : Int) (n : Int) : CB 108 [.ptr e.k 0 0, .agg (p9 (.leaf 1 n ByteArray.empty)), .int .i64 t] (hT e (v8 e.k s) s.code s.sites) (.agg (p9 (eF s.l (.leaf 1 n ByteArray.empty)))) := by
  refine c237z ?_
  refine c17z ?_
  refine c26z ?_
  refine .c7 [0, 2, 4, 6, 8] ?_
  refine c135z ?_
  refine .c7 [6, 8] ?_
  refine .z ?_
  exact .ret (.ex (hf := t2) (hq := by rfl))
theorem c_ex2 {e : Frm} (hl : s.l.length < 1000000) (t : Int) (n : Int) (hf : aV s.l x = some v) (hk : v.kind = 1 ∨ v.kind = 4) : CB 108 [.ptr e.k 0 0, .agg (p9 (.leaf 2 n x)), .int .i64 t] (hT e (v8 e.k s) s.code s.sites) (.agg (p9 (eF s.l (.leaf 2 n x)))) := by
  refine c237z ?_
  refine .T ?_
  refine c31z ?_
  refine .ca rfl rfl (eL (c_var hl t hf hk)) ?_
  refine c38z ?_
  refine c220z ?_
  refine u2z ?_ ?_
  ·intro e1 qe1
   refine .z ?_
   exact .ret (.ex (hf := t2) (hq := t190))
  intro e1 qe1
  refine .sk ?_
  refine .z ?_
  exact .ret (.ex (hf := t2) (hq := t190))
theorem c_exU {e : Frm} (hl : s.l.length < 1000000) (t : Int) (o : Int) (a : Ex) (ho : o ≠ 2) (iha : ∀ e : Frm, CB 108 [.ptr e.k 0 0, .agg (p9 a), .int .i64 t] (hT e (v8 e.k s) s.code s.sites) (.agg (p9 (eF s.l a)))) : CB 108 [.ptr e.k 0 0, .agg (p9 (.un o a)), .int .i64 t] (hT e (v8 e.k s) s.code s.sites) (.agg (p9 (eF s.l (.un o a)))) := by
  refine c237z ?_
  refine uFbz ?_
  intro e1 qe1
  refine .sk ?_
  refine c26z ?_
  refine .c7 [0, 2, 4, 6, 8] ?_
  refine c24z ?_
  refine c205z ?_
  refine c39z ?_
  refine c178z ?_
  refine c64z ?_
  refine .p 1 ?_
  refine .cn [true] [512, 0] [_] rfl rfl (by simp only [iV, and_true, List.cons_append, List.nil_append]; exact eL (iha _)) ?_
  refine c77z ?_
  refine c95z ?_
  refine c52z ?_
  change c9 ..
  refine .c7 [0, 2, 4, 6, 8, 9] ?_
  refine .rz ?_
  refine c42z ?_
  refine .c7 [6, 8] ?_
  refine .z ?_
  exact .ret (.ex (hf := t2) (hq := by rfl))
theorem c_exB {e : Frm} (hl : s.l.length < 1000000) (t : Int) (o : Int) (a b : Ex) (ho : o ≠ 2) (iha : ∀ e : Frm, CB 108 [.ptr e.k 0 0, .agg (p9 a), .int .i64 t] (hT e (v8 e.k s) s.code s.sites) (.agg (p9 (eF s.l a)))) (ihb : ∀ e : Frm, CB 108 [.ptr e.k 0 0, .agg (p9 b), .int .i64 t] (hT e (v8 e.k s) s.code s.sites) (.agg (p9 (eF s.l b)))) : CB 108 [.ptr e.k 0 0, .agg (p9 (.bin o a b)), .int .i64 t] (hT e (v8 e.k s) s.code s.sites) (.agg (p9 (eF s.l (.bin o a b)))) := by
  refine c237z ?_
  refine uFbz ?_
  intro e1 qe1
  refine .sk ?_
  refine c26z ?_
  refine .c7 [0, 2, 4, 6, 8] ?_
  refine c24z ?_
  refine c136z ?_
  refine c39z ?_
  refine c178z ?_
  refine c64z ?_
  refine .p 1 ?_
  refine .cn [true] [512, 0] [_] rfl rfl (by simp only [iV, and_true, List.cons_append, List.nil_append]; exact eL (iha _)) ?_
  refine c77z ?_
  refine c95z ?_
  refine c52z ?_
  change c9 ..
  refine .c7 [0, 2, 4, 6, 8, 9] ?_
  refine .rz ?_
  refine c74z ?_
  refine c39z ?_
  refine c178z ?_
  refine c64z ?_
  refine .p 1 ?_
  refine .cn [true] [512, 0] [_] rfl rfl (by simp only [iV, and_true, List.cons_append, List.nil_append]; exact eL (ihb _)) ?_
  refine c77z ?_
  refine c95z ?_
  refine c52z ?_
  change c9 ..
  refine .c7 [0, 2, 4, 6, 8, 9] ?_
  refine .rz ?_
  refine c42z ?_
  refine .c7 [6, 8] ?_
  refine .z ?_
  exact .ret (.ex (hf := t2) (hq := by rfl))
theorem Dh {s : Sco} (hl : s.l.length < 1000000) (t : Int) {vars : List BA} (hv : ∀ x ∈ vars, ∃ v, aV s.l x = some v ∧ (v.kind = 1 ∨ v.kind = 4)) : ∀ {d : Nat} {a : Ex}, GE vars d a → ∀ e : Frm, CB 108 [.ptr e.k 0 0, .agg (p9 a), .int .i64 t] (hT e (v8 e.k s) s.code s.sites) (.agg (p9 (eF s.l a)))
  | d, .leaf o n x, hg, e => by
    rcases iD.1 hg with ⟨rfl, _, _, rfl⟩ | ⟨rfl, _, h1⟩
    · exact c_ex1 hl t n
    · obtain ⟨v, h2, h3⟩ := hv x h1
      exact c_ex2 hl t n h2 h3
  | 0, .un o a, hg, e => hg.elim
  | 0, .bin o a b, hg, e => hg.elim
  | d + 1, .un o a, hg, e => c_exU hl t o a (by have := hg.1; omega) (Dh hl t hv hg.2)
  | d + 1, .bin o a b, hg, e => c_exB hl t o a b (by have := hg.1; omega) (Dh hl t hv hg.2.1) (Dh hl t hv hg.2.2)
theorem sz_0 {m : Int} (h : m = 0) : decide (m > 0) = false := by simp; omega
theorem sz_1 {m : Int} (h : 0 < m) : decide (m > 0) = true := by simp; omega
theorem lQ {l : List Fu} {i : Nat} (h : i < l.length) : List.take 1 (List.drop (i * 3 + 1) (n6 l)) = [AV.vec (l.getD i g9).params.length (s4 (l.getD i g9).params)] := Y9 dA 3 1 (fun _ => rfl) (by omega) g9 h
variable {y : BA}
theorem c_ref5 {e : Frm} (hl : s.l.length < 1000000) (t : Int) {n : Int} (hf : aV s.l x = some ⟨y, 5, n⟩) : CB 111 [.ptr e.k 0 0, .agg [.str x, .vec 0 []], .int .i64 t] (hT e (v8 e.k s) s.code s.sites) (.agg [.bool true, .int .i64 n, .vec 0 []]) := by
  refine .bz Tryz.f111 92 ?_
  refine .z ?_
  refine c22z ?_
  refine c115z ?_
  refine c231z ?_
  refine c153z ?_
  refine .sb ?_
  refine c8z ?_
  refine .c7 [0, 2, 4, 6, 7, 9] ?_
  refine .s ?_
  refine .k 8 [(3, 63)] ?_
  refine .n ?_
  refine .F ?_
  refine c79z ?_
  refine .k 8 [(3, 31)] ?_
  refine .k 8 [(3, 31)] ?_
  refine .n [] ?_
  refine .c7 [0, 2, 4, 6, 9, 10] ?_
  refine c8z ?_
  refine c5z ?_
  refine c4z ?_
  refine c58z ?_
  refine .c7 [6, 9, 74] ?_
  refine .z ?_
  exact .ret (.ex (hf := t2) (hq := by rfl))
section
attribute [local go_sem] sz_0
theorem c_ref2 {e : Frm} (hl : s.l.length < 1000000) (t : Int) {n : Int} (hf : aV s.l x = some ⟨y, 2, n⟩) (hn : 0 ≤ n ∧ n < s.p.c4.length) (hz : (s.p.c4.getD n.toNat v9).size = 0) : CB 111 [.ptr e.k 0 0, .agg [.str x, .vec 0 []], .int .i64 t] (hT e (v8 e.k s) s.code s.sites) (.agg [.bool false, .int .i64 n, .vec 0 []]) := by
  refine .bz Tryz.f111 92 ?_
  refine .z ?_
  refine c22z ?_
  refine c115z ?_
  refine c231z ?_
  refine c153z ?_
  refine .sb ?_
  refine c8z ?_
  refine .c7 [0, 2, 4, 6, 7, 9] ?_
  refine .s ?_
  refine .k 8 [(3, 63)] ?_
  refine .n ?_
  refine .F ?_
  refine c79z ?_
  refine .k 8 [(3, 31)] ?_
  refine .k 8 [(3, 31)] ?_
  refine .n [] ?_
  refine .c7 [0, 2, 4, 6, 9, 10] ?_
  refine c8z ?_
  refine c5z ?_
  refine c4z ?_
  refine c58z ?_
  refine .c7 [6, 9, 74] ?_
  refine .z ?_
  exact .ret (.ex (hf := t2) (hq := by rfl))
end
section
attribute [local go_sem] sz_1
variable {vars : List BA}
theorem c_ref1 {e : Frm} (hl : s.l.length < 1000000) (t : Int) {n : Int} (hf : aV s.l x = some ⟨y, 2, n⟩) (hn : 0 ≤ n ∧ n < s.p.c4.length) (hz : 0 < (s.p.c4.getD n.toNat v9).size) (hv : ∀ x ∈ vars, ∃ v, aV s.l x = some v ∧ (v.kind = 1 ∨ v.kind = 4)) {d : Nat} {a : Ex} (ha : GE vars d a) : CB 111 [.ptr e.k 0 0, .agg [.str x, .vec 1 (p9 a)], .int .i64 t] (hT e (v8 e.k s) s.code s.sites) (.agg [.bool false, .int .i64 n, .vec 1 (p9 (eF s.l a))]) := by
  refine .bz Tryz.f111 92 ?_
  refine .z ?_
  refine c22z ?_
  refine c115z ?_
  refine c231z ?_
  refine c153z ?_
  refine .sb ?_
  refine c8z ?_
  refine .c7 [0, 2, 4, 6, 7, 9] ?_
  refine .s ?_
  refine .k 8 [(3, 63)] ?_
  refine .n ?_
  refine .F ?_
  refine c79z ?_
  refine .k 8 [(3, 31)] ?_
  refine .k 8 [(3, 31)] ?_
  refine .n [] ?_
  refine .c7 [0, 2, 4, 6, 9, 10] ?_
  refine c8z ?_
  refine c5z ?_
  refine c4z ?_
  refine c205z ?_
  refine .c7 [0, 2, 4, 6, 9, 11] ?_
  refine c39z ?_
  refine c178z ?_
  refine c64z ?_
  refine .p 1 ?_
  refine .cn [true] [512, 0] [_] rfl rfl (by simp only [iV, and_true, List.cons_append, List.nil_append]; exact eL (Dh hl t hv ha _)) ?_
  refine c77z ?_
  refine c95z ?_
  refine c52z ?_
  change c9 ..
  refine .c7 [0, 2, 4, 6, 9, 11] ?_
  refine .rz ?_
  refine c42z ?_
  refine .c7 [6, 9, 74] ?_
  refine .z ?_
  exact .ret (.ex (hf := t2) (hq := by rfl))
end
variable {vars : List BA}
theorem c_refL {e : Frm} (hl : s.l.length < 1000000) (t : Int) {E : Env} {c : Ctx} (sc : SC E c vars s.l) (hE : E.c4 = s.p.c4) (hc : c.nm = s.p.c4.length) {r : Rf} (g : GR E vars r) : CB 111 [.ptr e.k 0 0, .agg [.str r.name, .vec r.idx.length (l8 r.idx)], .int .i64 t] (hT e (v8 e.k s) s.code s.sites) (.agg (A9 (pE s.l r))) := by
  obtain ⟨x, idx⟩ := r
  rcases g with ⟨m, hm, hn, ⟨hz, a, hi, ha⟩ | ⟨hz, hi⟩⟩ | ⟨p, hp, hmu, hn, hi⟩
  · simp only at hn hi
    subst hn hi
    obtain ⟨v, h1, h2, h3, h4, h5⟩ := sc.mx m hm
    obtain ⟨y, k, n⟩ := v
    simp only at h2 h3 h4 h5
    subst h2
    rw [hE] at h5
    have := c_ref1 (e := e) hl t h1 ⟨h3, by omega⟩ (by rw [h5]; exact hz) sc.var ha
    simp only [pE, dF h1, A9, List.map_cons, List.map_nil, List.length_cons, List.length_nil, l8, List.flatMap_cons, List.flatMap_nil, List.append_nil]
    exact this
  · simp only at hn hi
    subst hn hi
    obtain ⟨v, h1, h2, h3, h4, h5⟩ := sc.mx m hm
    obtain ⟨y, k, n⟩ := v
    simp only at h2 h3 h4 h5
    subst h2
    rw [hE] at h5
    have := c_ref2 (e := e) hl t h1 ⟨h3, by omega⟩ (by rw [h5]; exact hz)
    simp only [pE, dF h1]
    exact this
  · simp only at hn hi
    subst hn hi
    obtain ⟨v, h1, h2, h3, h4⟩ := sc.pm p hp hmu
    obtain ⟨y, k, n⟩ := v
    simp only at h2 h3 h4
    subst h2
    have := c_ref5 (e := e) hl t h1
    simp only [pE, dF h1]
    exact this
end Go.Proofs.YtfbjlfhjkojmkaaGreat
end
section
namespace Go.Proofs.YtfbjlfhjkojmkaaGreat
open Go.Ab Go.Un
theorem Z0 {l : List Ex} {x : Ex} : l8 (l ++ [x]) = l8 l ++ p9 x := by simp [l8]
theorem J1 {l : List Pl} {x : Pl} : cO (l ++ [x]) = cO l ++ A9 x := by simp [cO]
section
variable {e : Frm} {b b0 b1 b2 b3 b4 b5 b6 : Blk} {c : List Ins} {ss : List Int} {l : c6} {es : List Ex} {x : Ex} {ps : List Pl} {p : Pl} {g n : Nat}
theorem EX (hn : es.length = n) (hl : n < 100000) : j5 cfg 72 (hT e b c ss ++ (b0 :: b1 :: b2 :: b3 :: p4 72 4 g (l8 es) :: b5 :: b6 :: ⟨0, false, 72, 4, p9 x, 0⟩ :: l)) (.own (e.n + 4) g 0 n) (.own (e.n + 7) 0 0 1) = some (.own (e.n + 4) (g + 1) 0 (n + 1), hT e b c ss ++ (b0 :: b1 :: b2 :: b3 :: p4 72 4 (g + 1) (l8 (es ++ [x])) :: b5 :: b6 :: ⟨0, false, 72, 4, p9 x, 0⟩ :: l)) := by
  subst hn
  rw [z1 (C := cfg) (K := 4) (m := 1) (new := p9 x) (zs := l8 es) (by rw [dC]; rfl) rfl (by omega) (by rw [aN, Nat.mul_comm]) (by rw [m8]) (by omega) (by simp [rd, dC, m8, eJ]) rfl (by decide) (by omega), ← Z0, fG]
  rfl
theorem EY (hn : ps.length = n) (hl : n < 100000) : j5 cfg 74 (hT e b c ss ++ (b0 :: b1 :: b2 :: b3 :: b4 :: p4 74 3 g (cO ps) :: b6 :: ⟨0, false, 74, 3, [.bool p.param, .int .i64 p.index, .vec p.at'.length (l8 p.at')], 0⟩ :: l)) (.own (e.n + 5) g 0 n) (.own (e.n + 7) 0 0 1) = some (.own (e.n + 5) (g + 1) 0 (n + 1), hT e b c ss ++ (b0 :: b1 :: b2 :: b3 :: b4 :: p4 74 3 (g + 1) (cO (ps ++ [p])) :: b6 :: ⟨0, false, 74, 3, [.bool p.param, .int .i64 p.index, .vec p.at'.length (l8 p.at')], 0⟩ :: l)) := by
  subst hn
  rw [z1 (C := cfg) (K := 3) (m := 1) (new := A9 p) (zs := cO ps) (by rw [dC]; rfl) rfl (by omega) t191 rfl (by omega) (by simp [rd, dC, A9]) rfl (by decide) (by omega), ← J1, fG]
  rfl
end
theorem hT_same {e : Frm} {b : Blk} {c : List Ins} {ss : List Int} {l l' : c6} (hl : lZ (e.n + l'.length) l l') : z5 (hT e b c ss ++ l) (hT e b c ss ++ l') :=
  (z5.refl _).app rfl (by rw [y0]; exact hl)
variable {E : Env} {vars : List BA} {xs : List Ar}
theorem GAs.mu {ps : List Pm} (h : GAs E vars ps xs) : ps.length = xs.length ∧ ∀ i, i < xs.length → (xs.getD i cN).mu = (ps.getD i fR).mu := by
  induction ps generalizing xs with
  | nil =>
    cases xs with
    | nil => exact ⟨rfl, fun i hi => by simp at hi⟩
    | cons => exact h.elim
  | cons p ps ih =>
    cases xs with
    | nil => exact h.elim
    | cons a xs =>
      obtain ⟨⟨h1, _⟩, h3⟩ := h
      obtain ⟨i1, i2⟩ := ih h3
      refine ⟨by simp [i1], fun i hi => ?_⟩
      cases i with
      | zero => exact h1
      | succ i => exact i2 i (by simpa using hi)
theorem ar_is {ps : List Pm} (h : GAs E vars ps xs) {i : Nat} (hi : i < xs.length) : ((xs.getD i cN).mu = true → GR E vars (xs.getD i cN).r) ∧ ((xs.getD i cN).mu = false → GE vars 2 (xs.getD i cN).e) := by
  induction ps generalizing xs i with
  | nil =>
    cases xs with
    | nil => simp at hi
    | cons => exact h.elim
  | cons p ps ih =>
    cases xs with
    | nil => exact h.elim
    | cons a xs =>
      obtain ⟨⟨h1, h2⟩, h3⟩ := h
      cases i with
      | succ i => exact ih h3 (by simpa using hi)
      | zero =>
        simp only [List.getD_cons_zero]
        rcases h2 with ⟨q1, q2, _⟩ | ⟨q1, _, q3⟩
        · exact ⟨fun _ => q2, fun h => absurd ((h1.trans q1).symm.trans h) (by decide)⟩
        · exact ⟨fun h => absurd ((h1.trans q1).symm.trans h) (by decide), fun _ => q3⟩
variable {i : Nat}
theorem yC (hi : i < xs.length) : xs.drop i = xs.getD i cN :: xs.drop (i + 1) := by
  rw [List.drop_eq_getElem_cons hi]
  simp [List.getD, hi]
theorem cEx_t {l : List Ent} (hi : i < xs.length) (h : (xs.getD i cN).mu = true) {es : List Ex} (he : aD l xs = es ++ aD l (xs.drop i)) : aD l xs = es ++ aD l (xs.drop (i + 1)) := by
  rw [he, yC hi, aD, if_pos h]
theorem cEx_f {l : List Ent} (hi : i < xs.length) (h : (xs.getD i cN).mu = false) {es : List Ex} (he : aD l xs = es ++ aD l (xs.drop i)) : aD l xs = (es ++ [eF l (xs.getD i cN).e]) ++ aD l (xs.drop (i + 1)) := by
  rw [he, yC hi, aD, if_neg t186]; simp
theorem cPl_t {l : List Ent} (hi : i < xs.length) (h : (xs.getD i cN).mu = true) {ps : List Pl} (he : v5 l xs = ps ++ v5 l (xs.drop i)) : v5 l xs = (ps ++ [pE l (xs.getD i cN).r]) ++ v5 l (xs.drop (i + 1)) := by
  rw [he, yC hi, v5, if_pos h]; simp
theorem cPl_f {l : List Ent} (hi : i < xs.length) (h : (xs.getD i cN).mu = false) {ps : List Pl} (he : v5 l xs = ps ++ v5 l (xs.drop i)) : v5 l xs = ps ++ v5 l (xs.drop (i + 1)) := by
  rw [he, yC hi, v5, if_neg t186]
theorem R4 {l : List Ar} (h : i < l.length) : List.take 7 (List.drop (i * 7) (aO l)) = [.bool (l.getD i cN).mu, .str (l.getD i cN).r.name, .vec (l.getD i cN).r.idx.length (l8 (l.getD i cN).r.idx), .int .i64 (l.getD i cN).e.op, .int .i64 (l.getD i cN).e.num, .str (l.getD i cN).e.name, .vec (l.getD i cN).e.args.length (l8 (l.getD i cN).e.args)] := by
  rw [sS h, tI]
variable {s : Sco}
theorem MP (hl : s.l.length < 1000000) (t : Int) (hv : ∀ x ∈ vars, ∃ v, aV s.l x = some v ∧ (v.kind = 1 ∨ v.kind = 4)) {d : Nat} {a : Ex} (g : GE vars d a) (e : Frm) : CB 108 [.ptr e.k 0 0, .agg [.int .i64 a.op, .int .i64 a.num, .str a.name, .vec a.args.length (l8 a.args)], .int .i64 t] (hT e (v8 e.k s) s.code s.sites) (.agg (p9 (eF s.l a))) := by
  rw [← aT]; exact Dh hl t hv g e
theorem EZ {e : Frm} (hl : s.l.length < 1000000) (t : Int) {c : Ctx} (sc : SC E c vars s.l) (hE : E.c4 = s.p.c4) (hc : c.nm = s.p.c4.length) {r : Rf} (g : GR E vars r) : CB 111 [.ptr e.k 0 0, .agg [.str r.name, .vec r.idx.length (l8 r.idx)], .int .i64 t] (hT e (v8 e.k s) s.code s.sites) (.agg [.bool (pE s.l r).param, .int .i64 (pE s.l r).index, .vec (pE s.l r).at'.length (l8 (pE s.l r).at')]) := c_refL hl t sc hE hc g
attribute [local go_sem] rd p6 m8 aN bQ s5 aC eE cK n5 aJ aA l9 aP Int.natCast_nonneg Int.natCast_inj List.length_map wrap64 eJ gV gX P6 B8 G9 P7 xO max2 dV bU aQ Nat.reduceMul lO iM v8 gE nY jM tL y0 hT_0 hT_1 hT_2 MK ML MM dC yA fG I8 MN Q8 lQ D1 R3 EX EY
section
attribute [local go_sem] D1 R3
theorem c_put {e : Frm} (hc : s.code.length < 10000) (hs : s.sites.length < 10000) (i : Ins) (t : Int) : CH 82 [.ptr e.k 0 0, .agg (dJ i), .int .i64 t] (hT e (v8 e.k s) s.code s.sites) (.int .i64 ((s.code.length : Nat) : Int)) (hT e (v8 e.k {s with code := s.code ++ [i], sites := s.sites ++ [t]}) (s.code ++ [i]) (s.sites ++ [t])) := by
  rw [jN]
  refine .wz Tryz.f82 33 ?_
  refine .z ?_
  refine .sg s9 (mkH 22 [0, 0, 0, 4, 12, 28, 0, 64, 252, 0, 512, 1536, 3584, 0, 8192, 32764, 65533, 131069, 262141, 524287, 1048575, 2097151] [7, 8, 14, 15, 18, 21] [(7, 0), (14, 1)] [0, 128, 384, 16384, 16512, 16768, 49536, 311680, 2408832] [0, 1, 2, 3, 4, 5, 6, 7, 8, 9, 10, 11, 12]) 2 ?_
  refine .p 5 ?_
  refine .rm [true] ?_
  refine .rm [true] ?_
  refine .em [true] [128, 0] [_] ?_
  refine .em [true, false] [384, 128, 0] [_] ?_
  refine .p 3 ?_
  refine .rm [true, true, true] ?_
  refine .p 1 ?_
  refine .en [true, true, true] [16768, 16512, 16384, 384, 128, 0] [_, _, _] ?_
  refine .en [true, false, false, false, false, false] [49536, 16768, 16512, 16384, 384, 128, 0] [_] ?_
  refine .p 2 ?_
  refine .en [true, false, false, false, false, false, false] [311680, 49536, 16768, 16512, 16384, 384, 128, 0] [_] ?_
  refine .p 2 ?_
  refine .en [true, false, false, false, false, false, false, false] [2408832, 311680, 49536, 16768, 16512, 16384, 384, 128, 0] [_] ?_
  refine .po [false, false, false, true, true, true, true, true, true] ?_
  refine .po [false, false, false, false, true, false, false, true, false] ?_
  refine .po [false, false, false, false, false, true, false, false, true] ?_
  refine .po [false, false, false, false, false, true, false, false, true] ?_
  refine .po [false, false, false, false, true, true, false, true, true] ?_
  refine s8.nil rfl ?_
  refine .c7 [0] ?_
  refine c32z ?_
  exact ⟨hT _ _ _ _, _, _, rfl, by (simp only [y0]; exact Nat.le_refl _), (yB (eX.get ⟨.vec _ _, .vec _ _, .vec _ _, .vec _ _, .int _ _, .int _ _, .int _ _, .int _ _, .own _ _ _ _ e.lt.2.1, .own _ _ _ _ e.lt.2.2, trivial⟩)), t2, by exact ⟨congrArg (AV.int .i64) (by omega), by simp only [v8, List.length_append, List.length_cons, List.length_nil]⟩⟩
end
section
attribute [local go_sem] lQ R4 EX EY
theorem c_call3 {e : Frm} (hl : s.l.length < 1000000) (t : Int) {c : Ctx} (sc : SC E c vars s.l) (hE : E.c4 = s.p.c4) (hc : c.nm = s.p.c4.length) {x y : BA} {n : Int} (hf : aV s.l x = some ⟨y, 3, n⟩) (hn : 0 ≤ n ∧ n < s.p.funcs.length) {ps : List Pm} (hp : (s.p.funcs.getD n.toNat g9).params = ps) (hp2 : ps.length ≤ 2) (ha : GAs E vars ps xs) : CB 110 [.ptr e.k 0 0, .agg [.int .i64 3, .str x, .int .i64 0, .int .i64 0, .str ByteArray.empty, .vec 0 [], .str ByteArray.empty, .vec 0 [], .vec xs.length (aO xs), .vec 0 [], .vec 0 []], .int .i64 t] (hT e (v8 e.k s) s.code s.sites) (.agg (dJ ⟨2, n, false, j9, bA, aD s.l xs, v5 s.l xs⟩)) := by
  refine .bz Tryz.f110 112 ?_
  refine c19z ?_
  refine c0z ?_
  refine c17z ?_
  refine c22z ?_
  refine c115z ?_
  refine c231z ?_
  refine .sb ?_
  refine .c7 [0, 2, 4, 6, 7, 8, 9] ?_
  refine c112z ?_
  refine c5z ?_
  refine c153z ?_
  refine .ss s9 (mkP 11 [0, 1, 3, 7, 15, 0, 32, 127, 255, 511, 1023] []) ?_
  refine c59z ?_
  refine .seq ?_
  refine .c7 [0, 2, 4, 6, 7, 10] ?_
  have hml := GAs.mu ha; have hml1 := hml.1
  rw [hp]
  refine .z ?_
  refine .spl 61 rfl rfl (fun e1 => by exfalso; have hml1 := (GAs.mu ha).1; have q := fact e1; omega) (fun e1 => ?_)
  try simp only [e1]
  have qe1 := fact e1
  refine c17z ?_
  refine c4z ?_
  refine c9.mA (β := e.n + 2) (k := 10) t89 rfl ?_
  simp only [List.append_assoc, List.cons_append, List.nil_append, dC, fG, List.set_cons_succ, List.set_cons_zero, List.length_append, y0, List.length_cons, List.length_nil, Nat.reduceAdd, Nat.zero_add]
  refine c9.mA (β := e.n + 2) (k := 11) t89 rfl ?_
  simp only [List.append_assoc, List.cons_append, List.nil_append, dC, fG, List.set_cons_succ, List.set_cons_zero, List.length_append, y0, List.length_cons, List.length_nil, Nat.reduceAdd, Nat.zero_add]
  refine .z7 (fun m st => ∃ (q : Nat) (es : List Ex) (ps' : List Pl) (gi : Nat) (gp : Nat), (m = ps.length - q ∧ (q ≤ ps.length ∧ aD s.l xs = es ++ aD s.l (xs.drop q) ∧ v5 s.l xs = ps' ++ v5 s.l (xs.drop q) ∧ es.length ≤ q ∧ ps'.length ≤ q)) ∧ st = ⟨mkS 112 [(0, AV.ptr e.k 0 0), (2, AV.int .i64 t), (4, AV.ptr e.n 0 0), (6, AV.ptr (e.n + 1) 0 0), (7, AV.ptr (e.n + 2) 0 0), (10, AV.vec ps.length (s4 ps)), (11, AV.int .i64 ((q : Nat) : Int))], (hT e (v8 e.k s) s.code s.sites) ++ [⟨0, false, 140, 11, [.int .i64 3, .str x, .int .i64 0, .int .i64 0, .str ByteArray.empty, .vec 0 [], .str ByteArray.empty, .vec 0 [], .vec xs.length (aO xs), .vec 0 [], .vec 0 []], 0⟩, ⟨0, false, 77, 12, [.int .i64 0, .int .i64 0, .bool false, .int .i64 0, .int .i64 0, .str ByteArray.empty, .j6, .bool false, .int .i64 0, .j6, .j6, .j6], 0⟩, ⟨0, false, 77, 12, [.int .i64 2, .int .i64 n, .bool false, .int .i64 0, .int .i64 0, .str ByteArray.empty, .j6, .bool false, .int .i64 0, .j6, .own (e.n + 4) gi 0 es.length, .own (e.n + 5) gp 0 ps'.length], 0⟩, ⟨0, false, 110, 3, [.str y, .int .i64 3, .int .i64 n], 0⟩, p4 72 4 gi (l8 es), p4 74 3 gp (cO ps')]⟩) (.v ⟨0, ([] : List Ex), ([] : List Pl), 0, 0, ⟨rfl, ⟨by omega, by simp, by simp, by simp, by simp⟩⟩, rfl⟩ (hr := t16)) ?_
  rintro m sl h' ⟨q, es, ps', gi, gp, ⟨hm, ⟨hq, hes, hps, hel, hpl⟩⟩, hst⟩
  obtain ⟨rfl, rfl⟩ := St.mk.inj hst; clear hst
  refine c0z ?_
  refine u2z ?_ ?_
  ·intro e2 qe2
   refine c2z ?_
   have har := ar_is ha (i := q) (by omega)
   refine c26z ?_
   refine .c7 [0, 2, 4, 6, 7, 10, 11, 12] ?_
   refine .ss s9 (mkP 8 [0, 1, 0, 0, 12, 28, 60, 127] []) ?_
   refine .n [] ?_
   refine .spl 84 rfl rfl (fun e3 => by exfalso; have hml2 := (GAs.mu ha).2 q (by omega); simp_all) (fun e3 => ?_)
   try simp only [e3]
   have qe3 := fact e3
   refine c111z ?_
   refine u2z ?_ ?_
   ·intro e4 qe4
    refine .c7 [0, 2, 4, 6, 7, 10, 11, 12, 77] ?_
    have hmu : (xs.getD q cN).mu = true := by assumption
    refine c49z ?_
    refine c178z ?_
    refine .p 1 ?_
    refine .cn [true] [64, 0] [_] rfl rfl t143 ?_
    refine c84z ?_
    refine c104z ?_
    refine c52z ?_
    refine c156z ?_
    refine .rz ?_
    exact ⟨_, by omega, .v ⟨(q + 1), es, (ps' ++ [pE s.l (xs.getD q cN).r]), gi, (gp + 1), ⟨rfl, ⟨by omega, cEx_t (by omega) hmu hes, cPl_t (by omega) hmu hps, by omega, t57⟩⟩, rfl⟩ (he := t36) (hl := t94) (hk := t29) (hr := t16)⟩
   intro e4 qe4
   refine .c7 [0, 2, 4, 6, 7, 10, 11, 12, 77] ?_
   have hmu : (xs.getD q cN).mu = false := by assumption
   refine c49z ?_
   refine c178z ?_
   refine .p 1 ?_
   refine .cn [true] [64, 0] [_] rfl rfl t144 ?_
   refine c84z ?_
   refine c104z ?_
   refine c52z ?_
   refine c156z ?_
   refine .rz ?_
   exact ⟨_, by omega, .v ⟨(q + 1), (es ++ [eF s.l (xs.getD q cN).e]), ps', (gi + 1), gp, ⟨rfl, ⟨by omega, cEx_f (by omega) hmu hes, cPl_f (by omega) hmu hps, t57, by omega⟩⟩, rfl⟩ (he := t36) (hl := t94) (hk := t29) (hr := t16)⟩
  intro e2 qe2
  refine .exit ?_
  obtain rfl : q = ps.length := by omega
  rw [List.drop_of_length_le (by omega)] at hes hps; simp only [aD, v5, List.append_nil] at hes hps
  refine c9.nP (γ := e.n + 4) (β := e.n + 2) (k := 10) (len := es.length) t89 (by rw [aN, Nat.mul_comm]) (by omega) (UZ _) t89 (by omega) rfl ?_
  simp only [List.append_assoc, List.cons_append, List.nil_append, dC, fG, List.set_cons_succ, List.set_cons_zero, List.length_append, y0, List.length_cons, List.length_nil, Nat.reduceAdd, Nat.zero_add]
  refine c9.nP (γ := e.n + 5) (β := e.n + 2) (k := 11) (len := ps'.length) t89 t191 (by omega) (EV _) t89 (by omega) rfl ?_
  simp only [List.append_assoc, List.cons_append, List.nil_append, dC, fG, List.set_cons_succ, List.set_cons_zero, List.length_append, y0, List.length_cons, List.length_nil, Nat.reduceAdd, Nat.zero_add]
  generalize fQ 72 4 gi (l8 es) (es.length * 4) = Eb
  generalize fQ 74 3 gp (cO ps') (ps'.length * 3) = Pb
  change c9 ..
  refine c220z ?_
  exact .ret (.ex (hf := t2) (hq := t192))
end
section
attribute [local go_sem] lQ R4 EX EY
theorem c_call4 {e : Frm} (hl : s.l.length < 1000000) (t : Int) {c : Ctx} (sc : SC E c vars s.l) (hE : E.c4 = s.p.c4) (hc : c.nm = s.p.c4.length) {x y : BA} {n : Int} (hf : aV s.l x = some ⟨y, 3, n⟩) (hn : 0 ≤ n ∧ n < s.p.funcs.length) {ps : List Pm} (hp : (s.p.funcs.getD n.toNat g9).params = ps) (hp2 : ps.length ≤ 2) (ha : GAs E vars ps xs) : CB 110 [.ptr e.k 0 0, .agg [.int .i64 4, .str x, .int .i64 0, .int .i64 0, .str ByteArray.empty, .vec 0 [], .str ByteArray.empty, .vec 0 [], .vec xs.length (aO xs), .vec 0 [], .vec 0 []], .int .i64 t] (hT e (v8 e.k s) s.code s.sites) (.agg (dJ ⟨3, n, false, j9, bA, aD s.l xs, v5 s.l xs⟩)) := by
  refine .bz Tryz.f110 112 ?_
  refine c19z ?_
  refine c0z ?_
  refine .T ?_
  refine c1z ?_
  refine c22z ?_
  refine c115z ?_
  refine c231z ?_
  refine .sb ?_
  refine .c7 [0, 2, 4, 6, 7, 8, 9] ?_
  refine c112z ?_
  refine c5z ?_
  refine c153z ?_
  refine .ss s9 (mkP 11 [0, 1, 3, 7, 15, 0, 32, 127, 255, 511, 1023] []) ?_
  refine c59z ?_
  refine .seq ?_
  refine .c7 [0, 2, 4, 6, 7, 10] ?_
  have hml := GAs.mu ha; have hml1 := hml.1
  rw [hp]
  refine .z ?_
  refine .spl 61 rfl rfl (fun e1 => by exfalso; have hml1 := (GAs.mu ha).1; have q := fact e1; omega) (fun e1 => ?_)
  try simp only [e1]
  have qe1 := fact e1
  refine c17z ?_
  refine c4z ?_
  refine c9.mA (β := e.n + 2) (k := 10) t89 rfl ?_
  simp only [List.append_assoc, List.cons_append, List.nil_append, dC, fG, List.set_cons_succ, List.set_cons_zero, List.length_append, y0, List.length_cons, List.length_nil, Nat.reduceAdd, Nat.zero_add]
  refine c9.mA (β := e.n + 2) (k := 11) t89 rfl ?_
  simp only [List.append_assoc, List.cons_append, List.nil_append, dC, fG, List.set_cons_succ, List.set_cons_zero, List.length_append, y0, List.length_cons, List.length_nil, Nat.reduceAdd, Nat.zero_add]
  refine .z7 (fun m st => ∃ (q : Nat) (es : List Ex) (ps' : List Pl) (gi : Nat) (gp : Nat), (m = ps.length - q ∧ (q ≤ ps.length ∧ aD s.l xs = es ++ aD s.l (xs.drop q) ∧ v5 s.l xs = ps' ++ v5 s.l (xs.drop q) ∧ es.length ≤ q ∧ ps'.length ≤ q)) ∧ st = ⟨mkS 112 [(0, AV.ptr e.k 0 0), (2, AV.int .i64 t), (4, AV.ptr e.n 0 0), (6, AV.ptr (e.n + 1) 0 0), (7, AV.ptr (e.n + 2) 0 0), (10, AV.vec ps.length (s4 ps)), (11, AV.int .i64 ((q : Nat) : Int))], (hT e (v8 e.k s) s.code s.sites) ++ [⟨0, false, 140, 11, [.int .i64 4, .str x, .int .i64 0, .int .i64 0, .str ByteArray.empty, .vec 0 [], .str ByteArray.empty, .vec 0 [], .vec xs.length (aO xs), .vec 0 [], .vec 0 []], 0⟩, ⟨0, false, 77, 12, [.int .i64 0, .int .i64 0, .bool false, .int .i64 0, .int .i64 0, .str ByteArray.empty, .j6, .bool false, .int .i64 0, .j6, .j6, .j6], 0⟩, ⟨0, false, 77, 12, [.int .i64 3, .int .i64 n, .bool false, .int .i64 0, .int .i64 0, .str ByteArray.empty, .j6, .bool false, .int .i64 0, .j6, .own (e.n + 4) gi 0 es.length, .own (e.n + 5) gp 0 ps'.length], 0⟩, ⟨0, false, 110, 3, [.str y, .int .i64 3, .int .i64 n], 0⟩, p4 72 4 gi (l8 es), p4 74 3 gp (cO ps')]⟩) (.v ⟨0, ([] : List Ex), ([] : List Pl), 0, 0, ⟨rfl, ⟨by omega, by simp, by simp, by simp, by simp⟩⟩, rfl⟩ (hr := t16)) ?_
  rintro m sl h' ⟨q, es, ps', gi, gp, ⟨hm, ⟨hq, hes, hps, hel, hpl⟩⟩, hst⟩
  obtain ⟨rfl, rfl⟩ := St.mk.inj hst; clear hst
  refine c0z ?_
  refine u2z ?_ ?_
  ·intro e2 qe2
   refine c2z ?_
   have har := ar_is ha (i := q) (by omega)
   refine c26z ?_
   refine .c7 [0, 2, 4, 6, 7, 10, 11, 12] ?_
   refine .ss s9 (mkP 8 [0, 1, 0, 0, 12, 28, 60, 127] []) ?_
   refine .n [] ?_
   refine .spl 84 rfl rfl (fun e3 => by exfalso; have hml2 := (GAs.mu ha).2 q (by omega); simp_all) (fun e3 => ?_)
   try simp only [e3]
   have qe3 := fact e3
   refine c111z ?_
   refine u2z ?_ ?_
   ·intro e4 qe4
    refine .c7 [0, 2, 4, 6, 7, 10, 11, 12, 77] ?_
    have hmu : (xs.getD q cN).mu = true := by assumption
    refine c49z ?_
    refine c178z ?_
    refine .p 1 ?_
    refine .cn [true] [64, 0] [_] rfl rfl t143 ?_
    refine c84z ?_
    refine c104z ?_
    refine c52z ?_
    refine c156z ?_
    refine .rz ?_
    exact ⟨_, by omega, .v ⟨(q + 1), es, (ps' ++ [pE s.l (xs.getD q cN).r]), gi, (gp + 1), ⟨rfl, ⟨by omega, cEx_t (by omega) hmu hes, cPl_t (by omega) hmu hps, by omega, t57⟩⟩, rfl⟩ (he := t36) (hl := t94) (hk := t29) (hr := t16)⟩
   intro e4 qe4
   refine .c7 [0, 2, 4, 6, 7, 10, 11, 12, 77] ?_
   have hmu : (xs.getD q cN).mu = false := by assumption
   refine c49z ?_
   refine c178z ?_
   refine .p 1 ?_
   refine .cn [true] [64, 0] [_] rfl rfl t144 ?_
   refine c84z ?_
   refine c104z ?_
   refine c52z ?_
   refine c156z ?_
   refine .rz ?_
   exact ⟨_, by omega, .v ⟨(q + 1), (es ++ [eF s.l (xs.getD q cN).e]), ps', (gi + 1), gp, ⟨rfl, ⟨by omega, cEx_f (by omega) hmu hes, cPl_f (by omega) hmu hps, t57, by omega⟩⟩, rfl⟩ (he := t36) (hl := t94) (hk := t29) (hr := t16)⟩
  intro e2 qe2
  refine .exit ?_
  obtain rfl : q = ps.length := by omega
  rw [List.drop_of_length_le (by omega)] at hes hps; simp only [aD, v5, List.append_nil] at hes hps
  refine c9.nP (γ := e.n + 4) (β := e.n + 2) (k := 10) (len := es.length) t89 (by rw [aN, Nat.mul_comm]) (by omega) (UZ _) t89 (by omega) rfl ?_
  simp only [List.append_assoc, List.cons_append, List.nil_append, dC, fG, List.set_cons_succ, List.set_cons_zero, List.length_append, y0, List.length_cons, List.length_nil, Nat.reduceAdd, Nat.zero_add]
  refine c9.nP (γ := e.n + 5) (β := e.n + 2) (k := 11) (len := ps'.length) t89 t191 (by omega) (EV _) t89 (by omega) rfl ?_
  simp only [List.append_assoc, List.cons_append, List.nil_append, dC, fG, List.set_cons_succ, List.set_cons_zero, List.length_append, y0, List.length_cons, List.length_nil, Nat.reduceAdd, Nat.zero_add]
  generalize fQ 72 4 gi (l8 es) (es.length * 4) = Eb
  generalize fQ 74 3 gp (cO ps') (ps'.length * 3) = Pb
  change c9 ..
  refine c220z ?_
  exact .ret (.ex (hf := t2) (hq := t192))
end
end Go.Proofs.YtfbjlfhjkojmkaaGreat
end
