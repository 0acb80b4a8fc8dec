/- My own texts, put together by a program of mine. -/
import Derived.Test.YtfbjlfhjkojmkaaGreatGB2
set_option linter.unusedSimpArgs false
set_option linter.unusedVariables false
set_option maxRecDepth 100000
set_option maxHeartbeats 4000000
section
namespace Go.Un
open Go.Ab
variable {c : UInt8}
theorem KT (h : isL c = true) : isW c = true := by simp [isW, h]
theorem isW_D (h : isD c = true) : isW c = true := by simp [isW, h]
theorem I0 (h : uW c = true) : isW c = false := by
 simp only [uW, Bool.or_eq_true, beq_iff_eq] at h
 simp only [isW, isL, isD, Bool.or_eq_false_iff, Bool.and_eq_false_iff, decide_eq_false_iff_not]
 omega
theorem PV (h : isL c = true) : isD c = false := by
 simp only [isL, Bool.or_eq_true, Bool.and_eq_true, decide_eq_true_eq] at h
 simp only [isD, Bool.and_eq_false_iff, decide_eq_false_iff_not]
 omega
theorem tJ (h : c ∈ KC) : uW c = false ∧ isL c = false ∧ isD c = false := by
 simp only [KC, List.mem_cons, List.not_mem_nil, or_false] at h
 rcases h with rfl | rfl | rfl | rfl | rfl | rfl | rfl | rfl | rfl | rfl | rfl | rfl | rfl | rfl | rfl | rfl | rfl <;> decide
theorem tK {d : UInt8} (h : (c, d) ∈ X7) : uW c = false ∧ isL c = false ∧ isD c = false := by
 simp only [X7, List.mem_cons, List.not_mem_nil, or_false, Prod.mk.injEq] at h
 rcases h with ⟨rfl, _⟩ | ⟨rfl, _⟩ | ⟨rfl, _⟩ | ⟨rfl, _⟩ | ⟨rfl, _⟩ | ⟨rfl, _⟩ <;> decide
variable {s : Bs} {n : Nat}
theorem LX.sp_inv (h : LX (c :: s) n) (hc : uW c = true) : LX s n := by
 have hw := I0 hc
 generalize e : c :: s = t at h
 cases h with
 | nil => cases e
 | space _ h => cases e; exact h
 | word hc' _ _ _ _ => cases e; rw [KT hc'] at hw; cases hw
 | num hc' _ _ _ _ => cases e; rw [isW_D hc'] at hw; cases hw
 | one hc' _ _ => cases e; rw [(tJ hc').1] at hc; cases hc
 | two hc' _ => cases e; rw [(tK hc').1] at hc; cases hc
theorem LX.KU (h : LX (c :: s) n) (hc : isL c = true) : ∃ w r m, s = w ++ r ∧ (∀ d ∈ w, isW d = true) ∧ w.length < 16 ∧ NW r ∧ n = m + 1 ∧ LX r m := by
 generalize e : c :: s = t at h
 cases h with
 | nil => cases e
 | space hc' h => cases e; have := I0 hc'; rw [KT hc] at this; cases this
 | word hc' h1 h2 h3 h4 => cases e; exact ⟨_, _, _, rfl, h1, h2, h3, rfl, h4⟩
 | num hc' _ _ _ _ => cases e; rw [PV hc] at hc'; cases hc'
 | one hc' _ _ => cases e; rw [(tJ hc').2.1] at hc; cases hc
 | two hc' _ => cases e; rw [(tK hc').2.1] at hc; cases hc
theorem LX.num_inv (h : LX (c :: s) n) (hc : isD c = true) : ∃ w r m, s = w ++ r ∧ (∀ d ∈ w, isD d = true) ∧ uX (c :: w) < 9223372036854775808 ∧ NW r ∧ n = m + 1 ∧ LX r m := by
 generalize e : c :: s = t at h
 cases h with
 | nil => cases e
 | space hc' h => cases e; have := I0 hc'; rw [isW_D hc] at this; cases this
 | word hc' h1 h2 h3 h4 => cases e; rw [PV hc'] at hc; cases hc
 | num hc' h1 h2 h3 h4 => cases e; exact ⟨_, _, _, rfl, h1, h2, h3, rfl, h4⟩
 | one hc' _ _ => cases e; rw [(tJ hc').2.2] at hc; cases hc
 | two hc' _ => cases e; rw [(tK hc').2.2] at hc; cases hc
theorem LX.B8 (h : LX (c :: s) n) (h1 : uW c = false) (h2 : isL c = false) (h3 : isD c = false) : (∃ d r m, s = d :: r ∧ (c, d) ∈ X7 ∧ n = m + 1 ∧ LX r m) ∨ (∃ m, c ∈ KC ∧ (∀ d, s.head? = some d → (c, d) ∉ X7 ∧ (c, d) ≠ (47, 47)) ∧ n = m + 1 ∧ LX s m) := by
 generalize e : c :: s = t at h
 cases h with
 | nil => cases e
 | space hc' h => cases e; rw [h1] at hc'; cases hc'
 | word hc' _ _ _ _ => cases e; rw [h2] at hc'; cases hc'
 | num hc' _ _ _ _ => cases e; rw [h3] at hc'; cases hc'
 | one hc' h5 h6 => cases e; exact .inr ⟨_, hc', h5, rfl, h6⟩
 | two hc' h6 => cases e; exact .inl ⟨_, _, _, rfl, hc', rfl, h6⟩
def bat (L : Bs) (i : Nat) : UInt8 := L.getD i 0
variable {L : Bs} {i : Nat}
theorem bG (h : i < L.length) : L.drop i = bat L i :: L.drop (i + 1) := by
 rw [List.drop_eq_getElem_cons h]
 simp [bat, List.getD, h]
variable {k : Nat}
theorem KV {u v : Bs} (h : L.drop i = u ++ v) (hk : k < u.length) : bat L (i + k) = u.getD k 0 := by
 have : (L.drop i).getD k 0 = bat L (i + k) := by simp [bat, List.getD]
 rw [← this, h]
 simp [List.getD, List.getElem?_append_left hk]
theorem xS {u v : Bs} (h : L.drop i = u ++ v) : L.drop (i + u.length) = v := by
 rw [← List.drop_drop, h, List.drop_left]
theorem LX.Y5 (h : LX (L.drop i) n) (hi : i + 1 < L.length) (h1 : (bat L i).toNat = 47) (h2 : (bat L (i + 1)).toNat = 47) : False := by
 have e1 : bat L i = 47 := UInt8.toNat_inj.1 h1
 have e2 : bat L (i + 1) = 47 := UInt8.toNat_inj.1 h2
 rw [bG (by omega), e1] at h
 rcases h.B8 (by decide) (by decide) (by decide) with ⟨d, r, m, e, hm, _⟩ | ⟨m, _, h5, _⟩
 ·rw [bG hi, e2] at e
  cases e
  exact absurd hm (by decide)
 ·exact (h5 47 (by rw [bG hi, e2]; rfl)).2 rfl
theorem LX.DU (h : LX (L.drop i) n) (hi : i < L.length) (hc : uW (bat L i) = true) : LX (L.drop (i + 1)) n := by
 rw [bG hi] at h
 exact h.sp_inv hc
structure Span (L : Bs) (p : UInt8 → Bool) (i e : Nat) : Prop where
 lt : i < e
 le : e ≤ L.length
 all : ∀ j, i ≤ j → j < e → p (bat L j) = true
 stop : e < L.length → p (bat L e) = false
theorem Span.of {p : UInt8 → Bool} {w r : Bs} (hd : L.drop i = c :: w ++ r) (hc : p c = true) (hw : ∀ d ∈ w, p d = true) (hr : ∀ d, r.head? = some d → p d = false) : Span L p i (i + (w.length + 1)) := by
 have hl : (L.drop i).length = w.length + 1 + r.length := by rw [hd]; simp; omega
 rw [List.length_drop] at hl
 have hrr : L.drop (i + (w.length + 1)) = r := by
  have := xS (u := c :: w) (v := r) (by rw [hd])
  simpa using this
 refine ⟨by omega, by omega, fun j h1 h2 => ?_, fun h => ?_⟩
 ·obtain ⟨k, rfl⟩ : ∃ k, j = i + k := ⟨j - i, by omega⟩
  rw [KV (u := c :: w) (v := r) hd t53]
  cases k with
  | zero => exact hc
  | succ k =>
   have hk : k < w.length := by omega
   have : (c :: w).getD (k + 1) 0 = w[k] := by simp [List.getD, hk]
   rw [this]
   exact hw _ (List.getElem_mem hk)
 ·refine hr _ ?_
  rw [← hrr, bG h]
  rfl
theorem LX.DV (h : LX (L.drop i) n) (hi : i < L.length) (hc : isL (bat L i) = true) : ∃ e m, Span L isW i e ∧ e ≤ i + 16 ∧ n = m + 1 ∧ LX (L.drop e) m := by
 rw [bG hi] at h
 obtain ⟨w, r, m, e, h1, h2, h3, rfl, h4⟩ := h.KU hc
 have hd : L.drop i = bat L i :: w ++ r := by rw [bG hi, e]; rfl
 refine ⟨_, m, Span.of hd (KT hc) h1 h3, by omega, rfl, ?_⟩
 have := xS (u := bat L i :: w) (v := r) (by rw [hd])
 rw [List.length_cons] at this
 rw [this]
 exact h4
theorem LX.KW (h : LX (L.drop i) n) (hi : i < L.length) (hc : isD (bat L i) = true) : ∃ e m, Span L isD i e ∧ uX ((L.drop i).take (e - i)) < 9223372036854775808 ∧ n = m + 1 ∧ LX (L.drop e) m := by
 rw [bG hi] at h
 obtain ⟨w, r, m, e, h1, h2, h3, rfl, h4⟩ := h.num_inv hc
 have hd : L.drop i = bat L i :: w ++ r := by rw [bG hi, e]; rfl
 refine ⟨_, m, Span.of hd hc h1 fun d hd => ?_, ?_, rfl, ?_⟩
 ·have := h3 d hd
  simp only [isW, Bool.or_eq_false_iff] at this
  exact this.2
 ·rw [show i + (w.length + 1) - i = (bat L i :: w).length from by simp, hd, List.take_left]
  exact h2
 ·have := xS (u := bat L i :: w) (v := r) (by rw [hd])
  rw [List.length_cons] at this
  rw [this]
  exact h4
def sgn (L : Bs) (i : Nat) : Nat := if i + 1 < L.length ∧ (bat L i, bat L (i + 1)) ∈ X7 then 2 else if bat L i ∈ KC then 1 else 0
theorem LX.DW (h : LX (L.drop i) n) (hi : i < L.length) (h1 : uW (bat L i) = false) (h2 : isL (bat L i) = false) (h3 : isD (bat L i) = false) : 0 < sgn L i ∧ i + sgn L i ≤ L.length ∧ ∃ m, n = m + 1 ∧ LX (L.drop (i + sgn L i)) m := by
 rw [bG hi] at h
 rcases h.B8 h1 h2 h3 with ⟨d, r, m, e, hm, rfl, h4⟩ | ⟨m, hm, h5, rfl, h4⟩
 ·have hl : (L.drop (i + 1)).length = r.length + 1 := by rw [e]; rfl
  rw [List.length_drop] at hl
  have hd : bat L (i + 1) = d := by rw [bG (by omega)] at e; injection e
  have hr : L.drop (i + 2) = r := by rw [bG (by omega)] at e; injection e
  rw [sgn, if_pos ⟨by omega, by rw [hd]; exact hm⟩]
  exact ⟨by omega, by omega, m, rfl, by rw [hr]; exact h4⟩
 ·rw [sgn, if_neg (fun hx => (h5 (bat L (i + 1)) (by rw [bG hx.1]; rfl)).1 hx.2), if_pos hm]
  exact ⟨by omega, by omega, m, rfl, h4⟩
variable {l : Bs}
theorem B9 (h : k < l.length) : uX (l.take (k + 1)) = 10 * uX (l.take k) + ((bat l k).toNat - 48) := by
 rw [List.take_succ_eq_append_getElem h, A9]
 simp [bat, List.getD, h]
theorem DX : ∀ {k m : Nat}, k ≤ m → uX (l.take k) ≤ uX (l.take m) := by
 intro k m hm
 induction hm with
 | refl => exact Nat.le_refl _
 | @step m _ ih =>
  by_cases h : m < l.length
  ·rw [B9 h]; omega
  ·rw [List.take_of_length_le (i := m + 1) (by omega)]
   rw [List.take_of_length_le (i := m) (by omega)] at ih
   exact ih
def rR (l : Bs) : List AV := l.map fun c => .int .u8 (c.toNat : Int)
theorem lU (l : Bs) : (rR l).length = l.length := List.length_map _
theorem read_b (h : i < l.length) : List.take 1 (List.drop i (rR l)) = [AV.int .u8 ((bat l i).toNat : Int)] := by
 unfold rR
 rw [← List.map_drop, ← List.map_take, List.drop_eq_getElem_cons h, List.take_succ_cons, List.take_zero]
 simp [bat, List.getD, h]
theorem PW : List.take k (List.drop i (rR l)) = rR ((l.drop i).take k) := by
 unfold rR
 rw [List.map_take, List.map_drop]
theorem I6 : ∀ l : Bs, gS (rR l) = some l
 | [] => rfl
 | c :: l => by
  show (gS (rR l)).map _ = _
  rw [I6 l]
  simp
end Go.Un
end
section
namespace Go.Proofs.YtfbjlfhjkojmkaaGreat
open Go.Ab Go.Un
theorem Y6 {n : Int} (h1 : 0 ≤ n) (h2 : n < 256) : IntKind.wrap .u8 n = n := by
  rw [IntKind.wrap_u8]; omega
theorem C0 {f : FuncId} {args : List AV} {s : AV} (ha : args.all (s5 0 9) = true) (r : CallA Tryz.prog cfg f args [] fun y _ => RZ y = s) (h : c6) : CallA Tryz.prog cfg f args h fun y h' => y = s ∧ h' = h := by
  intro B φ w cargs i hs hr
  have hst : ∀ k, k < w.heap.size → M0 [] φ w k := fun k hk => ⟨hk, fun β b hb => by simp at hb⟩
  have i0 : Pic cfg.dA w.heap.size [] φ w := ⟨fun β b hb => by simp at hb, fun β β' b b' hb => by simp at hb, fun β b hb => by simp at hb, fun β b hb => by simp at hb, Nat.le_refl _, fun g => (i.dA g).mono fun k j hk => ⟨rfl, (hst k hk.1).M1 j⟩⟩
  refine (r w.heap.size φ w cargs i0 hs (fun j v x h1 h2 => CJ (hr j v x h1 h2) (cB 9 x (List.all_eq_true.1 ha x (List.mem_of_getElem? h2))))).mono fun e w' hp => ?_
  obtain ⟨v, y, h', φ', rfl, h1, h2, h3, hq⟩ := hp
  have hk : ∀ k, k < w.heap.size → w'.heap[k]? = w.heap[k]? := fun k hk => (h2.jC k (hst k hk)).1
  have ev : Ev h φ w h φ w' := ⟨h2.os, h2.tape, h2.output, h2.size, fun k hs => ⟨hk k hs.1, Nat.lt_of_lt_of_le hs.1 h2.size, hs.2⟩, fun k j hs => ⟨World.cell?_of_block (hk k hs.1), Nat.lt_of_lt_of_le hs.1 h2.size, hs.2⟩, Nat.le_refl _, fun β b b' e1 e2 => by rw [e1] at e2; cases e2; exact ⟨Nat.le_refl _, fun _ => ⟨rfl, rfl, rfl⟩⟩⟩
  refine ⟨v, _, h, φ, rfl, ⟨fun β b hb hv => ?_, i.inj, i.base, i.bL, Nat.le_trans i.room h2.size, fun g => ev.E9 (i.dA g)⟩, ev, xA h3, hq, rfl⟩
  obtain ⟨cur, q1, q2, q3, q4⟩ := i.blk β b hb hv
  exact ⟨cur, (hk _ (Array.getElem?_eq_some_iff.1 q1).1).trans q1, q2, q3, fun j v x a d => ⟨(q4 j v x a d).1, ev.rel (q4 j v x a d).2⟩⟩
def hasB (l : List BA) (s : BA) : Bool := l.any fun x => x.toList == s.toList
variable {l : List BA} {s : BA} {i : Nat}
theorem has_t (hi : i < l.length) (h : ((l.getD i ByteArray.empty).toList == s.toList) = true) : hasB l s = true := List.any_eq_true.2 ⟨_, l9 hi, h⟩
theorem has_f (hi : l.length ≤ i) (h : ∀ d, d < i → ((l.getD d ByteArray.empty).toList == s.toList) = false) : hasB l s = false := by
  refine List.any_eq_false.2 fun x hx => ?_
  obtain ⟨d, h1, rfl⟩ := bF (d := ByteArray.empty) hx
  rw [h d (by omega)]
  decide
theorem KX (h : ∀ d, d < i → ((l.getD d ByteArray.empty).toList == s.toList) = false) (e : ((l.getD i ByteArray.empty).toList == s.toList) = false) : ∀ d, d < i + 1 → ((l.getD d ByteArray.empty).toList == s.toList) = false := fun d hd => by
  by_cases hdi : d = i
  · rw [hdi]; exact e
  · exact h d (by omega)
def PX : List BA := [⟨#[118, 97, 114]⟩, ⟨#[109, 117, 116, 101, 120]⟩, ⟨#[114, 109, 117, 116, 101, 120]⟩, ⟨#[102, 117, 110, 99]⟩, ⟨#[108, 111, 99, 107]⟩, ⟨#[117, 110, 108, 111, 99, 107]⟩, ⟨#[103, 111]⟩, ⟨#[105, 102]⟩, ⟨#[101, 108, 115, 101]⟩, ⟨#[119, 104, 105, 108, 101]⟩, ⟨#[114, 101, 116, 117, 114, 110]⟩]
def twoN : List BA := [⟨#[60, 61]⟩, ⟨#[62, 61]⟩, ⟨#[61, 61]⟩, ⟨#[33, 61]⟩, ⟨#[38, 38]⟩, ⟨#[124, 124]⟩]
def By : List BA := [⟨#[40]⟩, ⟨#[41]⟩, ⟨#[123]⟩, ⟨#[125]⟩, ⟨#[91]⟩, ⟨#[93]⟩, ⟨#[44]⟩, ⟨#[59]⟩, ⟨#[61]⟩, ⟨#[43]⟩, ⟨#[45]⟩, ⟨#[42]⟩, ⟨#[47]⟩, ⟨#[37]⟩, ⟨#[60]⟩, ⟨#[62]⟩, ⟨#[33]⟩]
def rS (s : BA) : Bool := hasB PX s
variable {a : UInt8}
theorem eq2 {x y b : UInt8} : ((⟨#[x, y]⟩ : BA).toList == (⟨[a, b].toArray⟩ : BA).toList) = (decide (a = x) && decide (b = y)) := by
  rw [ByteArray.toList_eq, ByteArray.toList_eq]
  show ([x, y] == [a, b]) = _
  rw [Bool.eq_iff_iff]
  simp only [beq_iff_eq, List.cons.injEq, and_true, Bool.and_eq_true, decide_eq_true_eq]
  exact and_congr eq_comm eq_comm
theorem eq1 {x : UInt8} : ((⟨#[x]⟩ : BA).toList == (⟨[a].toArray⟩ : BA).toList) = decide (a = x) := by
  rw [ByteArray.toList_eq, ByteArray.toList_eq]
  show ([x] == [a]) = _
  rw [Bool.eq_iff_iff]
  simp only [beq_iff_eq, List.cons.injEq, and_true, decide_eq_true_eq]
  exact eq_comm
theorem jP {b : UInt8} : hasB twoN ⟨[a, b].toArray⟩ = decide ((a, b) ∈ X7) := by
  simp only [hasB, twoN, X7, List.any_cons, List.any_nil, eq2, Bool.or_false, List.mem_cons, List.not_mem_nil, or_false, Prod.mk.injEq, Bool.decide_or, Bool.decide_and]
theorem jQ : hasB By ⟨[a].toArray⟩ = decide (a ∈ KC) := by
  simp only [hasB, By, KC, List.any_cons, List.any_nil, eq1, Bool.or_false, List.mem_cons, List.not_mem_nil, or_false, Bool.decide_or]
variable {L : Bs}
theorem M9 (h : i + 1 < L.length) : (L.drop i).take 2 = [bat L i, bat L (i + 1)] := by
  rw [bG (by omega), bG h]
  rfl
theorem take_one (h : i < L.length) : (L.drop i).take 1 = [bat L i] := by
  rw [bG h]
  rfl
theorem str_at (h : i < s.size) : s[i]? = some (bat (L8 s) i) := by
  rw [jK] at h
  have : s[i]? = s.data.toList[i]? := by
    rw [Array.getElem?_toList]
    rfl
  rw [this]
  have h2 : i < s.data.toList.length := h
  rw [List.getElem?_eq_getElem h2]
  simp only [bat, L8, List.getD, List.getElem?_eq_getElem h2, Option.getD_some]
theorem name_at (h : isName (L8 s)) (hi : i < s.size) : isW (bat (L8 s) i) = true ∧ (i = 0 → isL (bat (L8 s) i) = true) := by
  obtain ⟨c, w, e, h1, h2, h3⟩ := h
  rw [jK, e] at hi
  rw [e]
  cases i with
  | zero => exact ⟨KT h1, fun _ => h1⟩
  | succ i =>
    have hi' : i < w.length := by simpa using hi
    refine ⟨?_, fun h => by omega⟩
    have : bat (c :: w) (i + 1) = w[i] := by simp [bat, List.getD, hi']
    rw [this]
    exact h2 _ (List.getElem_mem hi')
theorem dQ (h : isName (L8 s)) : 1 ≤ s.size ∧ s.size ≤ 16 := by
  refine ⟨?_, u0 h⟩
  obtain ⟨c, w, e, _⟩ := h
  rw [jK, e]
  simp
def skF (L : Bs) : Nat → Nat → Nat
  | 0, i => i
  | f + 1, i => if i < L.length ∧ uW (bat L i) = true then skF L f (i + 1) else i
def sk (L : Bs) (i : Nat) : Nat := skF L (L.length - i) i
theorem tL (h : i < L.length) (hs : uW (bat L i) = true) : sk L i = sk L (i + 1) := by
  unfold sk
  obtain ⟨f, hf⟩ : ∃ f, L.length - i = f + 1 := ⟨L.length - i - 1, by omega⟩
  rw [hf, skF, if_pos ⟨h, hs⟩, show L.length - (i + 1) = f from by omega]
theorem DY (h : ¬ (i < L.length ∧ uW (bat L i) = true)) : sk L i = i := by
  unfold sk
  cases hf : L.length - i with
  | zero => rfl
  | succ f => rw [skF, if_neg h]
theorem PY (h : L.length ≤ i) : sk L i = i := DY fun h' => by omega
theorem DZ (h : uW (bat L i) = false) : sk L i = i := DY fun h' => by rw [h] at h'; cases h'.2
theorem xT {L : Bs} : ∀ {f i n : Nat}, L.length - i = f → LX (L.drop i) n → i ≤ L.length → i ≤ sk L i ∧ sk L i ≤ L.length ∧ LX (L.drop (sk L i)) n ∧ (sk L i < L.length → uW (bat L (sk L i)) = false)
  | 0, i, n, hf, h, hi => by
    rw [PY (by omega)]
    exact ⟨Nat.le_refl _, hi, h, fun h => by omega⟩
  | f + 1, i, n, hf, h, hi => by
    by_cases hs : uW (bat L i) = true
    · rw [tL (by omega) hs]
      obtain ⟨a, b, c, d⟩ := xT (f := f) (i := i + 1) (by omega) (h.DU (by omega) hs) (by omega)
      exact ⟨by omega, b, c, d⟩
    · rw [DZ (by simpa using hs)]
      exact ⟨Nat.le_refl _, hi, h, fun _ => by simpa using hs⟩
variable {c : UInt8}
theorem C1 (h : (c.toNat : Int) = 32 ∨ (c.toNat : Int) = 9 ∨ (c.toNat : Int) = 10 ∨ (c.toNat : Int) = 13) : uW c = true := by
  simp only [uW, Bool.or_eq_true, beq_iff_eq]; omega
theorem nosp_of (h1 : ¬ (c.toNat : Int) = 32) (h2 : ¬ (c.toNat : Int) = 9) (h3 : ¬ (c.toNat : Int) = 10) (h4 : ¬ (c.toNat : Int) = 13) : uW c = false := by
  simp only [uW, Bool.or_eq_false_iff, beq_eq_false_iff_ne, ne_eq]; omega
variable {e : Nat}
theorem I7 {p : UInt8 → Bool} {j : Nat} (h : Span L p i e) (h2 : j ≤ e) (hj : j < L.length) (hp : p (bat L j) = true) : j < e := by
  by_cases he : j = e
  · subst he
    rw [h.stop hj] at hp
    cases hp
  · omega
theorem rT {p : UInt8 → Bool} {j : Nat} (h : Span L p i e) (h1 : i ≤ j) (h2 : j ≤ e) (hp : j < L.length → p (bat L j) = false) : j = e := by
  by_cases he : j < e
  · have := h.le
    rw [h.all j h1 he] at hp
    cases hp (by omega)
  · omega
theorem valD_nn {l : Bs} (h : i < l.length) (hd : ∀ d ∈ l, isD d = true) : 48 ≤ (bat l i).toNat ∧ (bat l i).toNat ≤ 57 := by
  have := hd (bat l i) (l9 h)
  simpa only [isD, Bool.and_eq_true, decide_eq_true_eq] using this
theorem tn2 : ((i : Int) + 2).toNat = i + 2 := by omega
theorem tn1 : ((i : Int) + 1).toNat = i + 1 := by omega
theorem PZ : rR [c] = [.int .u8 ((c.toNat : Nat) : Int)] := rfl
theorem takeL {k : Nat} (h : i + k ≤ L.length) : (List.take k (List.drop i L)).length = k := by
  rw [List.length_take, List.length_drop]; omega
variable {H : c6} {n : Nat}
theorem QA {k : Nat} {cs : List AV} : rd H k (.vec n cs) = some cs := rfl
theorem spanD (h : Span L isD i e) : ∀ d ∈ (L.drop i).take (e - i), isD d = true := by
  intro d hd
  obtain ⟨j, hj, rfl⟩ := List.mem_iff_getElem.1 hd
  have hj2 : j < e - i := by rw [List.length_take] at hj; omega
  have hle := h.le
  have := h.all (i + j) (by omega) (by omega)
  have e2 : ((L.drop i).take (e - i))[j] = bat L (i + j) := by
    rw [List.getElem_take, List.getElem_drop]
    simp [bat, List.getD, show i + j < L.length by omega]
  rw [e2]
  exact this
attribute [local go_sem] lU w9 Int.natCast_nonneg Int.natCast_inj List.length_map wrap64 Y6 read_b qI tn1 tn2 str_at
variable {h : c6}
theorem xU (c : UInt8) : CB 86 [.int .u8 ((c.toNat : Nat) : Int)] h (.bool (isL c)) := by
  refine .bz Tryz.f86 21 ?_
  refine .z ?_
  refine c19z ?_
  refine .spl 5 rfl rfl (fun e1 => ?_) (fun e1 => ?_)
  ·try simp only [e1]
   have qe1 := fact e1
   refine .k 4 [(2, 5)] ?_
   refine .spl 9 rfl rfl (fun e2 => ?_) (fun e2 => ?_)
   ·try simp only [e2]
    have qe2 := fact e2
    refine .k 8 [(6, 9), (9, 12)] ?_
    refine c206z ?_
    exact ⟨[], _, (List.append_nil _).symm, t44, t37⟩
   try simp only [e2]
   have qe2 := fact e2
   refine .k 3 [(6, 9)] ?_
   refine .spl 12 rfl rfl (fun e3 => ?_) (fun e3 => ?_)
   ·try simp only [e3]
    have qe3 := fact e3
    refine .k 5 [(6, 9), (9, 12)] ?_
    refine .spl 17 rfl rfl (fun e4 => ?_) (fun e4 => ?_)
    ·try simp only [e4]
     have qe4 := fact e4
     refine c206z ?_
     exact ⟨[], _, (List.append_nil _).symm, t44, t37⟩
    try simp only [e4]
    have qe4 := fact e4
    refine c206z ?_
    exact ⟨[], _, (List.append_nil _).symm, t44, t37⟩
   try simp only [e3]
   have qe3 := fact e3
   refine .k 8 [(6, 9), (9, 12), (14, 17)] ?_
   refine c163z ?_
   exact ⟨[], _, (List.append_nil _).symm, t44, t37⟩
  try simp only [e1]
  have qe1 := fact e1
  refine .k 7 [(2, 5), (6, 9)] ?_
  refine .spl 12 rfl rfl (fun e5 => ?_) (fun e5 => ?_)
  ·try simp only [e5]
   have qe5 := fact e5
   refine .k 5 [(6, 9), (9, 12)] ?_
   refine .spl 17 rfl rfl (fun e6 => ?_) (fun e6 => ?_)
   ·try simp only [e6]
    have qe6 := fact e6
    refine c206z ?_
    exact ⟨[], _, (List.append_nil _).symm, t44, t37⟩
   try simp only [e6]
   have qe6 := fact e6
   refine c206z ?_
   exact ⟨[], _, (List.append_nil _).symm, t44, t37⟩
  try simp only [e5]
  have qe5 := fact e5
  refine .k 8 [(6, 9), (9, 12), (14, 17)] ?_
  refine c163z ?_
  exact ⟨[], _, (List.append_nil _).symm, t44, t37⟩
theorem xV (c : UInt8) : CB 87 [.int .u8 ((c.toNat : Nat) : Int)] h (.bool (isD c)) := by
  refine .bz Tryz.f87 9 ?_
  refine .z ?_
  refine c19z ?_
  refine .spl 5 rfl rfl (fun e1 => ?_) (fun e1 => ?_)
  ·try simp only [e1]
   have qe1 := fact e1
   refine .m [(2, 5)] ?_
   refine c6z ?_
   exact ⟨[], _, (List.append_nil _).symm, t44, t115⟩
  try simp only [e1]
  have qe1 := fact e1
  refine .m [(2, 5)] ?_
  refine c6z ?_
  exact ⟨[], _, (List.append_nil _).symm, t44, t115⟩
section
attribute [local go_sem] kP
theorem c_has (l : List BA) (s : BA) (hl : l.length < 1000) : CB 112 [.vec l.length (w5 l), .str s] h (.bool (hasB l s)) := by
  refine .bz Tryz.f112 18 ?_
  refine c21z ?_
  refine .dK (fun m st => ∃ (i : Nat), (m = l.length - i ∧ (∀ d, d < i → ((l.getD d ByteArray.empty).toList == s.toList) = false) ∧ i ≤ l.length) ∧ st = ⟨mkS 18 [(0, AV.vec l.length (w5 l)), (1, AV.str s), (5, AV.int .i64 ((i : Nat) : Int))], h⟩) _ (.v ⟨0, ⟨rfl, t106, by omega⟩, rfl⟩) ?_
  rintro m sl h' ⟨i, ⟨hm, hI, hi⟩, hst⟩
  obtain ⟨rfl, rfl⟩ := St.mk.inj hst
  refine c0z ?_
  refine u2z ?_ ?_
  ·intro e1 qe1
   refine c86z ?_
   refine u2z ?_ ?_
   ·intro e2 qe2
    refine c116z ?_
    exact ⟨[], _, (List.append_nil _).symm, t44, t120⟩
   intro e2 qe2
   refine c7z ?_
   refine c233z ?_
   exact ⟨_, by omega, .v ⟨(i + 1), ⟨rfl, KX hI (by assumption), by omega⟩, rfl⟩⟩
  intro e1 qe1
  refine c117z ?_
  exact ⟨[], _, (List.append_nil _).symm, t44, t120⟩
end
theorem frz_n {d : Nat} : o5 (kD n H (d + 1)) (w5 l) = some (w5 l) := (w6.map (fun _ => .str) : w6 (w5 l)).frz _ _ _
variable {g : Nat}
theorem Q8 {β : Nat} (l : List BA) (s : BA) (hb : H[β]? = some ⟨g, false, 9, 1, w5 l, 0⟩) (hl : l.length < 1000) : CallA Tryz.prog cfg 112 [.own β g 0 l.length, .str s] H (fun y h' => y = .bool (hasB l s) ∧ h' = H) := by
  have e : PF 0 H (.own β g 0 l.length) = some (.vec l.length (w5 l)) := by
    show kD 0 H 6 (.own β g 0 l.length) = _
    rw [fT, hb]
    simp only [Nat.zero_le, and_self, if_true, Bool.false_eq_true, if_false, Nat.zero_add, Nat.mul_one, w9, Nat.le_refl, List.drop_zero]
    rw [List.take_of_length_le t146, frz_n]
  have ha : JS 0 H [.vec l.length (w5 l), .str s] [.own β g 0 l.length, .str s] := And.intro (.inr e) (And.intro (.inr rfl) trivial)
  exact CallA.borrow ha ((c_has l s hl).mono fun _ _ h => h.1)
theorem c_res0 (s : BA) : CB 88 [.str s] [] (.bool (rS s)) := by
  refine .bz Tryz.f88 6 ?_
  refine .z ?_
  refine c38z ?_
  refine .ca rfl rfl (Q8 PX s rfl (by decide)) ?_
  refine .n ?_
  exact .ret (.ex (hq := by rfl))
theorem TJ (s : BA) : CallA Tryz.prog cfg 88 [.str s] h (fun y h' => y = .bool (rS s) ∧ h' = h) := C0 rfl ((c_res0 s).mono fun _ _ h => by rw [h.1]; rfl) h
theorem c_resF (hr : rS s = false) : CallA Tryz.prog cfg 88 [.str s] h (fun y h' => y = .bool false ∧ h' = h) := by
  rw [← hr]
  exact TJ s
theorem lC (s : BA) (hs : isName (L8 s)) (hr : rS s = false) : CB 78 [.str s] h (.bool true) := by
  refine .bz Tryz.f78 39 ?_
  have hsz := dQ hs
  refine c21z ?_
  refine .dK (fun m st => ∃ (i : Nat), (m = s.size - i ∧ i ≤ s.size) ∧ st = ⟨mkS 39 [(0, AV.str s), (3, AV.int .i64 ((i : Nat) : Int))], h⟩) _ (.v ⟨0, ⟨rfl, by omega⟩, rfl⟩) ?_
  rintro m sl h' ⟨i, ⟨hm, hi⟩, hst⟩
  obtain ⟨rfl, rfl⟩ := St.mk.inj hst
  refine c0z ?_
  refine u2z ?_ ?_
  ·intro e1 qe1
   refine c2z ?_
   have hna := name_at hs (i := i) (by omega)
   refine c19z ?_
   refine .ca rfl rfl (xU _) ?_
   refine .e 2 ?_
   refine .spl 15 rfl rfl (fun e2 => ?_) (fun e2 => ?_)
   ·try simp only [e2]
    have qe2 := fact e2
    refine .k 3 [(5, 15)] ?_
    refine .spl 18 rfl rfl (fun e3 => ?_) (fun e3 => ?_)
    ·try simp only [e3]
     have qe3 := fact e3
     refine .m [(5, 15), (8, 18)] ?_
     refine .T ?_
     refine c116z ?_
     exact ⟨[], _, (List.append_nil _).symm, t44, t85⟩
    try simp only [e3]
    have qe3 := fact e3
    refine .k 3 [(8, 18)] ?_
    refine .ca rfl rfl (xV _) ?_
    refine .m [(5, 15), (8, 18)] ?_
    refine u2z ?_ ?_
    ·intro e4 qe4
     refine c116z ?_
     exact ⟨[], _, (List.append_nil _).symm, t44, t85⟩
    intro e4 qe4
    refine c7z ?_
    refine .c7 [0, 3] ?_
    refine .rz ?_
    exact ⟨_, by omega, .v ⟨(i + 1), ⟨rfl, by omega⟩, rfl⟩⟩
   try simp only [e2]
   have qe2 := fact e2
   refine .k 8 [(5, 15), (8, 18)] ?_
   refine .m [(5, 15)] ?_
   refine c42z ?_
   refine .c7 [0, 3] ?_
   refine .rz ?_
   exact ⟨_, by omega, .v ⟨(i + 1), ⟨rfl, by omega⟩, rfl⟩⟩
  intro e1 qe1
  refine c10z ?_
  refine c39z ?_
  refine .spl 29 rfl rfl (fun e5 => ?_) (fun e5 => by exfalso; simp only [decide_eq_false_iff_not] at e5; omega)
  try simp only [e5]
  have qe5 := fact e5
  refine .k 5 [(3, 29)] ?_
  refine .spl 34 rfl rfl (fun e6 => ?_) (fun e6 => by exfalso; simp only [decide_eq_false_iff_not] at e6; omega)
  try simp only [e6]
  have qe6 := fact e6
  refine .k 1 [(8, 34)] ?_
  refine .ca rfl rfl (c_resF hr) ?_
  refine .m [(8, 34)] ?_
  refine c6z ?_
  exact ⟨[], _, (List.append_nil _).symm, t44, t85⟩
theorem QB (L : Bs) (i n : Nat) (hx : LX (L.drop i) n) (hi : i ≤ L.length) (hl : L.length < 1000000) : CB 85 [.vec L.length (rR L), .int .i64 (i : Int)] h (.int .i64 ((sk L i : Nat) : Int)) := by
  refine .bz Tryz.f85 74 ?_
  refine .z ?_
  refine .sb ?_
  refine .dK (fun m st => ∃ (j : Nat), (m = L.length - j ∧ (LX (L.drop j) n ∧ j ≤ L.length ∧ sk L j = sk L i)) ∧ st = ⟨mkS 74 [(0, AV.vec L.length (rR L)), (1, AV.int .i64 ((j : Nat) : Int))], h⟩) _ (.v ⟨i, ⟨rfl, ⟨hx, hi, rfl⟩⟩, rfl⟩) ?_
  rintro m sl h' ⟨j, ⟨hm, ⟨hX, hj, hk⟩⟩, hst⟩
  obtain ⟨rfl, rfl⟩ := St.mk.inj hst
  refine c0z ?_
  refine u2z ?_ ?_
  ·intro e1 qe1
   refine c186z ?_
   refine .block ?_
   refine c168z ?_
   refine .spl 16 rfl rfl (fun e2 => ?_) (fun e2 => ?_)
   ·try simp only [e2]
    have qe2 := fact e2
    refine .k 8 [(5, 16), (12, 23)] ?_
    refine .k 8 [(12, 23), (19, 30)] ?_
    refine .m [(19, 30)] ?_
    refine .T ?_
    refine .c7 [0, 1] ?_
    refine .rz ?_
    exact ⟨_, by omega, .v ⟨(j + 1), ⟨rfl, ⟨hX.DU (by omega) (C1 (by omega)), by omega, (tL (by omega) (C1 (by omega))).symm.trans hk⟩⟩, rfl⟩⟩
   try simp only [e2]
   have qe2 := fact e2
   refine .k 7 [(5, 16)] ?_
   refine .spl 23 rfl rfl (fun e3 => ?_) (fun e3 => ?_)
   ·try simp only [e3]
    have qe3 := fact e3
    refine .k 8 [(12, 23), (19, 30)] ?_
    refine .m [(19, 30)] ?_
    refine .T ?_
    refine .c7 [0, 1] ?_
    refine .rz ?_
    exact ⟨_, by omega, .v ⟨(j + 1), ⟨rfl, ⟨hX.DU (by omega) (C1 (by omega)), by omega, (tL (by omega) (C1 (by omega))).symm.trans hk⟩⟩, rfl⟩⟩
   try simp only [e3]
   have qe3 := fact e3
   refine .k 7 [(12, 23)] ?_
   refine .spl 30 rfl rfl (fun e4 => ?_) (fun e4 => ?_)
   ·try simp only [e4]
    have qe4 := fact e4
    refine .m [(19, 30)] ?_
    refine .T ?_
    refine .c7 [0, 1] ?_
    refine .rz ?_
    exact ⟨_, by omega, .v ⟨(j + 1), ⟨rfl, ⟨hX.DU (by omega) (C1 (by omega)), by omega, (tL (by omega) (C1 (by omega))).symm.trans hk⟩⟩, rfl⟩⟩
   try simp only [e4]
   have qe4 := fact e4
   refine .m [(19, 30)] ?_
   refine u2z ?_ ?_
   ·intro e5 qe5
    refine .c7 [0, 1] ?_
    refine .rz ?_
    exact ⟨_, by omega, .v ⟨(j + 1), ⟨rfl, ⟨hX.DU (by omega) (C1 (by omega)), by omega, (tL (by omega) (C1 (by omega))).symm.trans hk⟩⟩, rfl⟩⟩
   intro e5 qe5
   refine .c7 [0, 1] ?_
   refine c168z ?_
   refine .spl 45 rfl rfl (fun e6 => ?_) (fun e6 => ?_)
   ·try simp only [e6]
    have qe6 := fact e6
    refine .k 7 [(5, 45)] ?_
    refine .spl 52 rfl rfl (fun e7 => ?_) (fun e7 => ?_)
    ·try simp only [e7]
     have qe7 := fact e7
     refine .m [(12, 52)] ?_
     refine .spl 39 rfl rfl (fun e8 => by exfalso; simp only [beq_iff_eq] at *; exact hX.Y5 (by omega) (by omega) (by omega)) (fun e8 => ?_)
     try simp only [e8]
     have qe8 := fact e8
     refine .F ?_
     refine .c7 [1] ?_
     refine c25z ?_
     exact ⟨[], _, (List.append_nil _).symm, t44, t71⟩
    try simp only [e7]
    have qe7 := fact e7
    refine .m [(12, 52)] ?_
    refine .F ?_
    refine .c7 [1] ?_
    refine c25z ?_
    exact ⟨[], _, (List.append_nil _).symm, t44, t71⟩
   try simp only [e6]
   have qe6 := fact e6
   refine .k 8 [(5, 45), (12, 52)] ?_
   refine .m [(12, 52)] ?_
   refine .F ?_
   refine .c7 [1] ?_
   refine c25z ?_
   exact ⟨[], _, (List.append_nil _).symm, t44, t71⟩
  intro e1 qe1
  refine .exit ?_
  have hje : j = L.length := by omega
  change c8 ..
  refine c25z ?_
  exact ⟨[], _, (List.append_nil _).symm, t44, t71⟩
theorem fill6L : (twoN).length = 6 := rfl
theorem fill6M : (6 ≤ maxLen) = True := by simp; decide
theorem fill17L : (By).length = 17 := rfl
theorem fill17M : (17 ≤ maxLen) = True := by simp; decide
section
attribute [local go_sem] sD dB Option.bind_eq_bind PW PZ QA takeL I6 Nat.add_sub_cancel_left M9 take_one jP jQ fill6L fill6M fill17L fill17M
theorem c_sign0 (L : Bs) (i : Nat) (hi : i < L.length) (hl : L.length < 1000000) : CB 90 [.vec L.length (rR L), .int .i64 (i : Int)] [] (.int .i64 ((sgn L i : Nat) : Int)) := by
  refine .bz Tryz.f90 28 ?_
  refine c18z ?_
  refine c168z ?_
  refine .spl 10 rfl rfl (fun e1 => ?_) (fun e1 => ?_)
  ·try simp only [e1]
   have qe1 := fact e1
   try simp only [jQ, jP, decide_eq_true_eq, decide_eq_false_iff_not] at qe1
   refine .k 7 [(5, 10)] ?_
   refine .ca rfl rfl (Q8 twoN _ rfl (by decide)) ?_
   refine .n ?_
   refine .spl 19 rfl rfl (fun e2 => ?_) (fun e2 => ?_)
   ·try simp only [e2]
    have qe2 := fact e2
    try simp only [jQ, jP, decide_eq_true_eq, decide_eq_false_iff_not] at qe2
    refine .T ?_
    refine c53z ?_
    exact .ret (.ex (hq := t23))
   try simp only [e2]
   have qe2 := fact e2
   try simp only [jQ, jP, decide_eq_true_eq, decide_eq_false_iff_not] at qe2
   refine c198z ?_
   refine .c7 [0, 1] ?_
   refine .s ?_
   refine .e 7 ?_
   refine .ca rfl rfl (Q8 By _ (by first | rfl | simp) (by decide)) ?_
   refine .nil ?_
   refine .spl 27 rfl rfl (fun e3 => ?_) (fun e3 => ?_)
   ·try simp only [e3]
    have qe3 := fact e3
    try simp only [jQ, jP, decide_eq_true_eq, decide_eq_false_iff_not] at qe3
    refine .T ?_
    refine c53z ?_
    exact .ret (.ex (hq := t23))
   try simp only [e3]
   have qe3 := fact e3
   try simp only [jQ, jP, decide_eq_true_eq, decide_eq_false_iff_not] at qe3
   refine c15z ?_
   refine c53z ?_
   exact .ret (.ex (hq := t23))
  try simp only [e1]
  have qe1 := fact e1
  try simp only [jQ, jP, decide_eq_true_eq, decide_eq_false_iff_not] at qe1
  refine .k 8 [(5, 10)] ?_
  refine .n ?_
  refine c198z ?_
  refine .c7 [0, 1] ?_
  refine .s ?_
  refine .e 7 ?_
  refine .ca rfl rfl (Q8 By _ (by first | rfl | simp) (by decide)) ?_
  refine .nil ?_
  refine .spl 27 rfl rfl (fun e4 => ?_) (fun e4 => ?_)
  ·try simp only [e4]
   have qe4 := fact e4
   try simp only [jQ, jP, decide_eq_true_eq, decide_eq_false_iff_not] at qe4
   refine .T ?_
   refine c53z ?_
   exact .ret (.ex (hq := t23))
  try simp only [e4]
  have qe4 := fact e4
  try simp only [jQ, jP, decide_eq_true_eq, decide_eq_false_iff_not] at qe4
  refine c15z ?_
  refine c53z ?_
  exact .ret (.ex (hq := t23))
end
theorem c_sign (L : Bs) (i : Nat) (hi : i < L.length) (hl : L.length < 1000000) : CallA Tryz.prog cfg 90 [.vec L.length (rR L), .int .i64 (i : Int)] h (fun y h' => y = .int .i64 ((sgn L i : Nat) : Int) ∧ h' = h) := C0 rfl ((c_sign0 L i hi hl).mono fun _ _ h => by rw [h.1]; rfl) h
theorem c_numv (l : Bs) (hd : ∀ d ∈ l, isD d = true) (hv : uX l < 9223372036854775808) (hl : l.length < 1000000) : CB 89 [.vec l.length (rR l)] h (.int .i64 ((uX l : Nat) : Int)) := by
  refine CallA.body (Q := fun y' => y' = .int .i64 ((uX l : Nat) : Int)) r9 fn89 rfl ?_
  simp only [ntm89, List.length_cons, List.length_nil, Nat.reduceAdd, Nat.reduceSub, List.replicate, List.cons_append, List.nil_append]
  refine c4z ?_
  refine m7.pre 1 t11 ?_
  refine c3z ?_
  refine c4z ?_
  refine m7.pre 1 t11 ?_
  refine c125z ?_
  refine c4z ?_
  refine m7.pre 1 t11 ?_
  refine c3z ?_
  refine c8.block ?_
  refine c8.dK (fun m st => ∃ (i : Nat), (m = l.length - i ∧ i ≤ l.length) ∧ st = ⟨[.vec l.length (rR l), .any, .any, .int .i64 ((uX (l.take i) : Nat) : Int), .int .i64 ((i : Nat) : Int), .any, .any, .any, .any, .any, .any, .any, .any, .any, .any, .any, .any, .any, .any, .any, .any, .any, .any, .any, .any, .any, .any, .any], h⟩) _ ⟨[.vec l.length (rR l), .any, .any, .int .i64 ((uX (l.take 0) : Nat) : Int), .int .i64 ((0 : Nat) : Int), .any, .any, .any, .any, .any, .any, .any, .any, .any, .any, .any, .any, .any, .any, .any, .any, .any, .any, .any, .any, .any, .any, .any], ⟨(.inl t77), (.inr rfl), (.inr rfl), (.inl t77), (.inl t77), (.inr rfl), (.inr rfl), (.inr rfl), (.inr rfl), (.inr rfl), (.inr rfl), (.inr rfl), (.inr rfl), (.inr rfl), (.inr rfl), (.inr rfl), (.inr rfl), (.inr rfl), (.inr rfl), (.inr rfl), (.inr rfl), (.inr rfl), (.inr rfl), (.inr rfl), (.inr rfl), (.inr rfl), (.inr rfl), (.inr rfl), trivial⟩, 0, ⟨rfl, by omega⟩, rfl⟩ ?_
  rintro m sl h' ⟨i, ⟨hm, hi⟩, hst⟩
  obtain ⟨rfl, rfl⟩ := St.mk.inj hst
  refine c8.seq ?_
  refine c4z ?_
  refine m7.pre 4 t11 ?_
  refine c3z ?_
  refine c8.split 9 rfl (fun e1 => ?_) (fun e1 => ?_)
  · try simp only [e1]
    have qe1 := e1; try replace qe1 := s8z qe1
    refine c8.wT rfl ?_
    refine c66z ?_
    refine c8.seq ?_
    refine c8.block ?_
    refine c8.seq ?_
    have hdd := valD_nn (i := i) (by omega) hd
    have hvt := B9 (l := l) (k := i) (by omega)
    have hvm := DX (l := l) (k := i + 1) (m := l.length) (by omega)
    rw [List.take_length] at hvm
    have htd : (9223372036854775807 - (((bat l i).toNat : Int) - 48)).tdiv 10 = (9223372036854775807 - (((bat l i).toNat : Int) - 48)) / 10 := Int.tdiv_eq_ediv_of_nonneg (by omega)
    have htd2 : ((9223372036854775807 - (((bat l i).toNat : Int) - 48)).tdiv 10 : Int) < 9223372036854775808 ∧ 0 ≤ (9223372036854775807 - (((bat l i).toNat : Int) - 48)).tdiv 10 := by rw [htd]; omega
    refine c8.region r9 ?_
    refine m7.pre 7 t11 ?_
    refine c125z ?_
    refine c4z ?_
    refine m7.pre 5 t11 ?_
    refine c3z ?_
    refine c8.split 22 rfl (fun e2 => ?_) (fun e2 => ?_)
    · exfalso; rw [htd] at e2; simp only [decide_eq_true_eq, gt_iff_lt] at e2; omega
    · try simp only [e2]
      have qe2 := e2; try replace qe2 := s8z qe2
      refine c96z ?_
      refine c8.region r9 ?_
      refine m7.pre 5 t11 ?_
      refine c3z ?_
      refine c8.region r9 ?_
      refine m7.pre 3 t11 ?_
      refine m7.nil ?_
      exact ⟨l.length - (i + 1), by omega, [.vec l.length (rR l), .any, .any, .int .i64 ((uX (l.take (i + 1)) : Nat) : Int), .int .i64 (((i + 1) : Nat) : Int), .any, .any, .any, .any, .any, .any, .any, .any, .any, .any, .any, .any, .any, .any, .any, .any, .any, .any, .any, .any, .any, .any, .any], ⟨(.inl t77), (.inr rfl), (.inr rfl), (.inl t77), (.inl t77), (.inr rfl), (.inr rfl), (.inr rfl), (.inr rfl), (.inr rfl), (.inr rfl), (.inr rfl), (.inr rfl), (.inr rfl), (.inr rfl), (.inr rfl), (.inr rfl), (.inr rfl), (.inr rfl), (.inr rfl), (.inr rfl), (.inr rfl), (.inr rfl), (.inr rfl), (.inr rfl), (.inr rfl), (.inr rfl), (.inr rfl), trivial⟩, (i + 1), ⟨rfl, by omega⟩, rfl⟩
  · try simp only [e1]
    have qe1 := e1; try replace qe1 := s8z qe1
    refine c8.W2 rfl ?_
    refine c8.exit ?_
    obtain rfl : i = l.length := by omega
    rw [List.take_length] at *
    change c8 _ _ _ _ _
    refine c4z ?_
    refine m7.pre 2 t11 ?_
    refine c63z ?_
    refine Ends.mk (by simp only [res89, uZ, iL, kI]; first | rfl | (simp (maxSteps := 2000000) (disch := omega) only [go_sem, Nat.reduceBEq, Nat.reduceAdd, Nat.reduceSub, Nat.reduceLeDiff, Nat.reduceMul, reduceIte, reduceCtorEq, Int.reduceNeg, Int.reduceToNat, Nat.reduceLT, Int.reduceLE, Int.reduceLT, Int.reduceAdd, Int.reduceSub, Int.reduceMul, qA, if_false, show ((10 : Int) = 0) = False from by simp, if_pos, if_neg]; rfl)) ?_
    exact ⟨[], _, (List.append_nil _).symm, t44, by rfl⟩
theorem app_tok {a : Blk} {l : c6} {zs : List AV} {x y z u : AV} (hz : zs.length = n * 4) (hn : n < 10000) : j4 cfg 133 (p6 133 4 g zs :: a :: ⟨0, false, 133, 4, [x, y, z, u], 0⟩ :: l) (.own 0 g 0 n) (.own 2 0 0 1) = some (.own 0 (g + 1) 0 (n + 1), p6 133 4 (g + 1) (zs ++ [x, y, z, u]) :: a :: ⟨0, false, 133, 4, [x, y, z, u], 0⟩ :: l) := by
  rw [z8 (C := cfg) (K := 4) (m := 1) (new := [x, y, z, u]) (zs := zs) rfl rfl (by omega) hz rfl (by omega) t93 rfl (by decide) (by omega)]
  rfl
theorem KY {l : c6} {zs : List AV} {x y z u : AV} (hz : zs.length = n * 4) (hn : n < 10000) : j4 cfg 133 (p6 133 4 g zs :: ⟨0, false, 133, 4, [x, y, z, u], 0⟩ :: l) (.own 0 g 0 n) (.own 1 0 0 1) = some (.own 0 (g + 1) 0 (n + 1), p6 133 4 (g + 1) (zs ++ [x, y, z, u]) :: ⟨0, false, 133, 4, [x, y, z, u], 0⟩ :: l) := by
  rw [z8 (C := cfg) (K := 4) (m := 1) (new := [x, y, z, u]) (zs := zs) rfl rfl (by omega) hz rfl (by omega) t93 rfl (by decide) (by omega)]
  rfl
theorem nZ {k n p : Int} : w6 [.int .i64 k, .str s, .int .i64 n, .int .i64 p] := w6.cons .int (w6.cons .str (w6.cons .int (w6.cons .int .nil)))
theorem jR {a b : List AV} (h : w6 a) (h' : w6 b) : w6 (a ++ b) := fun x hx => (List.mem_append.1 hx).elim (h x) (h' x)
theorem QC (hs : Span L isD i e) (hv : uX ((L.drop i).take (e - i)) < 9223372036854775808) (hl : L.length < 1000000) : CallA Tryz.prog cfg 89 [.vec (e - i) (rR ((L.drop i).take (e - i)))] h (fun y h' => y = .int .i64 ((uX ((L.drop i).take (e - i)) : Nat) : Int) ∧ h' = h) := by
  have hle := hs.le
  have e1 : e - i = ((L.drop i).take (e - i)).length := by rw [List.length_take, List.length_drop]; omega
  have := c_numv (h := h) _ (spanD hs) hv (by omega)
  rwa [← e1] at this
section
attribute [local go_sem] sD dB Option.bind_eq_bind PW PZ QA takeL I6 Nat.add_sub_cancel_left app_tok KY take_one B5 xR wrap64 uY
theorem c_lex0 (L : Bs) (N : Nat) (hx : LX (L.drop 0) N) (hN : N ≤ 4000) (hl : L.length ≤ 262144) : CallA Tryz.prog cfg 57 [.vec L.length (rR L)] [] (fun y' h' => RZ y' = .tup [.any, .int .i64 L.length, .int .i64 0] ∧ h' = []) := by
  refine .bz Tryz.f57 124 ?_
  have hs0 := xT rfl hx (by omega)
  refine c83z ?_
  refine .spl 11 rfl rfl (fun e1 => by exfalso; simp only [decide_eq_true_eq, gt_iff_lt] at e1; omega) (fun e1 => ?_)
  try simp only [e1]
  have qe1 := fact e1
  refine c15z ?_
  refine c127z ?_
  refine .ca rfl rfl (QB L 0 N hx (by omega) (by omega)) ?_
  refine c144z ?_
  refine c8.G6 5 rfl ?_
  refine .aP (fun m st => ∃ (q : Nat) (k : Nat) (n : Nat) (zs : List AV), (m = L.length - q ∧ (k + n ≤ 4000 ∧ LX (L.drop q) n ∧ q ≤ L.length ∧ (q < L.length → uW (bat L q) = false) ∧ zs.length = k * 4 ∧ w6 zs)) ∧ st = ⟨mkS 124 [(0, AV.vec L.length (rR L)), (5, AV.own 0 k 0 k), (6, AV.int .i64 ((q : Nat) : Int))], [p6 133 4 k zs]⟩) (.v ⟨(sk L 0), 0, N, [], ⟨rfl, ⟨by omega, hs0.2.2.1, hs0.2.1, hs0.2.2.2, rfl, w6.nil⟩⟩, rfl⟩) ?_
  rintro m sl h' ⟨q, k, n, zs, ⟨hm, ⟨hkn, hX, hq, hsp, hz, hpl⟩⟩, hst⟩
  obtain ⟨rfl, rfl⟩ := St.mk.inj hst; clear hst
  refine .sb ?_
  refine c0z ?_
  refine u2z ?_ ?_
  ·intro e2 qe2
   refine c208z ?_
   refine c6z ?_
   exact ⟨_, _, rfl, by (show iF 0 _ 6 (.tup [.own 0 (k + 1) 0 (k + 1), .int .i64 ((q : Nat) : Int), .int .i64 0]) = _; simp only [nO, dV, nP, o5, Nat.not_lt_zero, if_false]; rw [iQ (e := 133) (K := 4) (g := k + 1) (zs := zs ++ _) rfl (by decide) t75 (by omega) (w6.frz (jR hpl nZ) _ _ _)]; rfl), by rw [show q = L.length from by omega]; rfl⟩
  intro e2 qe2
  refine .sk ?_
  refine c195z ?_
  refine .sb ?_
  have hsp' := hsp (by omega)
  refine c39z ?_
  refine .ca rfl rfl (xU _) ?_
  refine .n ?_
  refine u2z ?_ ?_
  ·intro e3 qe3
   refine .sb ?_
   obtain ⟨ee, mm, hspn, hle16, hnm, hX2⟩ := hX.DV (by omega) (by assumption)
   have hlt := hspn.lt
   refine .aP (fun m st => ∃ (j : Nat), (m = ee - j ∧ (q ≤ j ∧ j ≤ ee)) ∧ st = ⟨mkS 124 [(0, AV.vec L.length (rR L)), (5, AV.own 0 k 0 k), (6, AV.int .i64 ((q : Nat) : Int)), (7, AV.ptr 1 0 0), (8, AV.int .i64 ((j : Nat) : Int))], [p6 133 4 k zs, ⟨0, false, 133, 4, [.int .i64 0, .str ByteArray.empty, .int .i64 0, .int .i64 ((q : Nat) : Int)], 0⟩]⟩) (.v ⟨q, ⟨rfl, ⟨Nat.le_refl _, Nat.le_of_lt hspn.lt⟩⟩, rfl⟩) ?_
   rintro m sl h' ⟨j, ⟨hm, ⟨hj1, hj2⟩⟩, hst⟩
   obtain ⟨rfl, rfl⟩ := St.mk.inj hst; clear hst
   have hle := hspn.le
   refine .seq ?_
   refine c22z ?_
   refine .spl 50 rfl rfl (fun e4 => ?_) (fun e4 => ?_)
   ·try simp only [e4]
    have qe4 := fact e4
    refine .k 4 [(4, 50)] ?_
    refine .ca rfl rfl (xU _) ?_
    refine .k 1 [(4, 50)] ?_
    refine .spl 56 rfl rfl (fun e5 => ?_) (fun e5 => ?_)
    ·try simp only [e5]
     have qe5 := fact e5
     refine .m [(4, 50), (10, 56)] ?_
     refine .T ?_
     refine c186z ?_
     refine .c7 [0, 5, 6, 7, 8] ?_
     refine .rz ?_
     have hje := I7 hspn hj2 (by omega) t168
     exact ⟨_, by omega, .v ⟨(j + 1), ⟨rfl, ⟨by omega, by omega⟩⟩, rfl⟩ (he := t155)⟩
    try simp only [e5]
    have qe5 := fact e5
    refine .k 4 [(10, 56)] ?_
    refine .ca rfl rfl (xV _) ?_
    refine .m [(4, 50)] ?_
    refine u2z ?_ ?_
    ·intro e6 qe6
     refine c186z ?_
     refine .c7 [0, 5, 6, 7, 8] ?_
     refine .rz ?_
     have hje := I7 hspn hj2 (by omega) t168
     exact ⟨_, by omega, .v ⟨(j + 1), ⟨rfl, ⟨by omega, by omega⟩⟩, rfl⟩ (he := t155)⟩
    intro e6 qe6
    refine .exit ?_
    have hje : ee = j := (rT hspn hj1 hj2 (fun hlt => by first | omega | assumption | simp_all [isW])).symm
    subst hje
    change c8 ..
    refine c81z ?_
    refine c22z ?_
    refine .ca rfl rfl (TJ _) ?_
    refine .nil ?_
    refine u2z ?_ ?_
    ·intro e7 qe7
     refine c1z ?_
     refine .seq ?_
     refine c81z ?_
     refine .spl 111 rfl rfl (fun e8 => by exfalso; simp only [beq_iff_eq] at e8; omega) (fun e8 => ?_)
     try simp only [e8]
     have qe8 := fact e8
     refine c211z ?_
     have hs1 := xT rfl hX2 (by omega)
     exact ⟨_, by omega, .v ⟨(sk L ee), (k + 1), mm, (zs ++ [.int .i64 _, .str _, .int .i64 _, .int .i64 ((q : Nat) : Int)]), ⟨rfl, ⟨by omega, hs1.2.2.1, hs1.2.1, hs1.2.2.2, t75, jR hpl nZ⟩⟩, rfl⟩ (he := by rfl) (hk := t48)⟩
    intro e7 qe7
    refine .z ?_
    refine .spl 77 rfl rfl (fun e9 => by exfalso; simp only [decide_eq_true_eq, gt_iff_lt] at e9; omega) (fun e9 => ?_)
    try simp only [e9]
    have qe9 := fact e9
    refine c200z ?_
    refine c81z ?_
    refine .spl 111 rfl rfl (fun e10 => by exfalso; simp only [beq_iff_eq] at e10; omega) (fun e10 => ?_)
    try simp only [e10]
    have qe10 := fact e10
    refine c211z ?_
    have hs1 := xT rfl hX2 (by omega)
    exact ⟨_, by omega, .v ⟨(sk L ee), (k + 1), mm, (zs ++ [.int .i64 _, .str _, .int .i64 _, .int .i64 ((q : Nat) : Int)]), ⟨rfl, ⟨by omega, hs1.2.2.1, hs1.2.1, hs1.2.2.2, t75, jR hpl nZ⟩⟩, rfl⟩ (he := by rfl) (hk := t48)⟩
   try simp only [e4]
   have qe4 := fact e4
   refine .k 8 [(4, 50), (10, 56)] ?_
   refine .m [(4, 50), (10, 56)] ?_
   refine c235z ?_
   have hje : ee = j := (rT hspn hj1 hj2 (fun hlt => by first | omega | assumption | simp_all [isW])).symm
   subst hje
   change c8 ..
   refine c81z ?_
   refine c22z ?_
   refine .ca rfl rfl (TJ _) ?_
   refine .nil ?_
   refine u2z ?_ ?_
   ·intro e11 qe11
    refine c1z ?_
    refine .seq ?_
    refine c81z ?_
    refine .spl 111 rfl rfl (fun e12 => by exfalso; simp only [beq_iff_eq] at e12; omega) (fun e12 => ?_)
    try simp only [e12]
    have qe12 := fact e12
    refine c211z ?_
    have hs1 := xT rfl hX2 (by omega)
    exact ⟨_, by omega, .v ⟨(sk L ee), (k + 1), mm, (zs ++ [.int .i64 _, .str _, .int .i64 _, .int .i64 ((q : Nat) : Int)]), ⟨rfl, ⟨by omega, hs1.2.2.1, hs1.2.1, hs1.2.2.2, t75, jR hpl nZ⟩⟩, rfl⟩ (he := by rfl) (hk := t48)⟩
   intro e11 qe11
   refine .z ?_
   refine .spl 77 rfl rfl (fun e13 => by exfalso; simp only [decide_eq_true_eq, gt_iff_lt] at e13; omega) (fun e13 => ?_)
   try simp only [e13]
   have qe13 := fact e13
   refine c200z ?_
   refine c81z ?_
   refine .spl 111 rfl rfl (fun e14 => by exfalso; simp only [beq_iff_eq] at e14; omega) (fun e14 => ?_)
   try simp only [e14]
   have qe14 := fact e14
   refine c211z ?_
   have hs1 := xT rfl hX2 (by omega)
   exact ⟨_, by omega, .v ⟨(sk L ee), (k + 1), mm, (zs ++ [.int .i64 _, .str _, .int .i64 _, .int .i64 ((q : Nat) : Int)]), ⟨rfl, ⟨by omega, hs1.2.2.1, hs1.2.1, hs1.2.2.2, t75, jR hpl nZ⟩⟩, rfl⟩ (he := by rfl) (hk := t48)⟩
  intro e3 qe3
  refine .c7 [0, 5, 6, 7, 8] ?_
  refine c39z ?_
  refine .ca rfl rfl (xV _) ?_
  refine .n ?_
  refine u2z ?_ ?_
  ·intro e15 qe15
   refine .sb ?_
   obtain ⟨ee, mm, hspn, hvv, hnm, hX2⟩ := hX.KW (by omega) (by assumption)
   have hlt := hspn.lt
   refine .aP (fun m st => ∃ (j : Nat), (m = ee - j ∧ (q ≤ j ∧ j ≤ ee)) ∧ st = ⟨mkS 124 [(0, AV.vec L.length (rR L)), (5, AV.own 0 k 0 k), (6, AV.int .i64 ((q : Nat) : Int)), (7, AV.ptr 1 0 0), (8, AV.int .i64 ((j : Nat) : Int))], [p6 133 4 k zs, ⟨0, false, 133, 4, [.int .i64 0, .str ByteArray.empty, .int .i64 0, .int .i64 ((q : Nat) : Int)], 0⟩]⟩) (.v ⟨q, ⟨rfl, ⟨Nat.le_refl _, Nat.le_of_lt hspn.lt⟩⟩, rfl⟩) ?_
   rintro m sl h' ⟨j, ⟨hm, ⟨hj1, hj2⟩⟩, hst⟩
   obtain ⟨rfl, rfl⟩ := St.mk.inj hst; clear hst
   have hle := hspn.le
   refine .seq ?_
   refine c22z ?_
   refine .spl 89 rfl rfl (fun e16 => ?_) (fun e16 => ?_)
   ·try simp only [e16]
    have qe16 := fact e16
    refine .k 4 [(4, 89)] ?_
    refine .ca rfl rfl (xV _) ?_
    refine .n ?_
    refine u2z ?_ ?_
    ·intro e17 qe17
     refine c186z ?_
     refine .c7 [0, 5, 6, 7, 8] ?_
     refine .rz ?_
     have hje := I7 hspn hj2 (by omega) t168
     exact ⟨_, by omega, .v ⟨(j + 1), ⟨rfl, ⟨by omega, by omega⟩⟩, rfl⟩ (he := t155)⟩
    intro e17 qe17
    refine .exit ?_
    have hje : ee = j := (rT hspn hj1 hj2 (fun hlt => by first | omega | assumption | simp_all [isW])).symm
    subst hje
    change c8 ..
    refine .c7 [0, 5, 6, 7, 8] ?_
    refine c39z ?_
    refine .ca rfl rfl (QC hspn hvv (by omega)) ?_
    refine .n ?_
    refine .z ?_
    refine .spl 107 rfl rfl (fun e18 => by exfalso; simp only [decide_eq_true_eq] at e18; omega) (fun e18 => ?_)
    try simp only [e18]
    have qe18 := fact e18
    refine c200z ?_
    refine c81z ?_
    refine .spl 111 rfl rfl (fun e19 => by exfalso; simp only [beq_iff_eq] at e19; omega) (fun e19 => ?_)
    try simp only [e19]
    have qe19 := fact e19
    refine c211z ?_
    have hs1 := xT rfl hX2 (by omega)
    exact ⟨_, by omega, .v ⟨(sk L ee), (k + 1), mm, (zs ++ [.int .i64 _, .str _, .int .i64 _, .int .i64 ((q : Nat) : Int)]), ⟨rfl, ⟨by omega, hs1.2.2.1, hs1.2.1, hs1.2.2.2, t75, jR hpl nZ⟩⟩, rfl⟩ (he := by rfl) (hk := t48)⟩
   try simp only [e16]
   have qe16 := fact e16
   refine .m [(4, 89)] ?_
   refine c235z ?_
   have hje : ee = j := (rT hspn hj1 hj2 (fun hlt => by first | omega | assumption | simp_all [isW])).symm
   subst hje
   change c8 ..
   refine .c7 [0, 5, 6, 7, 8] ?_
   refine c39z ?_
   refine .ca rfl rfl (QC hspn hvv (by omega)) ?_
   refine .n ?_
   refine .z ?_
   refine .spl 107 rfl rfl (fun e20 => by exfalso; simp only [decide_eq_true_eq] at e20; omega) (fun e20 => ?_)
   try simp only [e20]
   have qe20 := fact e20
   refine c200z ?_
   refine c81z ?_
   refine .spl 111 rfl rfl (fun e21 => by exfalso; simp only [beq_iff_eq] at e21; omega) (fun e21 => ?_)
   try simp only [e21]
   have qe21 := fact e21
   refine c211z ?_
   have hs1 := xT rfl hX2 (by omega)
   exact ⟨_, by omega, .v ⟨(sk L ee), (k + 1), mm, (zs ++ [.int .i64 _, .str _, .int .i64 _, .int .i64 ((q : Nat) : Int)]), ⟨rfl, ⟨by omega, hs1.2.2.1, hs1.2.1, hs1.2.2.2, t75, jR hpl nZ⟩⟩, rfl⟩ (he := by rfl) (hk := t48)⟩
  intro e15 qe15
  obtain ⟨hsg1, hsg2, mm, hnm, hX2⟩ := hX.DW (by omega) hsp' (by first | assumption | simp_all) (by first | assumption | simp_all)
  refine c19z ?_
  refine .ca rfl rfl (c_sign L q (by omega) (by omega)) ?_
  refine .n ?_
  refine c81z ?_
  refine .z ?_
  refine .spl 38 rfl rfl (fun e22 => by exfalso; simp only [beq_iff_eq] at e22; omega) (fun e22 => ?_)
  try simp only [e22]
  have qe22 := fact e22
  refine c42z ?_
  refine c0z ?_
  refine .spl 111 rfl rfl (fun e23 => by exfalso; simp only [beq_iff_eq] at e23; omega) (fun e23 => ?_)
  try simp only [e23]
  have qe23 := fact e23
  refine c211z ?_
  have hs1 := xT rfl hX2 (by omega)
  exact ⟨_, by omega, .v ⟨(sk L (q + sgn L q)), (k + 1), mm, (zs ++ [.int .i64 _, .str _, .int .i64 _, .int .i64 ((q : Nat) : Int)]), ⟨rfl, ⟨by omega, hs1.2.2.1, hs1.2.1, hs1.2.2.2, t75, jR hpl nZ⟩⟩, rfl⟩ (he := by rfl) (hk := t48)⟩
end
end Go.Proofs.YtfbjlfhjkojmkaaGreat
end
section
namespace Go.Proofs.YtfbjlfhjkojmkaaGreat
open Go.Ab Go.Un
theorem wrapU {n : Int} (h1 : 0 ≤ n) (h2 : n < 18446744073709551616) : IntKind.wrap .u64 n = n := by
  rw [IntKind.wrap_u64]; omega
theorem C2 : ∀ (f n : Nat), n < 10 ^ f → 0 < f → vC (f + 1) n = vC f n
  | 0, n, h, hf => by omega
  | f + 1, n, h, _ => by
    have e : vC (f + 1 + 1) n = if n < 10 then [dig n] else vC (f + 1) (n / 10) ++ [dig n] := rfl
    have e2 : vC (f + 1) n = if n < 10 then [dig n] else vC f (n / 10) ++ [dig n] := rfl
    rw [e, e2]
    split
    · rfl
    · rename_i hn
      have h1 : n / 10 < 10 ^ f := by rw [Nat.pow_succ] at h; omega
      cases f with
      | zero => simp at h1; omega
      | succ f => rw [C2 (f + 1) (n / 10) h1 (by omega)]
theorem C3 {n : Nat} (h : n < 10000000000000000000) (h0 : 0 < n / 10) : vM n = vM (n / 10) ++ [dig n] := by
  have e2 : vM n = if n < 10 then [dig n] else vC 19 (n / 10) ++ [dig n] := rfl
  rw [e2, if_neg (by omega)]
  unfold vM
  rw [C2 19 (n / 10) (by omega) (by omega)]
theorem vS {n : Nat} (h : n < 10) : vM n = [dig n] := by
  have e2 : vM n = if n < 10 then [dig n] else vC 19 (n / 10) ++ [dig n] := rfl
  rw [e2, if_pos h]
def YJ (n : Nat) (s : Bs) : Bs := if n = 0 then s else vM n ++ s
theorem Y7 {n : Nat} (h : n < 10000000000000000000) : YJ (n / 10) [dig n] = vM n := by
  unfold YJ
  split
  · rw [vS (by omega)]
  · rw [C3 h (by omega)]
variable {s : Bs}
theorem EA {n : Nat} (h : n < 10000000000000000000) (h0 : 0 < n) : YJ (n / 10) (dig n :: s) = YJ n s := by
  unfold YJ
  rw [if_neg (by omega : ¬ n = 0)]
  split
  · rw [vS (by omega)]; rfl
  · rw [C3 h (by omega)]; simp
theorem EB {n : Nat} : UInt8.ofNat (((48 : Int) + (((n % 10 : Nat)) : Int)).toNat) = dig n := by
  unfold dig
  congr 1
theorem QD {n : Nat} : ((n : Int)).tmod 10 = ((n % 10 : Nat) : Int) := rfl
theorem QE {n : Nat} : ((n : Int)).tdiv 10 = ((n / 10 : Nat) : Int) := rfl
theorem QF {a : UInt8} : (⟨#[a]⟩ : BA) ++ (⟨s.toArray⟩ : BA) = ⟨(a :: s).toArray⟩ := by
  apply ByteArray.ext
  simp [ByteArray.data_append]
theorem EC : (⟨s.toArray⟩ : BA).size = s.length := by rw [jK]; rfl
attribute [local go_sem] lU w9 m8 aQ m6 Int.natCast_nonneg Int.natCast_inj List.length_map wrap64 Y6 wrapU eN Q4 B5 H8 Q5 xR max2 kP
theorem KZ {n m : Nat} (h : n * 10 ^ s.length ≤ m) : n / 10 * 10 ^ (dig n :: s).length ≤ m := by
  rw [List.length_cons, Nat.pow_succ, Nat.mul_comm (10 ^ s.length), ← Nat.mul_assoc]
  exact Nat.le_trans (Nat.mul_le_mul_right _ (Nat.div_mul_le_self n 10)) h
theorem LA {n m : Nat} (h0 : 0 < n) (h : n * 10 ^ s.length ≤ m) (hm : m < 10000000000000000000) : (dig n :: s).length ≤ 20 := by
  rw [List.length_cons]
  by_cases hs : s.length + 1 ≤ 20
  · exact hs
  · have h1 : 10 ^ 20 ≤ 10 ^ s.length := Nat.pow_le_pow_right (by omega) (by omega)
    have h2 : 1 * 10 ^ s.length ≤ n * 10 ^ s.length := Nat.mul_le_mul_right _ h0
    omega
theorem c_dig0 (m0 : Nat) (hm0 : m0 < 10000000000000000000) : CB 120 [.int .u64 (m0 : Int)] [] (.str ⟨(vM m0).toArray⟩) := by
  refine CallA.body (Q := fun y' => y' = .str ⟨(vM m0).toArray⟩) r9 fn120 rfl ?_
  simp only [ntm120, List.length_cons, List.length_nil, Nat.reduceAdd, Nat.reduceSub, List.replicate, List.cons_append, List.nil_append]
  refine c4z ?_
  refine m7.pre 1 t12 ?_
  refine c3z ?_
  refine c4z ?_
  refine m7.pre 7 t12 ?_
  refine c125z ?_
  refine c4z ?_
  refine m7.pre 3 t12 ?_
  refine c3z ?_
  refine c8.block ?_
  refine c8.w7 ([⟨0, false, 5, 1, [.int .u8 (48 + ((m0 % 10 : Nat) : Int))], 0⟩]) t157 ?_
  refine c8.loopW (fun m st => ∃ (n : Nat) (s : Bs), (m = n ∧ (n < 10000000000000000000 ∧ YJ n s = vM m0 ∧ s.length ≤ 20 ∧ n * 10 ^ s.length ≤ m0)) ∧ st = ⟨[.int .u64 ((n : Nat) : Int), .any, .any, .str ⟨s.toArray⟩, .any, .any, .any, .any, .any, .any, .any, .any, .any, .any, .any, .any, .any, .any, .any, .any, .any, .any, .any, .any, .any], [⟨0, false, 5, 1, [.int .u8 (48 + ((m0 % 10 : Nat) : Int))], 0⟩]⟩) ((m0 / 10)) ⟨[.int .u64 (((m0 / 10) : Nat) : Int), .any, .any, .str ⟨[dig m0].toArray⟩, .any, .any, .any, .any, .any, .any, .any, .any, .any, .any, .any, .any, .any, .any, .any, .any, .any, .any, .any, .any, .any], [⟨0, false, 5, 1, [.int .u8 (48 + ((m0 % 10 : Nat) : Int))], 0⟩], [], (List.append_nil _).symm, Nat.le_refl _, z5.refl _, ⟨(.inl t154), (.inr rfl), (.inr rfl), (.inl t154), (.inr rfl), (.inr rfl), (.inr rfl), (.inr rfl), (.inr rfl), (.inr rfl), (.inr rfl), (.inr rfl), (.inr rfl), (.inr rfl), (.inr rfl), (.inr rfl), (.inr rfl), (.inr rfl), (.inr rfl), (.inr rfl), (.inr rfl), (.inr rfl), (.inr rfl), (.inr rfl), (.inr rfl), trivial⟩, fC.get ⟨t3, t3, t3, t3, t3, t3, t3, t3, t3, t3, t3, t3, t3, t3, t3, t3, t3, t3, t3, t3, t3, t3, t3, t3, t3, trivial⟩, (m0 / 10), [dig m0], ⟨rfl, ⟨by omega, Y7 hm0, by simp, t53⟩⟩, rfl⟩ ?_
  rintro m sl h' ⟨n, s, ⟨hm, ⟨hn, hP, hs, hM⟩⟩, hst⟩
  obtain ⟨rfl, rfl⟩ := St.mk.inj hst; clear hst
  refine c8.seq ?_
  refine c4z ?_
  refine m7.pre 2 t12 ?_
  refine c3z ?_
  refine c8.split 13 rfl (fun e1 => ?_) (fun e1 => ?_)
  · try simp only [e1]
    have qe1 := e1; try replace qe1 := s8z qe1
    refine c8.wT rfl ?_
    refine c66z ?_
    refine c8.seq ?_
    refine c8.block ?_
    refine c8.region r9 ?_
    refine m7.pre 9 t12 ?_
    refine c3z ?_
    refine c8.region r9 ?_
    refine m7.pre 3 t12 ?_
    refine m7.nil ?_
    have hP2 := (EA (s := s) hn (by omega)).trans hP
    exact ⟨(n / 10), by omega, [.int .u64 (((n / 10) : Nat) : Int), .any, .any, .str ⟨(dig n :: s).toArray⟩, .any, .any, .any, .any, .any, .any, .any, .any, .any, .any, .any, .any, .any, .any, .any, .any, .any, .any, .any, .any, .any], [⟨0, false, 5, 1, [.int .u8 (48 + ((m0 % 10 : Nat) : Int))], 0⟩], _, by rfl, by simp, by exact z5.refl _, ⟨(.inl t154), (.inr rfl), (.inr rfl), (.inl t154), (.inr rfl), (.inr rfl), (.inr rfl), (.inr rfl), (.inr rfl), (.inr rfl), (.inr rfl), (.inr rfl), (.inr rfl), (.inr rfl), (.inr rfl), (.inr rfl), (.inr rfl), (.inr rfl), (.inr rfl), (.inr rfl), (.inr rfl), (.inr rfl), (.inr rfl), (.inr rfl), (.inr rfl), trivial⟩, fC.get ⟨t3, t3, t3, t3, t3, t3, t3, t3, t3, t3, t3, t3, t3, t3, t3, t3, t3, t3, t3, t3, t3, t3, t3, t3, t3, trivial⟩, (n / 10), (dig n :: s), ⟨rfl, ⟨by omega, hP2, LA (by omega) hM hm0, KZ hM⟩⟩, rfl⟩
  · try simp only [e1]
    have qe1 := e1; try replace qe1 := s8z qe1
    refine c8.W2 rfl ?_
    refine c8.exit ?_
    change c8 _ _ _ _ _
    refine c4z ?_
    refine m7.pre 2 t12 ?_
    refine c63z ?_
    refine Ends.mk (by simp only [PL, uZ, iL, kI]; first | rfl | (simp (maxSteps := 2000000) (disch := omega) only [go_sem, Nat.reduceBEq, Nat.reduceAdd, Nat.reduceSub, Nat.reduceLeDiff, Nat.reduceMul, reduceIte, reduceCtorEq, Int.reduceNeg, Int.reduceToNat, Nat.reduceLT, Int.reduceLE, Int.reduceLT, Int.reduceAdd, Int.reduceSub, Int.reduceMul, QD, QE, EB, gS, rd, QF, EC, show ((10 : Int) = 0) = False from by simp, show (⟨#[dig m0]⟩ : BA) = ⟨[dig m0].toArray⟩ from rfl, qA, if_pos, if_neg]; rfl)) ?_
    exact ⟨_, _, (by first | rfl | exact (List.append_nil _).symm | (simp only [List.append_assoc, List.cons_append, List.nil_append]; rfl)), by first | rfl | (simp only [iF, kD, o5, r7, gX]; rfl), by (rw [← hP, show n = 0 from by omega]; rfl)⟩
variable {h : c6}
theorem LB (n : Nat) (hn : n < 10000000000000000000) : CallA Tryz.prog cfg 120 [.int .u64 (n : Int)] h (fun y h' => y = .str ⟨(vM n).toArray⟩ ∧ h' = h) := C0 rfl ((c_dig0 n hn).mono fun _ _ h => by rw [h.1]; rfl) h
theorem C4 (n : Int) (h0 : 0 ≤ n) (hn : n < 10000000000000000000) : CallA Tryz.prog cfg 120 [.int .u64 n] h (fun y h' => y = .str ⟨(vM n.toNat).toArray⟩ ∧ h' = h) := by
  have := LB (h := h) n.toNat (by omega)
  rwa [Int.toNat_of_nonneg h0] at this
theorem c_num (n : Int) (h1 : -9000000000000000000 ≤ n) (h2 : n < 9000000000000000000) : CB 105 [.int .i64 n] h (.str (X8 n)) := by
  refine CallA.body (Q := fun y' => y' = .str (X8 n)) r9 fn105 rfl ?_
  simp only [ntm105, List.length_cons, List.length_nil, Nat.reduceAdd, Nat.reduceSub, List.replicate, List.cons_append, List.nil_append]
  have hs1 : (vM (-(n + 1) + 1).toNat).length ≤ 20 := rJ 20 _
  refine c4z ?_
  refine m7.pre 1 t14 ?_
  refine c125z ?_
  refine c4z ?_
  refine m7.pre 2 t14 ?_
  refine c3z ?_
  refine c8.split 4 rfl (fun e1 => ?_) (fun e1 => ?_)
  · try simp only [e1]
    have qe1 := e1; try replace qe1 := s8z qe1
    refine c8.wT rfl ?_
    refine c4z ?_
    refine m7.pre 5 t14 ?_
    refine m7.RQ rfl rfl rfl hb120 (C4 _ (by omega) (by omega)) ?_
    refine m7.pre 2 t14 ?_
    refine c63z ?_
    refine Ends.mk t60 ?_
    exact ⟨[], _, (List.append_nil _).symm, t44, t118⟩
  · try simp only [e1]
    have qe1 := e1; try replace qe1 := s8z qe1
    refine c183z ?_
    refine m7.pre 2 t14 ?_
    refine m7.RQ rfl rfl rfl hb120 (C4 _ (by omega) (by omega)) ?_
    refine m7.pre 1 t14 ?_
    refine c63z ?_
    refine Ends.mk t60 ?_
    exact ⟨[], _, (List.append_nil _).symm, t44, t118⟩
theorem strE1 : o8 cfg jI 20 126 [.int .i64 1] [] = some (.int .i64 6, []) := by kernel_rfl
theorem strE2 : o8 cfg jI 20 126 [.int .i64 2] [] = some (.int .i64 6, []) := by kernel_rfl
theorem strE3 : o8 cfg jI 20 126 [.int .i64 3] [] = some (.int .i64 5, []) := by kernel_rfl
theorem strE4 : o8 cfg jI 20 126 [.int .i64 4] [] = some (.int .i64 5, []) := by kernel_rfl
theorem strE5 : o8 cfg jI 20 126 [.int .i64 5] [] = some (.int .i64 4, []) := by kernel_rfl
theorem strE6 : o8 cfg jI 20 126 [.int .i64 6] [] = some (.int .i64 4, []) := by kernel_rfl
theorem strE7 : o8 cfg jI 20 126 [.int .i64 7] [] = some (.int .i64 4, []) := by kernel_rfl
theorem strE8 : o8 cfg jI 20 126 [.int .i64 8] [] = some (.int .i64 3, []) := by kernel_rfl
theorem strE9 : o8 cfg jI 20 126 [.int .i64 9] [] = some (.int .i64 3, []) := by kernel_rfl
theorem strE10 : o8 cfg jI 20 126 [.int .i64 10] [] = some (.int .i64 2, []) := by kernel_rfl
theorem strE11 : o8 cfg jI 20 126 [.int .i64 11] [] = some (.int .i64 2, []) := by kernel_rfl
theorem strE12 : o8 cfg jI 20 126 [.int .i64 12] [] = some (.int .i64 2, []) := by kernel_rfl
theorem strE13 : o8 cfg jI 20 126 [.int .i64 13] [] = some (.int .i64 2, []) := by kernel_rfl
theorem strE14 : o8 cfg jI 20 126 [.int .i64 14] [] = some (.int .i64 2, []) := by kernel_rfl
theorem strE15 : o8 cfg jI 20 126 [.int .i64 15] [] = some (.int .i64 2, []) := by kernel_rfl
theorem strE16 : o8 cfg jI 20 126 [.int .i64 16] [] = some (.int .i64 1, []) := by kernel_rfl
theorem strE17 : o8 cfg jI 20 126 [.int .i64 17] [] = some (.int .i64 0, []) := by kernel_rfl
theorem pM (o : Int) (h1 : 1 ≤ o) (h2 : o ≤ 17) : CallA Tryz.prog cfg 126 [.int .i64 o] h (fun y h' => y = .int .i64 (fA o) ∧ h' = h) := by
  have key : ∀ (k v : Int), o8 cfg jI 20 126 [.int .i64 k] [] = some (.int .i64 v, []) → fA k = v → CallA Tryz.prog cfg 126 [.int .i64 k] h (fun y h' => y = .int .i64 (fA k) ∧ h' = h) := fun k v he hv => by
    rw [hv]
    exact C0 rfl ((rB r9 X2 20 _ _ _ _ _ he).mono fun _ _ h => by rw [h.1]; rfl) h
  have hcases : o = 1 ∨ o = 2 ∨ o = 3 ∨ o = 4 ∨ o = 5 ∨ o = 6 ∨ o = 7 ∨ o = 8 ∨ o = 9 ∨ o = 10 ∨ o = 11 ∨ o = 12 ∨ o = 13 ∨ o = 14 ∨ o = 15 ∨ o = 16 ∨ o = 17 := by omega
  rcases hcases with rfl | rfl | rfl | rfl | rfl | rfl | rfl | rfl | rfl | rfl | rfl | rfl | rfl | rfl | rfl | rfl | rfl
  · exact key _ _ strE1 rfl
  · exact key _ _ strE2 rfl
  · exact key _ _ strE3 rfl
  · exact key _ _ strE4 rfl
  · exact key _ _ strE5 rfl
  · exact key _ _ strE6 rfl
  · exact key _ _ strE7 rfl
  · exact key _ _ strE8 rfl
  · exact key _ _ strE9 rfl
  · exact key _ _ strE10 rfl
  · exact key _ _ strE11 rfl
  · exact key _ _ strE12 rfl
  · exact key _ _ strE13 rfl
  · exact key _ _ strE14 rfl
  · exact key _ _ strE15 rfl
  · exact key _ _ strE16 rfl
  · exact key _ _ strE17 rfl
theorem LC {l : List Ex} {i : Nat} (h : i < l.length) : List.take 1 (List.drop (i * 4) (l8 l)) = [AV.int .i64 (l.getD i j8).op] := by
  have := congrArg (fun x => x.take 1) (read_es h)
  simp only [List.take_take, aW] at this
  simpa using this
variable {o : Int}
theorem oA (h1 : 1 ≤ o) (h2 : o ≤ 17) : 0 ≤ fA o ∧ fA o ≤ 6 ∧ (fA o = 6 ↔ o = 1 ∨ o = 2) ∧ (fA o = 5 ↔ o = 3 ∨ o = 4) := by
  have hcases : o = 1 ∨ o = 2 ∨ o = 3 ∨ o = 4 ∨ o = 5 ∨ o = 6 ∨ o = 7 ∨ o = 8 ∨ o = 9 ∨ o = 10 ∨ o = 11 ∨ o = 12 ∨ o = 13 ∨ o = 14 ∨ o = 15 ∨ o = 16 ∨ o = 17 := by omega
  rcases hcases with rfl | rfl | rfl | rfl | rfl | rfl | rfl | rfl | rfl | rfl | rfl | rfl | rfl | rfl | rfl | rfl | rfl <;> decide
variable {vars : List BA}
theorem GE.op : ∀ {d : Nat} {e : Ex}, GE vars d e → 1 ≤ e.op ∧ e.op ≤ 17
  | d, .leaf o n s, h => by
    have h' := iK.1 h
    simp only [Ex.op]
    omega
  | 0, .un o a, h => h.elim
  | 0, .bin o a b, h => h.elim
  | d + 1, .un o a, h => by have := h.1; simp only [Ex.op]; omega
  | d + 1, .bin o a b, h => by have := h.1; simp only [Ex.op]; omega
section
attribute [local go_sem] LC
theorem I8 (e : Ex) (k : Nat) (hk : k < e.args.length) (h1 : 1 ≤ e.op ∧ e.op ≤ 17) (h2 : 1 ≤ (e.args.getD k j8).op ∧ (e.args.getD k j8).op ≤ 17) (hl : e.args.length ≤ 2) : CB 127 [.agg [.int .i64 e.op, .int .i64 e.num, .str e.name, .vec e.args.length (l8 e.args)], .int .i64 (k : Int)] h (.bool (kL e k)) := by
  refine .bz Tryz.f127 29 ?_
  refine .z ?_
  refine .ss r9 (mkP 12 [0, 1, 0, 7, 15, 31, 63, 0, 128, 511, 1023, 2047] []) ?_
  refine .k 6 [] ?_
  refine .ca rfl rfl (pM _ h2.1 h2.2) ?_
  refine .k 2 [] ?_
  refine .ca rfl rfl (pM _ h1.1 h1.2) ?_
  refine .n [] ?_
  refine .c7 [1, 5, 6] ?_
  refine c39z ?_
  refine .spl 20 rfl rfl (fun e1 => ?_) (fun e1 => ?_)
  ·try simp only [e1]
   have qe1 := fact e1
   refine .k 8 [(3, 20), (7, 24)] ?_
   refine .n ?_
   exact .ret (.ex (hq := t67))
  try simp only [e1]
  have qe1 := fact e1
  refine .k 4 [(3, 20)] ?_
  refine .spl 24 rfl rfl (fun e2 => ?_) (fun e2 => ?_)
  ·try simp only [e2]
   have qe2 := fact e2
   refine .m [(3, 20), (7, 24)] ?_
   exact .ret (.ex (hq := t67))
  try simp only [e2]
  have qe2 := fact e2
  refine .m [(3, 20), (7, 24)] ?_
  exact .ret (.ex (hq := t67))
end
variable {a : Ex}
theorem Q9 (h1 : 1 ≤ o ∧ o ≤ 17) (h2 : 1 ≤ a.op ∧ a.op ≤ 17) : CB 127 [.agg [.int .i64 o, .int .i64 0, .str ByteArray.empty, .vec 1 (q9 a)], .int .i64 0] h (.bool (kL (.un o a) 0)) := by
  have := I8 (h := h) (.un o a) 0 t176 h1 h2 t176
  simpa only [Ex.op, Ex.num, Ex.name, Ex.args, l8, List.flatMap_cons, List.flatMap_nil, List.append_nil, List.length_cons, List.length_nil, Nat.zero_add, Int.natCast_zero, Int.cast_ofNat_Int] using this
variable {b : Ex}
theorem C5 (h1 : 1 ≤ o ∧ o ≤ 17) (h2 : 1 ≤ a.op ∧ a.op ≤ 17) : CB 127 [.agg [.int .i64 o, .int .i64 0, .str ByteArray.empty, .vec 2 (q9 a ++ q9 b)], .int .i64 0] h (.bool (kL (.bin o a b) 0)) := by
  have := I8 (h := h) (.bin o a b) 0 t176 h1 h2 t176
  simpa only [Ex.op, Ex.num, Ex.name, Ex.args, l8, List.flatMap_cons, List.flatMap_nil, List.append_nil, List.length_cons, List.length_nil, Nat.zero_add, Nat.reduceAdd, Int.natCast_zero, Int.cast_ofNat_Int] using this
theorem tM (h1 : 1 ≤ o ∧ o ≤ 17) (h2 : 1 ≤ b.op ∧ b.op ≤ 17) : CB 127 [.agg [.int .i64 o, .int .i64 0, .str ByteArray.empty, .vec 2 (q9 a ++ q9 b)], .int .i64 1] h (.bool (kL (.bin o a b) 1)) := by
  have := I8 (h := h) (.bin o a b) 1 t176 h1 h2 t176
  simpa only [Ex.op, Ex.num, Ex.name, Ex.args, l8, List.flatMap_cons, List.flatMap_nil, List.append_nil, List.length_cons, List.length_nil, Nat.zero_add, Nat.reduceAdd, Int.natCast_one, Int.cast_ofNat_Int] using this
theorem dY : q9 (.un o a) = [.int .i64 o, .int .i64 0, .str ByteArray.empty, .vec 1 (q9 a)] := rfl
theorem bW : q9 (.bin o a b) = [.int .i64 o, .int .i64 0, .str ByteArray.empty, .vec 2 (q9 a ++ q9 b)] := rfl
theorem aT {n : Int} {s : BA} : q9 (.leaf o n s) = [.int .i64 o, .int .i64 n, .str s, .vec 0 []] := rfl
theorem hY {l : List AV} : List.take 4 (q9 a ++ l) = q9 a := by rw [← m8 a, List.take_left]
theorem iA {l : List AV} : List.drop 4 (q9 a ++ l) = l := by rw [← m8 a, List.drop_left]
theorem lD {s : BA} : (s.toList == ByteArray.empty.toList) = decide (s.size = 0) := by
  rw [ByteArray.toList_eq, ByteArray.toList_eq, Bool.eq_iff_iff]
  simp only [beq_iff_eq, decide_eq_true_eq]
  constructor
  · intro h
    have := congrArg List.length h
    simpa using this
  · intro h
    exact List.length_eq_zero_iff.1 t163
theorem eq_mk {s : BA} : (⟨#[]⟩ : BA) = ByteArray.empty := rfl
theorem lE : ByteArray.empty.size = 0 := rfl
section
attribute [local go_sem] dY bW aT hY iA eN lD eq_mk lE
theorem LD {vars : List BA} (n : Int) (hn : 0 ≤ n) : CB 118 [.agg (q9 (.leaf 1 n ByteArray.empty))] h (.bool true) := by
  refine .bz Tryz.f118 77 ?_
  have hst : fA 1 = 6 := rfl
  refine c145z ?_
  refine c217z ?_
  refine .nil ?_
  refine c87z ?_
  refine .spl 10 rfl rfl (fun e1 => ?_) (fun e1 => by exfalso; first | omega | (replace e1 := s9z e1; omega) | (simp at e1; omega) | (simp at e1; done))
  try simp only [e1]
  have qe1 := fact e1
  refine .T ?_
  refine c231z ?_
  refine .ss r9 (mkP 28 [0, 1, 3, 7, 15, 31, 63, 127, 255, 511, 1023, 2047, 4095, 0, 8192, 24576, 57855, 123391, 254463, 516607, 1040895, 2089471, 4186623, 8380927, 16769535, 33546751, 33554431, 134217727] []) ?_
  refine .k 4 [] ?_
  refine .spl 15 rfl rfl (fun e2 => ?_) (fun e2 => by exfalso; first | omega | (replace e2 := s9z e2; omega) | (simp at e2; omega) | (simp at e2; done))
  try simp only [e2]
  have qe2 := fact e2
  refine .k 5 [(3, 15)] ?_
  refine .spl 20 rfl rfl (fun e3 => ?_) (fun e3 => by exfalso; first | omega | (replace e3 := s9z e3; omega) | (simp at e3; omega) | (simp at e3; done))
  try simp only [e3]
  have qe3 := fact e3
  refine .k 8 [(8, 20)] ?_
  refine .spl 28 rfl rfl (fun e4 => by exfalso; first | omega | (replace e4 := s9z e4; omega) | (simp at e4; omega) | (simp at e4; done)) (fun e4 => ?_)
  try simp only [e4]
  have qe4 := fact e4
  refine .k 8 [(16, 28), (21, 33)] ?_
  refine .n [] ?_
  refine .c7 [1, 3, 4, 5] ?_
  refine c19z ?_
  refine .spl 40 rfl rfl (fun e5 => by exfalso; first | omega | (replace e5 := s9z e5; omega) | (simp at e5; omega) | (simp at e5; done)) (fun e5 => ?_)
  try simp only [e5]
  have qe5 := fact e5
  refine .m [(2, 40)] ?_
  refine c200z ?_
  refine c78z ?_
  refine .e 6 ?_
  refine .spl 51 rfl rfl (fun e6 => by exfalso; first | omega | (replace e6 := s9z e6; omega) | (simp at e6; omega) | (simp at e6; done)) (fun e6 => ?_)
  try simp only [e6]
  have qe6 := fact e6
  refine .k 3 [(5, 51)] ?_
  refine .spl 54 rfl rfl (fun e7 => by exfalso; first | omega | (replace e7 := s9z e7; omega) | (simp at e7; omega) | (simp at e7; done)) (fun e7 => ?_)
  try simp only [e7]
  have qe7 := fact e7
  refine .k 8 [(8, 54), (12, 58)] ?_
  refine .m [(5, 51)] ?_
  refine c237z ?_
  refine c128z ?_
  refine .z ?_
  exact .ret (.ex (hq := by rfl))
end
section
attribute [local go_sem] dY bW aT hY iA eN lD eq_mk lE
theorem LF {vars : List BA} (s : BA) (hn : isName (L8 s)) (hr : rS s = false) : CB 118 [.agg (q9 (.leaf 2 0 s))] h (.bool true) := by
  refine .bz Tryz.f118 77 ?_
  have hst : fA 2 = 6 := rfl
  have hsz := (dQ hn).1
  refine c145z ?_
  refine c217z ?_
  refine .nil ?_
  refine c87z ?_
  refine .spl 10 rfl rfl (fun e1 => ?_) (fun e1 => by exfalso; first | omega | (replace e1 := s9z e1; omega) | (simp at e1; omega) | (simp at e1; done))
  try simp only [e1]
  have qe1 := fact e1
  refine .T ?_
  refine c231z ?_
  refine .ss r9 (mkP 28 [0, 1, 3, 7, 15, 31, 63, 127, 255, 511, 1023, 2047, 4095, 0, 8192, 24576, 57855, 123391, 254463, 516607, 1040895, 2089471, 4186623, 8380927, 16769535, 33546751, 33554431, 134217727] []) ?_
  refine .k 4 [] ?_
  refine .spl 15 rfl rfl (fun e2 => by exfalso; first | omega | (replace e2 := s9z e2; omega) | (simp at e2; omega) | (simp at e2; done)) (fun e2 => ?_)
  try simp only [e2]
  have qe2 := fact e2
  refine .k 8 [(3, 15), (8, 20)] ?_
  refine .k 5 [] ?_
  refine .spl 28 rfl rfl (fun e3 => ?_) (fun e3 => by exfalso; first | omega | (replace e3 := s9z e3; omega) | (simp at e3; omega) | (simp at e3; done))
  try simp only [e3]
  have qe3 := fact e3
  refine .k 5 [(16, 28)] ?_
  refine .spl 33 rfl rfl (fun e4 => ?_) (fun e4 => by exfalso; first | omega | (replace e4 := s9z e4; omega) | (simp at e4; omega) | (simp at e4; done))
  try simp only [e4]
  have qe4 := fact e4
  refine .k 2 [(21, 33)] ?_
  refine .ca rfl rfl (lC _ hn hr) ?_
  refine .n [] ?_
  refine .c7 [1, 3, 4, 5] ?_
  refine .zm [(2, 40)] ?_
  refine .spl 43 rfl rfl (fun e5 => by exfalso; first | omega | (replace e5 := s9z e5; omega) | (simp at e5; omega) | (simp at e5; done)) (fun e5 => ?_)
  try simp only [e5]
  have qe5 := fact e5
  refine c200z ?_
  refine c78z ?_
  refine .e 6 ?_
  refine .spl 51 rfl rfl (fun e6 => by exfalso; first | omega | (replace e6 := s9z e6; omega) | (simp at e6; omega) | (simp at e6; done)) (fun e6 => ?_)
  try simp only [e6]
  have qe6 := fact e6
  refine .k 3 [(5, 51)] ?_
  refine .spl 54 rfl rfl (fun e7 => by exfalso; first | omega | (replace e7 := s9z e7; omega) | (simp at e7; omega) | (simp at e7; done)) (fun e7 => ?_)
  try simp only [e7]
  have qe7 := fact e7
  refine .k 8 [(8, 54), (12, 58)] ?_
  refine .m [(5, 51)] ?_
  refine c237z ?_
  refine c128z ?_
  refine .z ?_
  exact .ret (.ex (hq := by rfl))
end
section
attribute [local go_sem] dY bW aT hY iA eN lD eq_mk lE
theorem LG {vars : List BA} (o : Int) (a : Ex) (ho : o = 3 ∨ o = 4) (iha : ∀ (h : c6), CB 118 [.agg (q9 a)] h (.bool true)) : CB 118 [.agg (q9 (.un o a))] h (.bool true) := by
  refine .bz Tryz.f118 77 ?_
  have hst := (oA (o := o) (by omega) (by omega)).2.2.2.2 ho
  refine c145z ?_
  refine c217z ?_
  refine .nil ?_
  refine c87z ?_
  refine .spl 10 rfl rfl (fun e1 => by exfalso; first | omega | (replace e1 := s9z e1; omega) | (simp at e1; omega) | (simp at e1; done)) (fun e1 => ?_)
  try simp only [e1]
  have qe1 := fact e1
  refine c137z ?_
  refine .spl 44 rfl rfl (fun e2 => ?_) (fun e2 => by exfalso; first | omega | (replace e2 := s9z e2; omega) | (simp at e2; omega) | (simp at e2; done))
  try simp only [e2]
  have qe2 := fact e2
  refine .T ?_
  refine .c7 [1] ?_
  refine c1z ?_
  refine .seq ?_
  refine c168z ?_
  refine .spl 51 rfl rfl (fun e3 => by exfalso; first | omega | (replace e3 := s9z e3; omega) | (simp at e3; omega) | (simp at e3; done)) (fun e3 => ?_)
  try simp only [e3]
  have qe3 := fact e3
  refine .k 3 [(5, 51)] ?_
  refine .spl 54 rfl rfl (fun e4 => ?_) (fun e4 => by exfalso; first | omega | (replace e4 := s9z e4; omega) | (simp at e4; omega) | (simp at e4; done))
  try simp only [e4]
  have qe4 := fact e4
  refine .k 4 [(8, 54)] ?_
  refine .spl 58 rfl rfl (fun e5 => by exfalso; first | omega | (replace e5 := s9z e5; omega) | (simp at e5; omega) | (simp at e5; done)) (fun e5 => ?_)
  try simp only [e5]
  have qe5 := fact e5
  refine .m [(5, 51), (8, 54), (12, 58)] ?_
  refine .spl 64 rfl rfl (fun e6 => by exfalso; first | omega | (replace e6 := s9z e6; omega) | (simp at e6; omega) | (simp at e6; done)) (fun e6 => ?_)
  try simp only [e6]
  have qe6 := fact e6
  refine c237z ?_
  refine c23z ?_
  refine c201z ?_
  refine c85z ?_
  refine .n ?_
  refine .spl 76 rfl rfl (fun e7 => by exfalso; first | omega | (replace e7 := s9z e7; omega) | (simp at e7; omega) | (simp at e7; done)) (fun e7 => ?_)
  try simp only [e7]
  have qe7 := fact e7
  refine c42z ?_
  refine .c7 [1, 3, 6] ?_
  refine .rz ?_
  refine c35z ?_
  refine c53z ?_
  exact .ret (.ex (hq := by rfl))
end
section
attribute [local go_sem] dY bW aT hY iA eN lD eq_mk lE
theorem LH {vars : List BA} (o : Int) (a b : Ex) (ho : 5 ≤ o ∧ o ≤ 17) (iha : ∀ (h : c6), CB 118 [.agg (q9 a)] h (.bool true)) (ihb : ∀ (h : c6), CB 118 [.agg (q9 b)] h (.bool true)) : CB 118 [.agg (q9 (.bin o a b))] h (.bool true) := by
  refine .bz Tryz.f118 77 ?_
  have hst := oA (o := o) (by omega) (by omega)
  refine c145z ?_
  refine c217z ?_
  refine .nil ?_
  refine c87z ?_
  refine .spl 10 rfl rfl (fun e1 => by exfalso; first | omega | (replace e1 := s9z e1; omega) | (simp at e1; omega) | (simp at e1; done)) (fun e1 => ?_)
  try simp only [e1]
  have qe1 := fact e1
  refine c137z ?_
  refine .spl 44 rfl rfl (fun e2 => by exfalso; first | omega | (replace e2 := s9z e2; omega) | (simp at e2; omega) | (simp at e2; done)) (fun e2 => ?_)
  try simp only [e2]
  have qe2 := fact e2
  refine c200z ?_
  refine c78z ?_
  refine .e 6 ?_
  refine .spl 51 rfl rfl (fun e3 => by exfalso; first | omega | (replace e3 := s9z e3; omega) | (simp at e3; omega) | (simp at e3; done)) (fun e3 => ?_)
  try simp only [e3]
  have qe3 := fact e3
  refine .k 3 [(5, 51)] ?_
  refine .spl 54 rfl rfl (fun e4 => ?_) (fun e4 => by exfalso; first | omega | (replace e4 := s9z e4; omega) | (simp at e4; omega) | (simp at e4; done))
  try simp only [e4]
  have qe4 := fact e4
  refine .k 4 [(8, 54)] ?_
  refine .spl 58 rfl rfl (fun e5 => by exfalso; first | omega | (replace e5 := s9z e5; omega) | (simp at e5; omega) | (simp at e5; done)) (fun e5 => ?_)
  try simp only [e5]
  have qe5 := fact e5
  refine .m [(5, 51), (8, 54), (12, 58)] ?_
  refine .spl 64 rfl rfl (fun e6 => by exfalso; first | omega | (replace e6 := s9z e6; omega) | (simp at e6; omega) | (simp at e6; done)) (fun e6 => ?_)
  try simp only [e6]
  have qe6 := fact e6
  refine c237z ?_
  refine c23z ?_
  refine c220z ?_
  refine .n ?_
  refine .spl 76 rfl rfl (fun e7 => by exfalso; first | omega | (replace e7 := s9z e7; omega) | (simp at e7; omega) | (simp at e7; done)) (fun e7 => ?_)
  try simp only [e7]
  have qe7 := fact e7
  refine c42z ?_
  refine .c7 [1, 3, 6] ?_
  refine .rz ?_
  refine c221z ?_
  refine .n ?_
  refine .spl 76 rfl rfl (fun e8 => by exfalso; first | omega | (replace e8 := s9z e8; omega) | (simp at e8; omega) | (simp at e8; done)) (fun e8 => ?_)
  try simp only [e8]
  have qe8 := fact e8
  refine c42z ?_
  refine .c7 [1, 3, 6] ?_
  refine .rz ?_
  refine c35z ?_
  refine c53z ?_
  exact .ret (.ex (hq := by rfl))
end
def u9 (vars : List BA) : Prop := ∀ x ∈ vars, isName (L8 x) ∧ rS x = false
theorem u9.n (h : u9 vars) : Names vars := fun x hx => (h x hx).1
theorem xW {vars : List BA} (hv : u9 vars) : ∀ {d : Nat} {e : Ex}, GE vars d e → ∀ (h : c6), CB 118 [.agg (q9 e)] h (.bool true)
  | d, .leaf o n s, hg, h => by
    rcases iK.1 hg with ⟨rfl, h1, _, rfl⟩ | ⟨rfl, rfl, h1⟩
    · exact LD (vars := vars) n h1
    · exact LF (vars := vars) s (hv s h1).1 (hv s h1).2
  | 0, .un o a, hg, h => hg.elim
  | 0, .bin o a b, hg, h => hg.elim
  | d + 1, .un o a, hg, h => LG (vars := vars) o a hg.1 (xW hv hg.2)
  | d + 1, .bin o a b, hg, h => LH (vars := vars) o a b hg.1 (xW hv hg.2.1) (xW hv hg.2.2)
def mx (a b : Int) : Int := if b > a then b else a
def hgt : Ex → Int
  | .leaf .. => 0
  | .un o a => mx 0 (if kL (.un o a) 0 then hgt a + 1 else hgt a) + 1
  | .bin o a b => mx (mx 0 (if kL (.bin o a b) 0 then hgt a + 1 else hgt a)) (if kL (.bin o a b) 1 then hgt b + 1 else hgt b)
theorem tN : ∀ e : Ex, 0 ≤ hgt e ∧ hgt e ≤ 2 * (e.dep : Int)
  | .leaf .. => ⟨Int.le_refl _, by simp [hgt, Ex.dep]⟩
  | .un o a => by
    have := tN a
    simp only [hgt, mx, Ex.dep]
    constructor <;> (repeat' split) <;> omega
  | .bin o a b => by
    have := tN a
    have := tN b
    simp only [hgt, mx, Ex.dep]
    constructor <;> (repeat' split) <;> omega
section
attribute [local go_sem] dY bW aT hY iA eN lD eq_mk lE
theorem ED (o n : Int) (s : BA) (ho : o = 1 ∨ o = 2) : CB 119 [.agg (q9 (.leaf o n s))] h (.int .i64 (hgt (.leaf o n s))) := by
  refine .bz Tryz.f119 34 ?_
  have hst := (oA (o := o) (by omega) (by omega)).2.2.1.2 ho
  refine c62z ?_
  refine c56z ?_
  refine .seq ?_
  refine c172z ?_
  refine .n ?_
  refine .spl 30 rfl rfl (fun e1 => by exfalso; first | omega | (replace e1 := s9z e1; omega) | (simp at e1; omega) | (simp at e1; done)) (fun e1 => ?_)
  try simp only [e1]
  have qe1 := fact e1
  refine c113z ?_
  exact .ret (.ex (hq := by rfl))
end
section
attribute [local go_sem] dY bW aT hY iA eN lD eq_mk lE
theorem EE (o : Int) (a : Ex) (ho : o = 3 ∨ o = 4) (hd : a.dep ≤ 1000) (hga : 1 ≤ a.op ∧ a.op ≤ 17) (iha : ∀ (h : c6), CB 119 [.agg (q9 a)] h (.int .i64 (hgt a))) : CB 119 [.agg (q9 (.un o a))] h (.int .i64 (hgt (.un o a))) := by
  refine .bz Tryz.f119 34 ?_
  have hst := (oA (o := o) (by omega) (by omega)).2.2.2.2 ho
  have hha := tN a
  refine c62z ?_
  refine c201z ?_
  refine c85z ?_
  refine c101z ?_
  refine .ca rfl rfl (Q9 (by omega) hga) ?_
  refine .nil ?_
  refine u2z ?_ ?_
  ·intro e1 qe1
   refine c1z ?_
   refine c146z ?_
   refine .seq ?_
   refine c172z ?_
   refine .n ?_
   refine .spl 30 rfl rfl (fun e2 => ?_) (fun e2 => by exfalso; first | omega | (replace e2 := s9z e2; omega) | (simp at e2; omega) | (simp at e2; done))
   try simp only [e2]
   have qe2 := fact e2
   refine .T ?_
   refine c1z ?_
   refine .z ?_
   exact .ret (.ex (hq := t56))
  intro e1 qe1
  refine .sk ?_
  refine c50z ?_
  change c8 _ _ _ _ _
  refine c228z ?_
  refine c8z ?_
  refine c10z ?_
  refine .seq ?_
  refine c217z ?_
  refine .n ?_
  refine .spl 30 rfl rfl (fun e3 => ?_) (fun e3 => by exfalso; first | omega | (replace e3 := s9z e3; omega) | (simp at e3; omega) | (simp at e3; done))
  try simp only [e3]
  have qe3 := fact e3
  refine .T ?_
  refine .c7 [3] ?_
  refine c1z ?_
  refine .z ?_
  exact .ret (.ex (hq := t56))
end
section
attribute [local go_sem] dY bW aT hY iA eN lD eq_mk lE
theorem EF (o : Int) (a b : Ex) (ho : 5 ≤ o ∧ o ≤ 17) (hd : a.dep ≤ 1000) (hd2 : b.dep ≤ 1000) (hga : 1 ≤ a.op ∧ a.op ≤ 17) (hgb : 1 ≤ b.op ∧ b.op ≤ 17) (iha : ∀ (h : c6), CB 119 [.agg (q9 a)] h (.int .i64 (hgt a))) (ihb : ∀ (h : c6), CB 119 [.agg (q9 b)] h (.int .i64 (hgt b))) : CB 119 [.agg (q9 (.bin o a b))] h (.int .i64 (hgt (.bin o a b))) := by
  refine .bz Tryz.f119 34 ?_
  have hst := oA (o := o) (by omega) (by omega)
  have hha := tN a
  have hhb := tN b
  refine c62z ?_
  refine c220z ?_
  refine c101z ?_
  refine .ca rfl rfl (C5 (by omega) hga) ?_
  refine .nil ?_
  refine u2z ?_ ?_
  ·intro e1 qe1
   refine c1z ?_
   refine c90z ?_
   refine c221z ?_
   refine c101z ?_
   refine .ca rfl rfl (tM (by omega) hgb) ?_
   refine .nil ?_
   refine u2z ?_ ?_
   ·intro e2 qe2
    refine c1z ?_
    refine c146z ?_
    refine .seq ?_
    refine c172z ?_
    refine .n ?_
    refine .spl 30 rfl rfl (fun e3 => by exfalso; first | omega | (replace e3 := s9z e3; omega) | (simp at e3; omega) | (simp at e3; done)) (fun e3 => ?_)
    try simp only [e3]
    have qe3 := fact e3
    refine c113z ?_
    exact .ret (.ex (hq := t56))
   intro e2 qe2
   refine .sk ?_
   refine c50z ?_
   change c8 _ _ _ _ _
   refine c228z ?_
   refine c8z ?_
   refine c10z ?_
   refine .seq ?_
   refine c217z ?_
   refine .n ?_
   refine .spl 30 rfl rfl (fun e4 => by exfalso; first | omega | (replace e4 := s9z e4; omega) | (simp at e4; omega) | (simp at e4; done)) (fun e4 => ?_)
   try simp only [e4]
   have qe4 := fact e4
   refine c15z ?_
   refine c167z ?_
   exact .ret (.ex (hq := t56))
  intro e1 qe1
  refine .sk ?_
  refine c50z ?_
  change c8 _ _ _ _ _
  refine c228z ?_
  refine .z ?_
  refine c73z ?_
  refine c109z ?_
  refine c101z ?_
  refine .ca rfl rfl (tM (by omega) hgb) ?_
  refine .nil ?_
  refine u2z ?_ ?_
  ·intro e5 qe5
   refine c1z ?_
   refine c146z ?_
   refine .seq ?_
   refine c172z ?_
   refine .n ?_
   refine .spl 30 rfl rfl (fun e6 => by exfalso; first | omega | (replace e6 := s9z e6; omega) | (simp at e6; omega) | (simp at e6; done)) (fun e6 => ?_)
   try simp only [e6]
   have qe6 := fact e6
   refine c113z ?_
   exact .ret (.ex (hq := t56))
  intro e5 qe5
  refine .sk ?_
  refine c50z ?_
  change c8 _ _ _ _ _
  refine c228z ?_
  refine c8z ?_
  refine c10z ?_
  refine .seq ?_
  refine c217z ?_
  refine .n ?_
  refine .spl 30 rfl rfl (fun e7 => by exfalso; first | omega | (replace e7 := s9z e7; omega) | (simp at e7; omega) | (simp at e7; done)) (fun e7 => ?_)
  try simp only [e7]
  have qe7 := fact e7
  refine c15z ?_
  refine c167z ?_
  exact .ret (.ex (hq := t56))
end
theorem rU {vars : List BA} : ∀ {d : Nat} {e : Ex}, d ≤ 100 → GE vars d e → ∀ (h : c6), CB 119 [.agg (q9 e)] h (.int .i64 (hgt e))
  | d, .leaf o n s, hd, hg, h => by
    have h' := iK.1 hg
    exact ED o n s (by omega)
  | 0, .un o a, hd, hg, h => hg.elim
  | 0, .bin o a b, hd, hg, h => hg.elim
  | d + 1, .un o a, hd, hg, h => EE o a hg.1 (by have := hg.2.dep; omega) (GE.op hg.2) (rU (by omega) hg.2)
  | d + 1, .bin o a b, hd, hg, h => EF o a b hg.1 (by have := hg.2.1.dep; omega) (by have := hg.2.2.dep; omega) (GE.op hg.2.1) (GE.op hg.2.2) (rU (by omega) hg.2.1) (rU (by omega) hg.2.2)
theorem R2 (hv : u9 vars) {d : Nat} (hd : d ≤ 12) (e : Ex) (hg : GE vars d e) : CB 101 [.agg (q9 e)] h (.bool true) := by
  refine .bz Tryz.f101 10 ?_
  have hh := tN e
  have hdp := hg.dep
  refine c127z ?_
  refine .ca rfl rfl (xW hv hg _) ?_
  refine .k 2 [(2, 5)] ?_
  refine .ca rfl rfl (rU (by omega) hg _) ?_
  refine .m [(2, 5)] ?_
  exact .ret (.ex (hq := by (exact congrArg AV.bool (decide_eq_true (by omega)))))
end Go.Proofs.YtfbjlfhjkojmkaaGreat
end
section
namespace Go.Proofs.YtfbjlfhjkojmkaaGreat
open Go.Ab Go.Un
theorem mx6 : (6 ≤ maxLen) = True := by simp; decide
theorem mx3 : (3 ≤ maxLen) = True := by simp; decide
def sgS (k : Int) : List BA := if k = 0 then [(⟨#[124, 124]⟩ : BA)] else if k = 1 then [(⟨#[38, 38]⟩ : BA)] else if k = 2 then [(⟨#[61, 61]⟩ : BA), (⟨#[33, 61]⟩ : BA), (⟨#[60]⟩ : BA), (⟨#[60, 61]⟩ : BA), (⟨#[62]⟩ : BA), (⟨#[62, 61]⟩ : BA)] else if k = 3 then [(⟨#[43]⟩ : BA), (⟨#[45]⟩ : BA)] else [(⟨#[42]⟩ : BA), (⟨#[47]⟩ : BA), (⟨#[37]⟩ : BA)]
def sgO (k : Int) : List Int := if k = 0 then [17] else if k = 1 then [16] else if k = 2 then [14, 15, 10, 11, 12, 13] else if k = 3 then [8, 9] else [5, 6, 7]
theorem LJ {k : Int} (h0 : 0 ≤ k) (h4 : k ≤ 4) : (sgS k).length = (sgO k).length ∧ (sgO k).length ≤ 6 := by
  have hc : k = 0 ∨ k = 1 ∨ k = 2 ∨ k = 3 ∨ k = 4 := by omega
  rcases hc with rfl | rfl | rfl | rfl | rfl <;> decide
variable {o : Int}
theorem LK (h : 5 ≤ o ∧ o ≤ 17) : ∀ i, i < (sgO (fA o)).length → (sgO (fA o)).getD i 0 = o → (sgS (fA o)).getD i ByteArray.empty = H4 o := by
  have hcases : o = 5 ∨ o = 6 ∨ o = 7 ∨ o = 8 ∨ o = 9 ∨ o = 10 ∨ o = 11 ∨ o = 12 ∨ o = 13 ∨ o = 14 ∨ o = 15 ∨ o = 16 ∨ o = 17 := by omega
  rcases hcases with rfl | rfl | rfl | rfl | rfl | rfl | rfl | rfl | rfl | rfl | rfl | rfl | rfl <;> decide
theorem LL (h : 5 ≤ o ∧ o ≤ 17) : ¬ ∀ i, i < (sgO (fA o)).length → (sgO (fA o)).getD i 0 ≠ o := by
  have hcases : o = 5 ∨ o = 6 ∨ o = 7 ∨ o = 8 ∨ o = 9 ∨ o = 10 ∨ o = 11 ∨ o = 12 ∨ o = 13 ∨ o = 14 ∨ o = 15 ∨ o = 16 ∨ o = 17 := by omega
  rcases hcases with rfl | rfl | rfl | rfl | rfl | rfl | rfl | rfl | rfl | rfl | rfl | rfl | rfl <;> decide
theorem rV (h : 5 ≤ o ∧ o ≤ 17) : 0 ≤ fA o ∧ fA o ≤ 4 := by
  have hcases : o = 5 ∨ o = 6 ∨ o = 7 ∨ o = 8 ∨ o = 9 ∨ o = 10 ∨ o = 11 ∨ o = 12 ∨ o = 13 ∨ o = 14 ∨ o = 15 ∨ o = 16 ∨ o = 17 := by omega
  rcases hcases with rfl | rfl | rfl | rfl | rfl | rfl | rfl | rfl | rfl | rfl | rfl | rfl | rfl <;> decide
variable {i : Nat}
theorem R3 {l : List Int} (h : ∀ d, d < i → l.getD d 0 ≠ o) (e : l.getD i 0 ≠ o) : ∀ d, d < i + 1 → l.getD d 0 ≠ o := fun d hd => by
  by_cases hdi : d = i
  · rw [hdi]; exact e
  · exact h d (by omega)
theorem xX {a : Array UInt8} : (⟨a⟩ : BA).size = a.size := rfl
variable {h : c6} {a : Ex} {p : Bool}
theorem c_innU (hp : kL (.un o a) 0 = p) (h1 : 1 ≤ o ∧ o ≤ 17) (h2 : 1 ≤ a.op ∧ a.op ≤ 17) : CB 127 [.agg [.int .i64 o, .int .i64 0, .str ByteArray.empty, .vec 1 (q9 a)], .int .i64 0] h (.bool p) := by
  subst hp; exact Q9 h1 h2
theorem c_inn0 {b : Ex} (hp : kL (.bin o a b) 0 = p) (h1 : 1 ≤ o ∧ o ≤ 17) (h2 : 1 ≤ a.op ∧ a.op ≤ 17) : CB 127 [.agg [.int .i64 o, .int .i64 0, .str ByteArray.empty, .vec 2 (q9 a ++ q9 b)], .int .i64 0] h (.bool p) := by
  subst hp; exact C5 h1 h2
theorem c_inn1 {b : Ex} (hp : kL (.bin o a b) 1 = p) (h1 : 1 ≤ o ∧ o ≤ 17) (h2 : 1 ≤ b.op ∧ b.op ≤ 17) : CB 127 [.agg [.int .i64 o, .int .i64 0, .str ByteArray.empty, .vec 2 (q9 a ++ q9 b)], .int .i64 1] h (.bool p) := by
  subst hp; exact tM h1 h2
attribute [local go_sem] j4 rd lU w9 m8 aQ bS m6 Int.natCast_nonneg Int.natCast_inj List.length_map wrap64 Y6 wrapU eN Q4 B5 H8 Q5 xR max2 kP mx6 mx3 xX w8 dY bW aT hY iA lD eq_mk lE qI vQ Nat.reduceMul
theorem c_signs (k : Int) : CB 125 [.int .i64 k] h (.tup [.vec (sgS k).length (w5 (sgS k)), .vec (sgO k).length (g9 (sgO k))]) := by
  refine .bz Tryz.f125 23 ?_
  refine c21z ?_
  refine .z ?_
  refine u2z ?_ ?_
  ·intro e1 qe1
   refine .z ?_
   exact .ret (.ex (hf := t31) (hq := t109))
  intro e1 qe1
  refine .z ?_
  refine u2z ?_ ?_
  ·intro e2 qe2
   refine c53z ?_
   exact .ret (.ex (hf := t31) (hq := t109))
  intro e2 qe2
  refine .z ?_
  refine u2z ?_ ?_
  ·intro e3 qe3
   refine c53z ?_
   exact .ret (.ex (hf := t31) (hq := t109))
  intro e3 qe3
  refine .c7 [4] ?_
  refine .z ?_
  refine u2z ?_ ?_
  ·intro e4 qe4
   refine .z ?_
   exact .ret (.ex (hf := t31) (hq := t109))
  intro e4 qe4
  refine c7z ?_
  refine .z ?_
  exact .ret (.ex (hf := t31) (hq := t109))
theorem c_text1 (n : Int) (h0 : 0 ≤ n) (h1 : n < 4611686018427387904) : CB 121 [.agg (q9 (.leaf 1 n ByteArray.empty))] h (.str (bM (.leaf 1 n ByteArray.empty))) := by
  refine .bz Tryz.f121 95 ?_
  refine c62z ?_
  refine c56z ?_
  refine c212z ?_
  refine .T ?_
  refine c38z ?_
  refine .ca rfl rfl (c_num _ (by omega) (by omega)) ?_
  refine .n ?_
  exact .ret (.ex (hq := by (rw [X8, if_neg (by omega)]; rfl)))
theorem c_text2 (n : Int) (s : BA) : CB 121 [.agg (q9 (.leaf 2 n s))] h (.str (bM (.leaf 2 n s))) := by
  refine .bz Tryz.f121 95 ?_
  refine c62z ?_
  refine c56z ?_
  refine .sb ?_
  refine .c7 [1, 3] ?_
  refine c8z ?_
  refine c105z ?_
  refine c231z ?_
  exact .ret (.ex (hq := by rfl))
theorem c_textU (o : Int) (a : Ex) (ho : o = 3 ∨ o = 4) (hga : 1 ≤ a.op ∧ a.op ≤ 17) (iha : ∀ (h : c6), CB 121 [.agg (q9 a)] h (.str (bM a))) (hsa : (bM a).size < 1000000) : CB 121 [.agg (q9 (.un o a))] h (.str (bM (.un o a))) := by
  refine .bz Tryz.f121 95 ?_
  refine c62z ?_
  refine c201z ?_
  refine c85z ?_
  refine c101z ?_
  refine .ca rfl rfl (c_innU rfl (by omega) hga) ?_
  refine .nil ?_
  refine u2z ?_ ?_
  ·intro e1 qe1
   refine c1z ?_
   refine c214z ?_
   refine .spl 32 rfl rfl (fun e2 => by exfalso; first | omega | (replace e2 := s9z e2; omega) | (simp at e2; omega) | (simp at e2; done)) (fun e2 => ?_)
   try simp only [e2]
   have qe2 := fact e2
   refine c137z ?_
   refine .spl 39 rfl rfl (fun e3 => by exfalso; first | omega | (replace e3 := s9z e3; omega) | (simp at e3; omega) | (simp at e3; done)) (fun e3 => ?_)
   try simp only [e3]
   have qe3 := fact e3
   refine .F ?_
   refine c67z ?_
   refine u2z ?_ ?_
   ·intro e4 qe4
    refine .z ?_
    exact .ret (.ex (hq := t148))
   intro e4 qe4
   refine .z ?_
   refine .spl 53 rfl rfl (fun e5 => ?_) (fun e5 => by exfalso; first | omega | (replace e5 := s9z e5; omega) | (simp at e5; omega) | (simp at e5; done))
   try simp only [e5]
   have qe5 := fact e5
   refine .T ?_
   refine c167z ?_
   exact .ret (.ex (hq := t148))
  intro e1 qe1
  refine .sk ?_
  refine c214z ?_
  refine .spl 32 rfl rfl (fun e6 => by exfalso; first | omega | (replace e6 := s9z e6; omega) | (simp at e6; omega) | (simp at e6; done)) (fun e6 => ?_)
  try simp only [e6]
  have qe6 := fact e6
  refine c137z ?_
  refine .spl 39 rfl rfl (fun e7 => by exfalso; first | omega | (replace e7 := s9z e7; omega) | (simp at e7; omega) | (simp at e7; done)) (fun e7 => ?_)
  try simp only [e7]
  have qe7 := fact e7
  refine .F ?_
  refine c67z ?_
  refine u2z ?_ ?_
  ·intro e8 qe8
   refine .z ?_
   exact .ret (.ex (hq := t148))
  intro e8 qe8
  refine .z ?_
  refine .spl 53 rfl rfl (fun e9 => ?_) (fun e9 => by exfalso; first | omega | (replace e9 := s9z e9; omega) | (simp at e9; omega) | (simp at e9; done))
  try simp only [e9]
  have qe9 := fact e9
  refine .T ?_
  refine c167z ?_
  exact .ret (.ex (hq := t148))
theorem EG (o : Int) (a b : Ex) (ho : 5 ≤ o ∧ o ≤ 17) (hga : 1 ≤ a.op ∧ a.op ≤ 17) (hgb : 1 ≤ b.op ∧ b.op ≤ 17) (hp : kL (.bin o a b) 0 = true) (hq : kL (.bin o a b) 1 = true) (iha : ∀ (h : c6), CB 121 [.agg (q9 a)] h (.str (bM a))) (hsa : (bM a).size < 1000000) (ihb : ∀ (h : c6), CB 121 [.agg (q9 b)] h (.str (bM b))) (hsb : (bM b).size < 1000000) : CB 121 [.agg (q9 (.bin o a b))] h (.str (bM (.bin o a b))) := by
  refine .bz Tryz.f121 95 ?_
  have hst := rV ho
  have hsg := LJ hst.1 hst.2
  have hsa2 := LK ho
  have hse := (tB ho).2
  refine c62z ?_
  refine c220z ?_
  refine c132z ?_
  refine .nil ?_
  refine .T ?_
  refine c1z ?_
  refine c90z ?_
  refine c221z ?_
  refine c133z ?_
  refine .nil ?_
  refine .T ?_
  refine c1z ?_
  refine c214z ?_
  refine .spl 32 rfl rfl (fun e1 => by exfalso; first | omega | (replace e1 := s9z e1; omega) | (simp at e1; omega) | (simp at e1; done)) (fun e1 => ?_)
  try simp only [e1]
  have qe1 := fact e1
  refine c137z ?_
  refine .spl 39 rfl rfl (fun e2 => by exfalso; first | omega | (replace e2 := s9z e2; omega) | (simp at e2; omega) | (simp at e2; done)) (fun e2 => ?_)
  try simp only [e2]
  have qe2 := fact e2
  refine .F ?_
  refine c67z ?_
  refine .spl 45 rfl rfl (fun e3 => by exfalso; first | omega | (replace e3 := s9z e3; omega) | (simp at e3; omega) | (simp at e3; done)) (fun e3 => ?_)
  try simp only [e3]
  have qe3 := fact e3
  refine c137z ?_
  refine .spl 53 rfl rfl (fun e4 => by exfalso; first | omega | (replace e4 := s9z e4; omega) | (simp at e4; omega) | (simp at e4; done)) (fun e4 => ?_)
  try simp only [e4]
  have qe4 := fact e4
  refine c42z ?_
  refine c187z ?_
  refine .n ?_
  refine c5z ?_
  refine .dK (fun m st => ∃ (i : Nat), (m = (sgO (fA o)).length - i ∧ ((∀ d, d < i → (sgO (fA o)).getD d 0 ≠ o) ∧ i ≤ (sgO (fA o)).length)) ∧ st = ⟨mkS 95 [(1, AV.ptr h.length 0 0), (3, AV.own (h.length + 2) 1 0 2), (6, AV.vec (sgS (fA o)).length (w5 (sgS (fA o)))), (7, AV.vec (sgO (fA o)).length (g9 (sgO (fA o)))), (8, AV.int .i64 ((i : Nat) : Int))], h ++ [⟨0, false, 72, 4, [.int .i64 o, .int .i64 0, .str ByteArray.empty, .vec 2 (q9 a ++ q9 b)], 0⟩, ⟨0, false, 9, 1, [.str (⟨#[40]⟩ ++ bM a ++ ⟨#[41]⟩)], 0⟩, ⟨1, false, 9, 1, [.str (⟨#[40]⟩ ++ bM a ++ ⟨#[41]⟩), .str (⟨#[40]⟩ ++ bM b ++ ⟨#[41]⟩)], 0⟩, ⟨0, false, 9, 1, [.str (⟨#[40]⟩ ++ bM b ++ ⟨#[41]⟩)], 0⟩]⟩) _ (.v ⟨0, ⟨rfl, ⟨t106, by omega⟩⟩, rfl⟩) ?_
  rintro m sl h' ⟨i, ⟨hm, ⟨hI, hi⟩⟩, hst⟩
  obtain ⟨rfl, rfl⟩ := St.mk.inj hst
  refine c0z ?_
  refine u2z ?_ ?_
  ·intro e5 qe5
   refine c2z ?_
   refine c120z ?_
   refine u2z ?_ ?_
   ·intro e6 qe6
    refine .c7 [3, 6, 8] ?_
    have hsi := hsa2 i (by omega) (by assumption)
    have hss : ((sgS (fA o)).getD i ByteArray.empty).size ≤ 2 := by rw [hsi]; exact hse
    refine c68z ?_
    exact .ret (.ex (hq := t133))
   intro e6 qe6
   refine c203z ?_
   refine .rz ?_
   exact ⟨_, by omega, .v ⟨(i + 1), ⟨rfl, ⟨R3 hI (by assumption), by omega⟩⟩, rfl⟩⟩
  intro e5 qe5
  refine .exit ?_
  exfalso; exact LL ho (fun d hd => hI d (by omega))
theorem EH (o : Int) (a b : Ex) (ho : 5 ≤ o ∧ o ≤ 17) (hga : 1 ≤ a.op ∧ a.op ≤ 17) (hgb : 1 ≤ b.op ∧ b.op ≤ 17) (hp : kL (.bin o a b) 0 = true) (hq : kL (.bin o a b) 1 = false) (iha : ∀ (h : c6), CB 121 [.agg (q9 a)] h (.str (bM a))) (hsa : (bM a).size < 1000000) (ihb : ∀ (h : c6), CB 121 [.agg (q9 b)] h (.str (bM b))) (hsb : (bM b).size < 1000000) : CB 121 [.agg (q9 (.bin o a b))] h (.str (bM (.bin o a b))) := by
  refine .bz Tryz.f121 95 ?_
  have hst := rV ho
  have hsg := LJ hst.1 hst.2
  have hsa2 := LK ho
  have hse := (tB ho).2
  refine c62z ?_
  refine c220z ?_
  refine c132z ?_
  refine .nil ?_
  refine .T ?_
  refine c1z ?_
  refine c90z ?_
  refine c221z ?_
  refine c133z ?_
  refine .nil ?_
  refine c15z ?_
  refine c214z ?_
  refine .spl 32 rfl rfl (fun e1 => by exfalso; first | omega | (replace e1 := s9z e1; omega) | (simp at e1; omega) | (simp at e1; done)) (fun e1 => ?_)
  try simp only [e1]
  have qe1 := fact e1
  refine c137z ?_
  refine .spl 39 rfl rfl (fun e2 => by exfalso; first | omega | (replace e2 := s9z e2; omega) | (simp at e2; omega) | (simp at e2; done)) (fun e2 => ?_)
  try simp only [e2]
  have qe2 := fact e2
  refine .F ?_
  refine c67z ?_
  refine .spl 45 rfl rfl (fun e3 => by exfalso; first | omega | (replace e3 := s9z e3; omega) | (simp at e3; omega) | (simp at e3; done)) (fun e3 => ?_)
  try simp only [e3]
  have qe3 := fact e3
  refine c137z ?_
  refine .spl 53 rfl rfl (fun e4 => by exfalso; first | omega | (replace e4 := s9z e4; omega) | (simp at e4; omega) | (simp at e4; done)) (fun e4 => ?_)
  try simp only [e4]
  have qe4 := fact e4
  refine c42z ?_
  refine c187z ?_
  refine .n ?_
  refine c5z ?_
  refine .dK (fun m st => ∃ (i : Nat), (m = (sgO (fA o)).length - i ∧ ((∀ d, d < i → (sgO (fA o)).getD d 0 ≠ o) ∧ i ≤ (sgO (fA o)).length)) ∧ st = ⟨mkS 95 [(1, AV.ptr h.length 0 0), (3, AV.own (h.length + 2) 1 0 2), (6, AV.vec (sgS (fA o)).length (w5 (sgS (fA o)))), (7, AV.vec (sgO (fA o)).length (g9 (sgO (fA o)))), (8, AV.int .i64 ((i : Nat) : Int))], h ++ [⟨0, false, 72, 4, [.int .i64 o, .int .i64 0, .str ByteArray.empty, .vec 2 (q9 a ++ q9 b)], 0⟩, ⟨0, false, 9, 1, [.str (⟨#[40]⟩ ++ bM a ++ ⟨#[41]⟩)], 0⟩, ⟨1, false, 9, 1, [.str (⟨#[40]⟩ ++ bM a ++ ⟨#[41]⟩), .str (bM b)], 0⟩, ⟨0, false, 9, 1, [.str (bM b)], 0⟩]⟩) _ (.v ⟨0, ⟨rfl, ⟨t106, by omega⟩⟩, rfl⟩) ?_
  rintro m sl h' ⟨i, ⟨hm, ⟨hI, hi⟩⟩, hst⟩
  obtain ⟨rfl, rfl⟩ := St.mk.inj hst
  refine c0z ?_
  refine u2z ?_ ?_
  ·intro e5 qe5
   refine c2z ?_
   refine c120z ?_
   refine u2z ?_ ?_
   ·intro e6 qe6
    refine .c7 [3, 6, 8] ?_
    have hsi := hsa2 i (by omega) (by assumption)
    have hss : ((sgS (fA o)).getD i ByteArray.empty).size ≤ 2 := by rw [hsi]; exact hse
    refine c68z ?_
    exact .ret (.ex (hq := t133))
   intro e6 qe6
   refine c203z ?_
   refine .rz ?_
   exact ⟨_, by omega, .v ⟨(i + 1), ⟨rfl, ⟨R3 hI (by assumption), by omega⟩⟩, rfl⟩⟩
  intro e5 qe5
  refine .exit ?_
  exfalso; exact LL ho (fun d hd => hI d (by omega))
theorem EI (o : Int) (a b : Ex) (ho : 5 ≤ o ∧ o ≤ 17) (hga : 1 ≤ a.op ∧ a.op ≤ 17) (hgb : 1 ≤ b.op ∧ b.op ≤ 17) (hp : kL (.bin o a b) 0 = false) (hq : kL (.bin o a b) 1 = true) (iha : ∀ (h : c6), CB 121 [.agg (q9 a)] h (.str (bM a))) (hsa : (bM a).size < 1000000) (ihb : ∀ (h : c6), CB 121 [.agg (q9 b)] h (.str (bM b))) (hsb : (bM b).size < 1000000) : CB 121 [.agg (q9 (.bin o a b))] h (.str (bM (.bin o a b))) := by
  refine .bz Tryz.f121 95 ?_
  have hst := rV ho
  have hsg := LJ hst.1 hst.2
  have hsa2 := LK ho
  have hse := (tB ho).2
  refine c62z ?_
  refine c220z ?_
  refine c132z ?_
  refine .nil ?_
  refine c15z ?_
  refine c90z ?_
  refine c221z ?_
  refine c133z ?_
  refine .nil ?_
  refine .T ?_
  refine c1z ?_
  refine c214z ?_
  refine .spl 32 rfl rfl (fun e1 => by exfalso; first | omega | (replace e1 := s9z e1; omega) | (simp at e1; omega) | (simp at e1; done)) (fun e1 => ?_)
  try simp only [e1]
  have qe1 := fact e1
  refine c137z ?_
  refine .spl 39 rfl rfl (fun e2 => by exfalso; first | omega | (replace e2 := s9z e2; omega) | (simp at e2; omega) | (simp at e2; done)) (fun e2 => ?_)
  try simp only [e2]
  have qe2 := fact e2
  refine .F ?_
  refine c67z ?_
  refine .spl 45 rfl rfl (fun e3 => by exfalso; first | omega | (replace e3 := s9z e3; omega) | (simp at e3; omega) | (simp at e3; done)) (fun e3 => ?_)
  try simp only [e3]
  have qe3 := fact e3
  refine c137z ?_
  refine .spl 53 rfl rfl (fun e4 => by exfalso; first | omega | (replace e4 := s9z e4; omega) | (simp at e4; omega) | (simp at e4; done)) (fun e4 => ?_)
  try simp only [e4]
  have qe4 := fact e4
  refine c42z ?_
  refine c187z ?_
  refine .n ?_
  refine c5z ?_
  refine .dK (fun m st => ∃ (i : Nat), (m = (sgO (fA o)).length - i ∧ ((∀ d, d < i → (sgO (fA o)).getD d 0 ≠ o) ∧ i ≤ (sgO (fA o)).length)) ∧ st = ⟨mkS 95 [(1, AV.ptr h.length 0 0), (3, AV.own (h.length + 2) 1 0 2), (6, AV.vec (sgS (fA o)).length (w5 (sgS (fA o)))), (7, AV.vec (sgO (fA o)).length (g9 (sgO (fA o)))), (8, AV.int .i64 ((i : Nat) : Int))], h ++ [⟨0, false, 72, 4, [.int .i64 o, .int .i64 0, .str ByteArray.empty, .vec 2 (q9 a ++ q9 b)], 0⟩, ⟨0, false, 9, 1, [.str (bM a)], 0⟩, ⟨1, false, 9, 1, [.str (bM a), .str (⟨#[40]⟩ ++ bM b ++ ⟨#[41]⟩)], 0⟩, ⟨0, false, 9, 1, [.str (⟨#[40]⟩ ++ bM b ++ ⟨#[41]⟩)], 0⟩]⟩) _ (.v ⟨0, ⟨rfl, ⟨t106, by omega⟩⟩, rfl⟩) ?_
  rintro m sl h' ⟨i, ⟨hm, ⟨hI, hi⟩⟩, hst⟩
  obtain ⟨rfl, rfl⟩ := St.mk.inj hst
  refine c0z ?_
  refine u2z ?_ ?_
  ·intro e5 qe5
   refine c2z ?_
   refine c120z ?_
   refine u2z ?_ ?_
   ·intro e6 qe6
    refine .c7 [3, 6, 8] ?_
    have hsi := hsa2 i (by omega) (by assumption)
    have hss : ((sgS (fA o)).getD i ByteArray.empty).size ≤ 2 := by rw [hsi]; exact hse
    refine c68z ?_
    exact .ret (.ex (hq := t133))
   intro e6 qe6
   refine c203z ?_
   refine .rz ?_
   exact ⟨_, by omega, .v ⟨(i + 1), ⟨rfl, ⟨R3 hI (by assumption), by omega⟩⟩, rfl⟩⟩
  intro e5 qe5
  refine .exit ?_
  exfalso; exact LL ho (fun d hd => hI d (by omega))
theorem EJ (o : Int) (a b : Ex) (ho : 5 ≤ o ∧ o ≤ 17) (hga : 1 ≤ a.op ∧ a.op ≤ 17) (hgb : 1 ≤ b.op ∧ b.op ≤ 17) (hp : kL (.bin o a b) 0 = false) (hq : kL (.bin o a b) 1 = false) (iha : ∀ (h : c6), CB 121 [.agg (q9 a)] h (.str (bM a))) (hsa : (bM a).size < 1000000) (ihb : ∀ (h : c6), CB 121 [.agg (q9 b)] h (.str (bM b))) (hsb : (bM b).size < 1000000) : CB 121 [.agg (q9 (.bin o a b))] h (.str (bM (.bin o a b))) := by
  refine .bz Tryz.f121 95 ?_
  have hst := rV ho
  have hsg := LJ hst.1 hst.2
  have hsa2 := LK ho
  have hse := (tB ho).2
  refine c62z ?_
  refine c220z ?_
  refine c132z ?_
  refine .nil ?_
  refine c15z ?_
  refine c90z ?_
  refine c221z ?_
  refine c133z ?_
  refine .nil ?_
  refine c15z ?_
  refine c214z ?_
  refine .spl 32 rfl rfl (fun e1 => by exfalso; first | omega | (replace e1 := s9z e1; omega) | (simp at e1; omega) | (simp at e1; done)) (fun e1 => ?_)
  try simp only [e1]
  have qe1 := fact e1
  refine c137z ?_
  refine .spl 39 rfl rfl (fun e2 => by exfalso; first | omega | (replace e2 := s9z e2; omega) | (simp at e2; omega) | (simp at e2; done)) (fun e2 => ?_)
  try simp only [e2]
  have qe2 := fact e2
  refine .F ?_
  refine c67z ?_
  refine .spl 45 rfl rfl (fun e3 => by exfalso; first | omega | (replace e3 := s9z e3; omega) | (simp at e3; omega) | (simp at e3; done)) (fun e3 => ?_)
  try simp only [e3]
  have qe3 := fact e3
  refine c137z ?_
  refine .spl 53 rfl rfl (fun e4 => by exfalso; first | omega | (replace e4 := s9z e4; omega) | (simp at e4; omega) | (simp at e4; done)) (fun e4 => ?_)
  try simp only [e4]
  have qe4 := fact e4
  refine c42z ?_
  refine c187z ?_
  refine .n ?_
  refine c5z ?_
  refine .dK (fun m st => ∃ (i : Nat), (m = (sgO (fA o)).length - i ∧ ((∀ d, d < i → (sgO (fA o)).getD d 0 ≠ o) ∧ i ≤ (sgO (fA o)).length)) ∧ st = ⟨mkS 95 [(1, AV.ptr h.length 0 0), (3, AV.own (h.length + 2) 1 0 2), (6, AV.vec (sgS (fA o)).length (w5 (sgS (fA o)))), (7, AV.vec (sgO (fA o)).length (g9 (sgO (fA o)))), (8, AV.int .i64 ((i : Nat) : Int))], h ++ [⟨0, false, 72, 4, [.int .i64 o, .int .i64 0, .str ByteArray.empty, .vec 2 (q9 a ++ q9 b)], 0⟩, ⟨0, false, 9, 1, [.str (bM a)], 0⟩, ⟨1, false, 9, 1, [.str (bM a), .str (bM b)], 0⟩, ⟨0, false, 9, 1, [.str (bM b)], 0⟩]⟩) _ (.v ⟨0, ⟨rfl, ⟨t106, by omega⟩⟩, rfl⟩) ?_
  rintro m sl h' ⟨i, ⟨hm, ⟨hI, hi⟩⟩, hst⟩
  obtain ⟨rfl, rfl⟩ := St.mk.inj hst
  refine c0z ?_
  refine u2z ?_ ?_
  ·intro e5 qe5
   refine c2z ?_
   refine c120z ?_
   refine u2z ?_ ?_
   ·intro e6 qe6
    refine .c7 [3, 6, 8] ?_
    have hsi := hsa2 i (by omega) (by assumption)
    have hss : ((sgS (fA o)).getD i ByteArray.empty).size ≤ 2 := by rw [hsi]; exact hse
    refine c68z ?_
    exact .ret (.ex (hq := t133))
   intro e6 qe6
   refine c203z ?_
   refine .rz ?_
   exact ⟨_, by omega, .v ⟨(i + 1), ⟨rfl, ⟨R3 hI (by assumption), by omega⟩⟩, rfl⟩⟩
  intro e5 qe5
  refine .exit ?_
  exfalso; exact LL ho (fun d hd => hI d (by omega))
theorem c_textB (o : Int) (a b : Ex) (ho : 5 ≤ o ∧ o ≤ 17) (hga : 1 ≤ a.op ∧ a.op ≤ 17) (hgb : 1 ≤ b.op ∧ b.op ≤ 17) (iha : ∀ (h : c6), CB 121 [.agg (q9 a)] h (.str (bM a))) (hsa : (bM a).size < 1000000) (ihb : ∀ (h : c6), CB 121 [.agg (q9 b)] h (.str (bM b))) (hsb : (bM b).size < 1000000) : CB 121 [.agg (q9 (.bin o a b))] h (.str (bM (.bin o a b))) := by
  cases hp : kL (.bin o a b) 0 <;> cases hq : kL (.bin o a b) 1
  · exact EJ o a b ho hga hgb hp hq iha hsa ihb hsb
  · exact EI o a b ho hga hgb hp hq iha hsa ihb hsb
  · exact EH o a b ho hga hgb hp hq iha hsa ihb hsb
  · exact EG o a b ho hga hgb hp hq iha hsa ihb hsb
theorem I9 : ∀ {d : Nat}, d ≤ 3 → yW d < 1000000
  | 0, _ => by decide
  | 1, _ => by decide
  | 2, _ => by decide
  | 3, _ => by decide
theorem tP {vars : List BA} (hv : Names vars) : ∀ {d : Nat} {e : Ex}, d ≤ 3 → GE vars d e → ∀ (h : c6), CB 121 [.agg (q9 e)] h (.str (bM e))
  | d, .leaf o n s, hd, hg, h => by
    rcases iK.1 hg with ⟨rfl, h1, h2, rfl⟩ | ⟨rfl, rfl, h1⟩
    · exact c_text1 n h1 h2
    · exact c_text2 0 s
  | 0, .un o a, hd, hg, h => hg.elim
  | 0, .bin o a b, hd, hg, h => hg.elim
  | d + 1, .un o a, hd, hg, h => c_textU o a hg.1 (GE.op hg.2) (tP hv (by omega) hg.2) (Nat.lt_of_le_of_lt (bP hv hg.2).2 (I9 (by omega)))
  | d + 1, .bin o a b, hd, hg, h => c_textB o a b hg.1 (GE.op hg.2.1) (GE.op hg.2.2) (tP hv (by omega) hg.2.1) (Nat.lt_of_le_of_lt (bP hv hg.2.1).2 (I9 (by omega))) (tP hv (by omega) hg.2.2) (Nat.lt_of_le_of_lt (bP hv hg.2.2).2 (I9 (by omega)))
theorem EK {e : Ex} : l8 [e] = q9 e := by simp [l8]
theorem EL (x : BA) : CB 123 [.agg [.str x, .vec 0 []]] h (.str x) := by
  refine .bz Tryz.f123 19 ?_
  refine c83z ?_
  refine .T ?_
  refine .z ?_
  exact .ret (.ex (hq := by rfl))
variable {vars : List BA}
theorem c_refT1 (hv : Names vars) (x : BA) (e : Ex) (hg : GE vars 1 e) (hx : x.size ≤ 16) : CB 123 [.agg [.str x, .vec 1 (q9 e)]] h (.str (x ++ IH ++ bM e ++ II)) := by
  refine .bz Tryz.f123 19 ?_
  have hse := (bP hv hg).2
  have hb : yW 1 = 48 := rfl
  refine c83z ?_
  refine c15z ?_
  refine .ss r9 (mkP 11 [0, 1, 3, 0, 8, 24, 56, 120, 255, 511, 1023] []) ?_
  refine .k 7 [] ?_
  refine .ca rfl rfl (tP hv (by omega) hg _) ?_
  refine .n [] ?_
  exact .ret (.ex (hq := by rfl))
variable {E : Env}
theorem R4 (hE : rK E) (hv : Names vars) {r : Rf} (g : GR E vars r) : CB 123 [.agg (P4 r)] h (.str (IJ r)) := by
  obtain ⟨x, idx⟩ := r
  rcases g with ⟨m, hm, hn, ⟨_, e, hi, he⟩ | ⟨_, hi⟩⟩ | ⟨p, hp, _, hn, hi⟩
  · have hx := u0 (hE.mn m hm)
    simp only at hn hi
    rw [← hn] at hx
    subst hi
    have := c_refT1 (h := h) hv x e he hx
    simp only [P4, List.length_singleton, EK]
    exact this
  · simp only at hi
    subst hi
    exact EL x
  · simp only at hi
    subst hi
    exact EL x
variable {xs : List Ar}
theorem LM (h : (xs.getD i cN).mu = true) (h0 : 0 < i) : dT xs (i + 1) = dT xs i ++ kN ++ aX ++ IJ (xs.getD i cN).r := by rw [dT, if_pos h, if_pos h0]
theorem LN (h : (xs.getD i cN).mu = true) (h0 : ¬ 0 < i) : dT xs (i + 1) = dT xs i ++ aX ++ IJ (xs.getD i cN).r := by rw [dT, if_pos h, if_neg h0]
theorem LO (h : (xs.getD i cN).mu = false) (h0 : 0 < i) : dT xs (i + 1) = dT xs i ++ kN ++ bM (xs.getD i cN).e := by rw [dT, if_neg t177, if_pos h0]
theorem LP (h : (xs.getD i cN).mu = false) (h0 : ¬ 0 < i) : dT xs (i + 1) = dT xs i ++ bM (xs.getD i cN).e := by rw [dT, if_neg t177, if_neg h0]
theorem tQ {a : Ar} : AU a = [.bool a.mu, .str a.r.name, .vec a.r.idx.length (l8 a.r.idx), .int .i64 a.e.op, .int .i64 a.e.num, .str a.e.name, .vec a.e.args.length (l8 a.e.args)] := by rw [AU, aW]
variable {l : List Ar}
theorem LQ (h : i < l.length) : List.take 1 (List.drop (i * 7) (aR l)) = [AV.bool (l.getD i cN).mu] := by
  have := congrArg (fun x => x.take 1) (sY h)
  simp only [List.take_take, tQ] at this
  simpa using this
theorem read_ar (h : i < l.length) : List.take 2 (List.drop (i * 7 + 1) (aR l)) = P4 (l.getD i cN).r := by
  have := congrArg (fun x => (x.drop 1).take 2) (sY h)
  simp only [tQ, List.drop_take, List.take_take, List.drop_drop] at this
  simpa [P4] using this
theorem read_ae (h : i < l.length) : List.take 4 (List.drop (i * 7 + 3) (aR l)) = q9 (l.getD i cN).e := by
  have := congrArg (fun x => (x.drop 3).take 4) (sY h)
  simp only [tQ, List.drop_take, List.take_take, List.drop_drop] at this
  rw [aW]
  simpa using this
theorem Y8 (hE : rK E) (hv : Names vars) (h : ∀ a ∈ xs, (a.mu = true ∧ GR E vars a.r) ∨ (a.mu = false ∧ GE vars 2 a.e)) (i : Nat) (hi : i ≤ xs.length) : (dT xs i).size ≤ 1 + 112 * i := (xN hE hv h i hi).2.1
theorem QG (h : ∀ a ∈ xs, (a.mu = true ∧ GR E vars a.r) ∨ (a.mu = false ∧ GE vars 2 a.e)) (hi : i < xs.length) : ((xs.getD i cN).mu = true → GR E vars (xs.getD i cN).r) ∧ ((xs.getD i cN).mu = false → GE vars 2 (xs.getD i cN).e) := by
  have hm := h _ (l9 (d := cN) hi)
  rcases hm with ⟨h1, h2⟩ | ⟨h1, h2⟩
  · exact ⟨fun _ => h2, fun h => absurd (h1.symm.trans h) (by decide)⟩
  · exact ⟨fun h => absurd (h1.symm.trans h) (by decide), fun _ => h2⟩
section
attribute [local go_sem] LQ read_ar read_ae
theorem EM (hE : rK E) (hv : Names vars) (xs : List Ar) (ha : ∀ a ∈ xs, (a.mu = true ∧ GR E vars a.r) ∨ (a.mu = false ∧ GE vars 2 a.e)) (hl : xs.length ≤ 100) : CB 122 [.vec xs.length (aR xs)] h (.str (PQ xs)) := by
  refine .bz Tryz.f122 39 ?_
  refine c62z ?_
  refine .dK (fun m st => ∃ (i : Nat), (m = xs.length - i ∧ i ≤ xs.length) ∧ st = ⟨mkS 39 [(0, AV.vec xs.length (aR xs)), (3, AV.str (dT xs i)), (4, AV.int .i64 ((i : Nat) : Int))], h⟩) _ (.v ⟨0, ⟨rfl, by omega⟩, rfl⟩ (hs := t25)) ?_
  rintro m sl h' ⟨i, ⟨hm, hi⟩, hst⟩
  obtain ⟨rfl, rfl⟩ := St.mk.inj hst
  have hsz := Y8 hE hv ha i hi
  refine c0z ?_
  refine u2z ?_ ?_
  ·intro e1 qe1
   refine c2z ?_
   refine c0z ?_
   refine u2z ?_ ?_
   ·intro e2 qe2
    refine c1z ?_
    refine .c7 [0, 3, 4] ?_
    have har := QG ha (i := i) (by omega)
    refine .z ?_
    refine u2z ?_ ?_
    ·intro e3 qe3
     have hrs := ((har.1 (by assumption)).pw hE hv).2
     refine .r ?_
     refine .e 7 ?_
     refine .ca rfl rfl (R4 hE hv (har.1 (by assumption))) ?_
     refine c229z ?_
     refine .rz ?_
     exact ⟨_, by omega, .v ⟨(i + 1), ⟨rfl, by omega⟩, rfl⟩ (hs := t25)⟩
    intro e3 qe3
    have hes := (bP hv (har.2 (by assumption))).2
    have hb : yW 2 = 104 := rfl
    refine .r ?_
    refine .e 6 ?_
    refine .ca rfl rfl (tP hv (by omega) (har.2 (by assumption)) _) ?_
    refine c229z ?_
    refine .rz ?_
    exact ⟨_, by omega, .v ⟨(i + 1), ⟨rfl, by omega⟩, rfl⟩ (hs := t25)⟩
   intro e2 qe2
   refine .sk ?_
   have har := QG ha (i := i) (by omega)
   refine .z ?_
   refine u2z ?_ ?_
   ·intro e4 qe4
    refine .c7 [0, 3, 4] ?_
    have hrs := ((har.1 (by assumption)).pw hE hv).2
    refine .r ?_
    refine .e 7 ?_
    refine .ca rfl rfl (R4 hE hv (har.1 (by assumption))) ?_
    refine c229z ?_
    refine .rz ?_
    exact ⟨_, by omega, .v ⟨(i + 1), ⟨rfl, by omega⟩, rfl⟩ (hs := t25)⟩
   intro e4 qe4
   refine .c7 [0, 3, 4] ?_
   have hes := (bP hv (har.2 (by assumption))).2
   have hb : yW 2 = 104 := rfl
   refine .r ?_
   refine .e 6 ?_
   refine .ca rfl rfl (tP hv (by omega) (har.2 (by assumption)) _) ?_
   refine c229z ?_
   refine .rz ?_
   exact ⟨_, by omega, .v ⟨(i + 1), ⟨rfl, by omega⟩, rfl⟩ (hs := t25)⟩
  intro e1 qe1
  refine .exit ?_
  obtain rfl : i = xs.length := by omega
  change c8 ..
  refine c25z ?_
  exact ⟨[], _, (List.append_nil _).symm, t44, by rfl⟩
end
section
attribute [local go_sem] j8
theorem c_noE : CB 102 [.agg (q9 j8)] h (.bool true) := by
  refine .bz Tryz.f102 22 ?_
  refine c61z ?_
  refine .k 8 [(3, 6)] ?_
  refine .k 8 [(8, 11), (13, 16)] ?_
  refine .m [(13, 16)] ?_
  exact .ret (.ex (hq := by rfl))
end
theorem c_noR : CB 104 [.agg (P4 l6)] h (.bool true) := by
  show CallA _ _ _ [.agg [.str ByteArray.empty, .vec 0 []]] _ _
  refine .bz Tryz.f104 12 ?_
  refine c61z ?_
  refine .k 8 [(3, 6)] ?_
  refine .n ?_
  exact .ret (.ex (hq := by rfl))
theorem QH (x : BA) (hx : isName (L8 x)) (hr : rS x = false) : CB 103 [.agg [.str x, .vec 0 []]] h (.bool true) := by
  refine .bz Tryz.f103 25 ?_
  refine .z ?_
  refine c38z ?_
  refine .ca rfl rfl (lC _ hx hr) ?_
  refine .k 8 [(3, 6), (8, 11)] ?_
  refine .k 8 [(8, 11), (13, 16)] ?_
  refine .m [(3, 6), (8, 11)] ?_
  exact .ret (.ex (hq := by rfl))
theorem c_okR1 (hv : u9 vars) (x : BA) (hx : isName (L8 x)) (hr : rS x = false) (e : Ex) (hg : GE vars 1 e) : CB 103 [.agg [.str x, .vec 1 (q9 e)]] h (.bool true) := by
  refine .bz Tryz.f103 25 ?_
  refine .z ?_
  refine c38z ?_
  refine .ca rfl rfl (lC _ hx hr) ?_
  refine .k 8 [(3, 6), (8, 11)] ?_
  refine .k 7 [(8, 11), (13, 16)] ?_
  refine .ca rfl rfl (R2 hv (by omega) e hg) ?_
  refine .m [(3, 6), (8, 11)] ?_
  exact .ret (.ex (hq := by rfl))
structure GRes (E : Env) : Prop where
  mn : ∀ m ∈ E.c4, rS m.name = false
  pn : ∀ p ∈ E.params, rS p.name = false
theorem LR (hE : rK E) (hR : GRes E) (hv : u9 vars) {r : Rf} (g : GR E vars r) : CB 103 [.agg (P4 r)] h (.bool true) := by
  obtain ⟨x, idx⟩ := r
  rcases g with ⟨m, hm, hn, ⟨_, e, hi, he⟩ | ⟨_, hi⟩⟩ | ⟨p, hp, _, hn, hi⟩
  · have h1 := hE.mn m hm
    have h2 := hR.mn m hm
    simp only at hn hi
    rw [← hn] at h1 h2
    subst hi
    have := c_okR1 (h := h) hv x h1 h2 e he
    simp only [P4, List.length_singleton, EK]
    exact this
  · have h1 := hE.mn m hm
    have h2 := hR.mn m hm
    simp only at hn hi
    rw [← hn] at h1 h2
    subst hi
    exact QH x h1 h2
  · have h1 := hE.pn p hp
    have h2 := hR.pn p hp
    simp only at hn hi
    rw [← hn] at h1 h2
    subst hi
    exact QH x h1 h2
end Go.Proofs.YtfbjlfhjkojmkaaGreat
end
section
namespace Go.Un
open Go.Ab
theorem cG : ∀ s : Sl, s.len ≤ s.wt
 | .nil => Nat.le_refl _
 | .cons k n e r as1 th el rest => by
  have := cG rest
  simp only [Sl.len, Sl.wt]
  omega
section
variable {c : Core} {ps : List Pm} {blk : List BA → Int → Int → Int → Int → BR} {vs : List BA} {deep J l : Int}
theorem r_lock (h : (c5 c.L J 14).1 < 4) : o7 c ps blk vs deep J l = (row 5 ByteArray.empty j8 (r6 c ps vs (c5 c.L J 14).2).1 [] .nil .nil, vs, (r6 c ps vs (c5 c.L J 14).2).2, l) := by
 unfold o7 hU
 rw [if_pos h]
theorem LS (h0 : ¬ (c5 c.L J 14).1 < 4) (h : (c5 c.L J 14).1 < 7) : o7 c ps blk vs deep J l = (row 6 ByteArray.empty j8 (r6 c ps vs (c5 c.L J 14).2).1 [] .nil .nil, vs, (r6 c ps vs (c5 c.L J 14).2).2, l) := by
 unfold o7 hU
 rw [if_neg h0, if_pos h]
theorem r_var (h : (c5 c.L J 14).1 = 7) : o7 c ps blk vs deep J l = (row 1 (vnm l.toNat) (g6 c vs (c5 c.L J 14).2).1 l6 [] .nil .nil, vs ++ [vnm l.toNat], (g6 c vs (c5 c.L J 14).2).2, l) := by
 unfold o7 hU
 rw [if_neg (by omega), if_neg (by omega), if_pos h]
theorem LU (h : (c5 c.L J 14).1 = 8) (h2 : 0 < vs.length) : o7 c ps blk vs deep J l = (row 2 (vs.getD (c5 c.L (c5 c.L J 14).2 vs.length).1.toNat ByteArray.empty) (g6 c vs (c5 c.L (c5 c.L J 14).2 vs.length).2).1 l6 [] .nil .nil, vs, (g6 c vs (c5 c.L (c5 c.L J 14).2 vs.length).2).2, l) := by
 unfold o7 hU
 rw [if_neg (by omega), if_neg (by omega), if_neg (by omega), if_pos ⟨h, h2⟩]
theorem r_call (h : (c5 c.L J 14).1 = 9) : o7 c ps blk vs deep J l = (row 3 (c.fs.getD (c5 c.L (c5 c.L J 14).2 c.fs.length).1.toNat g7).name j8 l6 (u6 c ps vs (c.fs.getD (c5 c.L (c5 c.L J 14).2 c.fs.length).1.toNat g7).params (c5 c.L (c5 c.L J 14).2 c.fs.length).2).1 .nil .nil, vs,
   (u6 c ps vs (c.fs.getD (c5 c.L (c5 c.L J 14).2 c.fs.length).1.toNat g7).params (c5 c.L (c5 c.L J 14).2 c.fs.length).2).2, l) := by
 unfold o7 hU
 rw [if_neg (by omega), if_neg (by omega), if_neg (by omega), if_neg (by omega), if_pos (.inl h), if_neg (by omega)]
theorem r_go (h : (c5 c.L J 14).1 = 10) : o7 c ps blk vs deep J l = (row 4 (c.fs.getD (c5 c.L (c5 c.L J 14).2 c.fs.length).1.toNat g7).name j8 l6 (u6 c ps vs (c.fs.getD (c5 c.L (c5 c.L J 14).2 c.fs.length).1.toNat g7).params (c5 c.L (c5 c.L J 14).2 c.fs.length).2).1 .nil .nil, vs,
   (u6 c ps vs (c.fs.getD (c5 c.L (c5 c.L J 14).2 c.fs.length).1.toNat g7).params (c5 c.L (c5 c.L J 14).2 c.fs.length).2).2, l) := by
 unfold o7 hU
 rw [if_neg (by omega), if_neg (by omega), if_neg (by omega), if_neg (by omega), if_pos (.inr h), if_pos h]
variable {b : BR}
theorem r_if (h : (c5 c.L J 14).1 = 11) (h2 : 0 < deep) {d : BR} (hb : blk vs (deep - 1) 3 (g6 c vs (c5 c.L J 14).2).2 l = b) (h3 : (c5 c.L b.2.1 2).1 = 1) (hd : blk vs (deep - 1) 3 (c5 c.L b.2.1 2).2 b.2.2 = d) : o7 c ps blk vs deep J l = (row 7 ByteArray.empty (g6 c vs (c5 c.L J 14).2).1 l6 [] b.1 d.1, vs, d.2.1, d.2.2) := by
 unfold o7 hU
 rw [if_neg (by omega), if_neg (by omega), if_neg (by omega), if_neg (by omega), if_neg (by omega), if_pos ⟨h, h2⟩, hb]
 unfold ifK
 rw [if_pos h3, hd]
theorem r_if2 (h : (c5 c.L J 14).1 = 11) (h2 : 0 < deep) (hb : blk vs (deep - 1) 3 (g6 c vs (c5 c.L J 14).2).2 l = b) (h3 : ¬ (c5 c.L b.2.1 2).1 = 1) : o7 c ps blk vs deep J l = (row 7 ByteArray.empty (g6 c vs (c5 c.L J 14).2).1 l6 [] b.1 .nil, vs, (c5 c.L b.2.1 2).2, b.2.2) := by
 unfold o7 hU
 rw [if_neg (by omega), if_neg (by omega), if_neg (by omega), if_neg (by omega), if_neg (by omega), if_pos ⟨h, h2⟩, hb]
 unfold ifK
 rw [if_neg h3]
theorem r_while (h : (c5 c.L J 14).1 = 12) (h2 : 0 < deep) (hb : blk vs (deep - 1) 3 (g6 c vs (c5 c.L J 14).2).2 l = b) : o7 c ps blk vs deep J l = (row 8 ByteArray.empty (g6 c vs (c5 c.L J 14).2).1 l6 [] b.1 .nil, vs, b.2.1, b.2.2) := by
 unfold o7 hU
 rw [if_neg (by omega), if_neg (by omega), if_neg (by omega), if_neg (by omega), if_neg (by omega), if_neg (by omega), if_pos ⟨h, h2⟩, hb]
theorem r_ret (h : (c5 c.L J 14).1 = 13) (h2 : (c5 c.L (c5 c.L J 14).2 3).1 = 1) : o7 c ps blk vs deep J l = (row 9 ByteArray.empty j8 l6 [] .nil .nil, vs, (c5 c.L (c5 c.L J 14).2 3).2, l) := by
 unfold o7 hU
 rw [if_neg (by omega), if_neg (by omega), if_neg (by omega), if_neg (by omega), if_neg (by omega), if_neg (by omega), if_neg (by omega), if_pos ⟨h, h2⟩]
theorem LV (h : (c5 c.L J 14).1 = 13) (h2 : ¬ (c5 c.L (c5 c.L J 14).2 3).1 = 1) (hb : blk vs 0 2 (r6 c ps vs (c5 c.L (c5 c.L J 14).2 3).2).2 l = b) : o7 c ps blk vs deep J l = prK vs (r6 c ps vs (c5 c.L (c5 c.L J 14).2 3).2).1 b := by
 unfold o7 hU
 rw [if_neg (by omega), if_neg (by omega), if_neg (by omega), if_neg (by omega), if_neg (by omega), if_neg (by omega), if_neg (by omega), if_neg (by omega), if_pos h, hb]
theorem EN (h7 : 7 < (c5 c.L J 14).1) (h13 : ¬ (c5 c.L J 14).1 = 13) (h8 : (c5 c.L J 14).1 = 8 → vs.length = 0) (h9 : ¬ (c5 c.L J 14).1 = 9) (h10 : ¬ (c5 c.L J 14).1 = 10) (h11 : (c5 c.L J 14).1 = 11 → deep ≤ 0) (h12 : (c5 c.L J 14).1 = 12 → deep ≤ 0) (hb : blk vs 0 2 (r6 c ps vs (c5 c.L J 14).2).2 l = b) : o7 c ps blk vs deep J l = prK vs (r6 c ps vs (c5 c.L J 14).2).1 b := by
 unfold o7 hU
 rw [if_neg (by omega), if_neg (by omega), if_neg (by omega), if_neg (by omega), if_neg (by omega), if_neg (by omega), if_neg (by omega), if_neg (by omega), if_neg h13, hb]
end
variable {out : Sl}
theorem bX {c : Core} {ps : List Pm} {blk : List BA → Int → Int → Int → Int → BR} {n : Nat} {vs vs' : List BA} {deep J l J' l' : Int} {S : Sl} {R : BR} (h : fF c ps blk (n + 1) vs deep out J l = R) (hl : 0 < l) (hr : o7 c ps blk vs deep J (l - 1) = (S, vs', J', l')) : fF c ps blk n vs' deep (out.app S) J' l' = R := by
 rw [fF, if_neg (by omega), hr] at h
 exact h
theorem R5 {c : Core} {ps : List Pm} {blk : List BA → Int → Int → Int → Int → BR} {n : Nat} {vs : List BA} {deep J l : Int} {R : BR} (h : fF c ps blk n vs deep out J l = R) (hl : n = 0 ∨ l ≤ 0) : R = (out, J, l) := by
 rw [← h]
 cases n with
 | zero => rfl
 | succ n => rw [fF, if_pos (by omega)]
theorem aU {c : Core} (hc : OkC c) {ps : List Pm} {fu : Nat} (hfu : fu ≤ 23) {all vs vs' : List BA} {left0 deep J l J' l' : Int} {out S : Sl} (h0 : left0 ≤ fu + 1) (hd : 0 ≤ deep) (ho : OkB (Y3 c ps) c.L all left0 (deep.toNat + 1) (out, J, l)) (hv : ∀ x ∈ vs, x ∈ u3 out all) (hl : 0 < l)
  (hr : o7 c ps (g0 c ps fu) vs deep J (l - 1) = (S, vs', J', l')) : OkB (Y3 c ps) c.L all left0 (deep.toNat + 1) (out.app S, J', l') ∧ l' ≤ l - 1 ∧ ∀ x ∈ vs', x ∈ u3 (out.app S) all := by
 have hl2 := ho.ol
 have hw := ho.wt
 have hdp := ho.dep
 simp only at hl2 hw hdp
 obtain ⟨r1, r2, r3⟩ := Q3 hc (ps := ps) (blk := g0 c ps fu) (vars := vs) (all := u3 out all) (deep := deep) (I := J) (left := l - 1) ho.oi ⟨by omega, by omega⟩ hd hv (ho.fr.mono t78) fun d most I all' l' a1 a2 a3 a4 a5 a6 a7 => fZ hc fu vs d most I all' l' a1 a2 a3 a4 (by omega) (by omega) a6 a7
 rw [hr] at r1 r2 r3
 have q1 := r1.ol
 have q2 := r1.wt
 have q3 := r1.dep
 simp only at q1 q2 q3 r2 r3
 refine ⟨⟨r1.oi, ⟨q1.1, t78⟩, GS.app.2 ⟨ho.gs, r1.gs⟩, ?_, ?_, ?_⟩, r2, ?_⟩
 ·simp only [eM]; exact r1.fr
 ·simp only [Sl.A7]; omega
 ·simp only [xQ]; omega
 ·rw [eM]; exact r3
def YK (l : List Mx) : Prop := ∀ j, j < l.length → (l.getD j z6).name = mnm j ∧ 0 ≤ (l.getD j z6).size ∧ (l.getD j z6).size ≤ 3 ∧ ((l.getD j z6).re = true → (l.getD j z6).size = 0)
def YL (l : List Gl) : Prop := ∀ j, j < l.length → (l.getD j kF).name = gnm j ∧ -10 ≤ (l.getD j kF).init ∧ (l.getD j kF).init ≤ 10
def LW (N n : Nat) (l : List Pm) : Prop := (n = N ∧ l = []) ∨ (N = 1 ∧ n = 0 ∧ l.map (·.name) = [pnm 1]) ∨ (N = 2 ∧ n = 1 ∧ l.map (·.name) = [pnm 2]) ∨ (N = 2 ∧ n = 0 ∧ l.map (·.name) = [pnm 2, pnm 1])
def LY (l : List Fu) : Prop := ∀ j, j < l.length → (l.getD j g7).name = fnm j ∧ (j = 0 → (l.getD j g7).params = []) ∧
  ((l.getD j g7).params.map (·.name) = [] ∨ (l.getD j g7).params.map (·.name) = [pnm 1] ∨ (l.getD j g7).params.map (·.name) = [pnm 2, pnm 1])
variable {j : Nat}
theorem tR {α : Type} {l : List α} {x d : α} (h : j < (l ++ [x]).length) : (j < l.length ∧ (l ++ [x]).getD j d = l.getD j d) ∨ (j = l.length ∧ (l ++ [x]).getD j d = x) := by
 simp at h
 by_cases hj : j < l.length
 ·exact .inl ⟨hj, by simp [List.getD, List.getElem?_append_left hj]⟩
 ·obtain rfl : j = l.length := by omega
  exact .inr ⟨rfl, by simp [List.getD]⟩
theorem YK.snoc {l : List Mx} (h : YK l) {m : Mx} (h1 : m.name = mnm l.length) (h2 : 0 ≤ m.size ∧ m.size ≤ 3) (h3 : m.re = true → m.size = 0) : YK (l ++ [m]) := fun j hj => by
 rcases tR (d := z6) hj with ⟨q, e⟩ | ⟨rfl, e⟩
 ·rw [e]; exact h j q
 ·rw [e]; exact ⟨h1, h2.1, h2.2, h3⟩
theorem YL.snoc {l : List Gl} (h : YL l) {m : Gl} (h1 : m.name = gnm l.length) (h2 : -10 ≤ m.init ∧ m.init ≤ 10) : YL (l ++ [m]) := fun j hj => by
 rcases tR (d := kF) hj with ⟨q, e⟩ | ⟨rfl, e⟩
 ·rw [e]; exact h j q
 ·rw [e]; exact ⟨h1, h2⟩
theorem LY.snoc {l : List Fu} (h : LY l) {f : Fu} (h1 : f.name = fnm l.length) (h2 : l.length = 0 → f.params = []) (h3 : f.params.map (·.name) = [] ∨ f.params.map (·.name) = [pnm 1] ∨ f.params.map (·.name) = [pnm 2, pnm 1]) : LY (l ++ [f]) := fun j hj => by
 rcases tR (d := g7) hj with ⟨q, e⟩ | ⟨rfl, e⟩
 ·rw [e]; exact h j q
 ·rw [e]; exact ⟨h1, h2, h3⟩
variable {N n : Nat} {l : List Pm}
theorem LW.step (h : LW N n l) (hn : 0 < n) (hN : N ≤ 2) {p : Pm} (hp : p.name = pnm n) : LW N (n - 1) (l ++ [p]) := by
 rcases h with ⟨rfl, rfl⟩ | ⟨_, h, _⟩ | ⟨rfl, rfl, h⟩ | ⟨_, h, _⟩
 ·have : n = 1 ∨ n = 2 := by omega
  rcases this with rfl | rfl
  ·exact .inr (.inl ⟨rfl, rfl, by simp [hp]⟩)
  ·exact .inr (.inr (.inl ⟨rfl, rfl, by simp [hp]⟩))
 ·omega
 ·exact .inr (.inr (.inr ⟨rfl, rfl, by simp [h, hp]⟩))
 ·omega
theorem LW.fin (h : LW N n l) (hn : n = 0 ∨ l = []) (hN : N ≤ 2) : l.map (·.name) = [] ∨ l.map (·.name) = [pnm 1] ∨ l.map (·.name) = [pnm 2, pnm 1] := by
 rcases h with ⟨rfl, rfl⟩ | ⟨_, _, h⟩ | ⟨_, h1, h⟩ | ⟨_, _, h⟩
 ·exact .inl rfl
 ·exact .inr (.inl h)
 ·rcases hn with hn | hn
  ·omega
  ·subst hn; exact .inl rfl
 ·exact .inr (.inr h)
theorem LW.len (h : LW N n l) : l.length ≤ 2 := by
 have : l.length = (l.map (·.name)).length := by simp
 rcases h with ⟨rfl, rfl⟩ | ⟨_, _, h⟩ | ⟨_, _, h⟩ | ⟨_, _, h⟩
 ·simp
 all_goals rw [this, h]; simp
def bY (l : List Pm) : List BA := (l.filter fun x => !x.mu).map (·.name)
theorem C6 (h : j < l.length) : bY (l.take (j + 1)) = bY (l.take j) ++ (if (l.getD j fW).mu then [] else [(l.getD j fW).name]) := by
 unfold bY
 rw [List.take_add_one, List.filter_append, List.map_append]
 congr 1
 simp only [List.getD_eq_getElem?_getD, List.getElem?_eq_getElem h, Option.toList_some, Option.getD_some, List.filter_cons, List.filter_nil]
 cases l[j].mu <;> rfl
def setBody (fs : List Fu) (i : Nat) (B : Sl) : List Fu := fs.set i { fs.getD i g7 with body := B }
def mG (fs : List Fu) : List (BA × List Pm) := fs.map fun f => (f.name, f.params)
variable {fs : List Fu} {i : Nat} {B : Sl}
theorem jS : (setBody fs i B).length = fs.length := by simp [setBody]
theorem jT (h : i < fs.length) : (setBody fs i B).getD j g7 = if j = i then { fs.getD i g7 with body := B } else fs.getD j g7 := by
 unfold setBody
 by_cases e : j = i
 ·subst e
  simp [List.getD, h]
 ·rw [if_neg e]
  simp [List.getD, List.getElem?_set_ne (Ne.symm e)]
theorem oB (h : i < fs.length) : mG (setBody fs i B) = mG fs := by
 refine List.ext_getElem (by simp [mG, setBody]) fun j h1 h2 => ?_
 have hj : j < fs.length := by simpa [mG] using h2
 have e := jT (j := j) (B := B) h
 have e1 : (setBody fs i B).getD j g7 = (setBody fs i B)[j]'(by rw [jS]; exact hj) := by simp [List.getD, jS, hj]
 have e2 : fs.getD j g7 = fs[j] := by simp [List.getD, hj]
 simp only [mG, List.getElem_map]
 rw [← e1, ← e2, e]
 split
 ·rename_i q; subst q; rfl
 ·rfl
theorem LY.mG {l l' : List Fu} (h : LY l) (e : mG l' = mG l) : LY l' := fun j hj => by
 have hl : l'.length = l.length := by have := congrArg List.length e; simpa [Un.mG] using this
 have e1 : ∀ (m : List Fu), j < m.length → (Un.mG m).getD j (ByteArray.empty, []) = ((m.getD j g7).name, (m.getD j g7).params) := fun m hm => by simp [Un.mG, List.getD, hm]
 have h1 := e1 l' hj
 have h2 := e1 l (by omega)
 rw [e, h2] at h1
 injection h1 with h3 h4
 have := h j (by omega)
 rw [h3, h4] at this
 exact this
structure Db (gs : List Gl) (ms : List Mx) (fs : List Fu) (i : Nat) (left : Int) : Prop where
 body : ∀ j, j < i → GS ⟨gs.map (·.name), ms, mG fs, (fs.getD j g7).params⟩ (fs.getD j g7).body (gs.map (·.name) ++ bY (fs.getD j g7).params) ∧ (fs.getD j g7).body.dep ≤ 3
 wt : qT fs i ≤ 2 * (24 - left).toNat
 ol : 0 ≤ left ∧ left ≤ 24
theorem vT {l l' : List Fu} : ∀ i, (∀ j, j < i → (l.getD j g7).body = (l'.getD j g7).body) → qT l i = qT l' i
 | 0, _ => rfl
 | i + 1, h => by
  rw [qT, qT, vT i fun j hj => h j (by omega), h i (by omega)]
theorem Db.step {gs : List Gl} {ms : List Mx} {fs : List Fu} {i : Nat} {left left' : Int} {L : List Int} {B : Sl} {I' : Int} (h : Db gs ms fs i left) (hi : i < fs.length)
  (hb : OkB ⟨gs.map (·.name), ms, mG fs, (fs.getD i g7).params⟩ L (gs.map (·.name) ++ bY (fs.getD i g7).params) left 3 (B, I', left')) : Db gs ms (setBody fs i B) (i + 1) left' := by
 have hol := hb.ol
 have hwt := hb.wt
 have h1 := h.ol
 have h2 := h.wt
 simp only at hol hwt
 refine ⟨fun j hj => ?_, ?_, by omega⟩
 ·rw [oB hi, jT hi]
  by_cases e : j = i
  ·subst e
   rw [if_pos rfl]
   exact ⟨hb.gs, hb.dep⟩
  ·rw [if_neg e]
   exact h.body j (by omega)
 ·have e1 : qT (setBody fs i B) i = qT fs i := vT i fun j hj => by rw [jT hi, if_neg (by omega)]
  rw [qT, e1, jT hi, if_pos rfl]
  simp only
  omega
variable {gs : List Gl}
theorem prog_ok {ms : List Mx} {left : Int} (hg : YL gs) (hgl : gs.length ≤ 2) (hm : YK ms) (hml : 1 ≤ ms.length ∧ ms.length ≤ 4) (hf : LY fs) (hfl : 1 ≤ fs.length ∧ fs.length ≤ 4) (hb : Db gs ms fs fs.length left) : GP ⟨gs, ms, fs⟩ := by
 have hw := hb.wt
 have hl := hb.ol
 refine ⟨⟨hgl, hg, hml, hm, hfl, hf⟩, fun i hi => ?_, by show qT fs fs.length ≤ 48; omega⟩
 exact hb.body i hi
theorem Y9 {ps : List Pm} (hg : YL gs) (hgl : gs.length ≤ 2) (hp : ps.map (·.name) = [] ∨ ps.map (·.name) = [pnm 1] ∨ ps.map (·.name) = [pnm 2, pnm 1]) : Fr 24 (gs.map (·.name) ++ bY ps) := by
 intro j hj hm
 refine B3 j hj ?_
 rcases List.mem_append.1 hm with hm | hm
 ·obtain ⟨g, hg1, hg2⟩ := List.mem_map.1 hm
  obtain ⟨k, hk, rfl⟩ := bF (d := kF) hg1
  rw [← hg2, (hg k hk).1]
  exact List.mem_append.2 (.inl (List.mem_map.2 ⟨k, List.mem_range.2 (by omega), rfl⟩))
 ·obtain ⟨p, hp1, hp2⟩ := List.mem_map.1 hm
  have hp3 : p.name ∈ ps.map (·.name) := List.mem_map.2 ⟨p, (List.mem_filter.1 hp1).1, rfl⟩
  rw [hp2] at hp3
  refine List.mem_append.2 (.inr (List.mem_append.2 (.inr (List.mem_append.2 (.inr ?_)))))
  rcases hp with e | e | e
  ·rw [e] at hp3; simp at hp3
  ·rw [e] at hp3; simp at hp3; rw [hp3]; simp
  ·rw [e] at hp3; simpa using hp3
theorem okC_of {L : List Int} {ms : List Mx} {gF : Nat} {ar : Bool} (hm : YK ms) (hml : 1 ≤ ms.length ∧ ms.length ≤ 4) (hf : LY fs) (hfl : 1 ≤ fs.length ∧ fs.length ≤ 4) : OkC ⟨L, gs, ms, fs, gF, ar⟩ := by
 refine ⟨hml, fun i hi => ⟨(hm i hi).2.1, (hm i hi).2.2.1⟩, hfl, fun f hff => ?_⟩
 obtain ⟨k, hk, rfl⟩ := bF (d := g7) hff
 have h1 := (hf k hk).2.2
 have h2 : (fs.getD k g7).params.length = ((fs.getD k g7).params.map (·.name)).length := by simp
 rw [h2]
 rcases h1 with e | e | e <;> rw [e] <;> simp
end Go.Un
end
section
namespace Go.Proofs.YtfbjlfhjkojmkaaGreat
open Go.Ab Go.Un
theorem tS {s : BA} : rS s = PX.any fun x => L8 x == L8 s := by
  simp only [rS, hasB, ByteArray.toList_eq]; rfl
theorem EO : ∀ j, j < 24 → rS (vnm j) = false := by
  intro j hj
  rw [tS]
  have key : ∀ j, j < 24 → (PX.any fun x => L8 x == L8 (vnm j)) = false := by decide
  exact key j hj
theorem EP : ∀ j, j < 2 → rS (gnm j) = false := by
  intro j hj
  rw [tS]
  have key : ∀ j, j < 2 → (PX.any fun x => L8 x == L8 (gnm j)) = false := by decide
  exact key j hj
theorem ER : ∀ j, j < 4 → rS (mnm j) = false := by
  intro j hj
  rw [tS]
  have key : ∀ j, j < 4 → (PX.any fun x => L8 x == L8 (mnm j)) = false := by decide
  exact key j hj
theorem ES : ∀ j, j < 4 → rS (fnm j) = false := by
  intro j hj
  rw [tS]
  have key : ∀ j, j < 4 → (PX.any fun x => L8 x == L8 (fnm j)) = false := by decide
  exact key j hj
theorem J0 : ∀ j, j < 3 → rS (pnm j) = false := by
  intro j hj
  rw [tS]
  have key : ∀ j, j < 3 → (PX.any fun x => L8 x == L8 (pnm j)) = false := by decide
  exact key j hj
variable {pre th el rest : Sl} {k : Int} {n : BA} {e : Ex} {r : Rf} {xs : List Ar}
theorem xY : List.take 11 (List.drop (pre.len * 11) (n9 (pre.app (.cons k n e r xs th el rest)))) = [.int .i64 k, .str n, .int .i64 e.op, .int .i64 e.num, .str e.name, .vec e.args.length (l8 e.args), .str r.name, .vec r.idx.length (l8 r.idx), .vec xs.length (aR xs), .vec th.len (n9 th), .vec el.len (n9 el)] := by
  rw [read_s rfl, rowS, aW]; rfl
variable {h : c6} {vars : List BA}
theorem xZ (hv : u9 vars) (hg : GE vars 2 e) : CB 121 [.agg [.int .i64 e.op, .int .i64 e.num, .str e.name, .vec e.args.length (l8 e.args)]] h (.str (bM e)) := by
  rw [← aW]; exact tP hv.n (by omega) hg h
theorem yA (hv : u9 vars) (hg : GE vars 2 e) : CB 101 [.agg [.int .i64 e.op, .int .i64 e.num, .str e.name, .vec e.args.length (l8 e.args)]] h (.bool true) := by
  rw [← aW]; exact R2 hv (by omega) e hg
theorem u9.snoc (h : u9 vars) {j : Nat} (hj : j < 24) : u9 (vars ++ [vnm j]) := by
  intro x hx
  rcases List.mem_append.1 hx with hx | hx
  · exact h x hx
  · replace hx := s7z hx
    subst hx
    exact ⟨rL, EO j hj⟩
theorem J1 {pre : Sl} {k : Int} {n : BA} {e : Ex} {r : Rf} {xs : List Ar} {th el rest : Sl} : (pre.app (.cons k n e r xs th el rest)).wt = pre.wt + (1 + th.wt + el.wt + rest.wt) := by rw [Sl.A7, Sl.wt]
theorem s9 {pre : Sl} {k : Int} {n : BA} {e : Ex} {r : Rf} {xs : List Ar} {th el rest : Sl} : (pre.app (.cons k n e r xs th el rest)).len = pre.len + (rest.len + 1) := by rw [Go.Un.Sl.bH, Go.Un.Sl.len]
theorem dZ {k : Int} {n : BA} {e : Ex} {r : Rf} {xs : List Ar} {th el rest : Sl} : (Sl.cons k n e r xs th el rest).dep = max (max th.dep el.dep + 1) rest.dep := rfl
theorem dJ : pre.app (.cons k n e r xs th el rest) = (pre.app (.cons k n e r xs th el .nil)).app rest := by rw [Sl.A6]; rfl
theorem LZ : (((pre.app (.cons k n e r xs th el .nil)).len : Nat) : Int) = (pre.len : Int) + 1 := by rw [Go.Un.Sl.bH]; simp [Go.Un.Sl.len]
theorem vU {tabs : BA} (h : Cl (L8 tabs) 0) : Cl (L8 (tabs ++ fE)) 0 := aH h B2
attribute [local go_sem] lU w9 m8 aQ bS aS m6 Int.natCast_nonneg Int.natCast_inj List.length_map wrap64 Y6 kP xX w8 lD eq_mk lE xY Nat.reduceMul
theorem MA {E : Env} (hE : rK E) (S : Sl) (ih : ∀ S' : Sl, S'.wt < S.wt → ∀ (vars : List BA) (tabs : BA), u9 vars → GS E S' vars → tabs.size + S'.dep ≤ 10 → Cl (L8 tabs) 0 → ∀ h : c6, CB 106 [.vec S'.len (n9 S'), .str tabs] h (.str (kO S' tabs ByteArray.empty))) (vars : List BA) (tabs : BA) (hv0 : u9 vars) (hG0 : GS E S vars) (hd : tabs.size + S.dep ≤ 10) (ht : Cl (L8 tabs) 0) (hw : S.wt ≤ 1000) : CB 106 [.vec S.len (n9 S), .str tabs] h (.str (kO S tabs ByteArray.empty)) := by
  refine .bz Tryz.f106 133 ?_
  have hlw := cG S
  have hTs := (iJ hE S vars tabs ByteArray.empty 0 hv0.n hG0 hd ht Cl.nil).2
  have hse : ByteArray.empty.size = 0 := rfl
  refine c62z ?_
  refine .aP (fun m st => ∃ (Z : Sl) (pre : Sl) (rst : Sl) (vs : List BA) (out : BA), (m = rst.len ∧ (Z = S ∧ S = pre.app rst ∧ GS E rst vs ∧ u9 vs ∧ kO rst tabs out = kO S tabs ByteArray.empty ∧ tabs.size + rst.dep ≤ 10)) ∧ st = ⟨mkS 133 [(0, AV.vec (Go.Un.Sl.len Z) (n9 Z)), (1, AV.str tabs), (5, AV.str out), (6, AV.int .i64 ((pre.len : Nat) : Int))], h⟩) (.v ⟨S, Sl.nil, S, vars, ByteArray.empty, ⟨rfl, ⟨rfl, rfl, hG0, hv0, rfl, hd⟩⟩, rfl⟩ (hs := t9)) ?_
  rintro m sl h' ⟨Z, pre, rst, vs, out, ⟨hm, ⟨hZ, hS, hG, hv, hT, hdp⟩⟩, hst⟩
  obtain ⟨rfl, rfl⟩ := St.mk.inj hst; clear hst
  subst hZ
  have hlen := congrArg Go.Un.Sl.len hS; rw [Go.Un.Sl.bH] at hlen
  have hos : out.size ≤ 400000 := by have := DD rst tabs out; rw [hT] at this; omega
  refine c0z ?_
  refine u2z ?_ ?_
  ·intro e1 qe1
   refine c2z ?_
   obtain ⟨k, n, e, r, xs, th, el, rest, rfl⟩ := Go.Un.Sl.mS (s := rst) (by omega)
   subst hS
   have hwc := @J1 pre k n e r xs th el rest
   have hlc := @s9 pre k n e r xs th el rest
   have hdc := @dZ k n e r xs th el rest
   rcases hG with ⟨rfl, ⟨j, hj, rfl⟩, hn, he, rfl, rfl, rfl, rfl, hr⟩ | ⟨rfl, hn, he, rfl, rfl, rfl, rfl, hr⟩ | ⟨rfl | rfl, ⟨f, hf, rfl, ha⟩, rfl, rfl, rfl, rfl, hr⟩ | ⟨rfl | rfl, rfl, rfl, hR, rfl, rfl, rfl, hr⟩ | ⟨rfl, rfl, he, rfl, rfl, hth, hel, hr⟩ | ⟨rfl, rfl, he, rfl, rfl, hth, rfl, hr⟩ | ⟨rfl, rfl, rfl, rfl, rfl, rfl, rfl, hr⟩
   ·have hes := (bP hv.n he).2; have hb : yW 2 = 104 := rfl
    have hns := u0 (rL (j := j))
    refine c169z ?_
    refine c105z ?_
    refine .so r9 (mkP 12 [0, 1, 0, 4, 15, 31, 0, 64, 192, 511, 1023, 2047] []) ?_
    refine .k 8 [] ?_
    refine .ca rfl rfl (xZ hv he) ?_
    refine c222z ?_
    refine c110z ?_
    have hT2 := hT
    simp only [kO, show ((1 : Int) = 2) = False from by simp, show ((1 : Int) = 3) = False from by simp, show ((1 : Int) = 4) = False from by simp, show ((1 : Int) = 5) = False from by simp, show ((1 : Int) = 6) = False from by simp, show ((1 : Int) = 7) = False from by simp, show ((1 : Int) = 8) = False from by simp, if_true, if_false, true_or, or_true, or_false, false_or, or_self] at hT2
    exact ⟨_, by omega, .v ⟨_, (pre.app (.cons 1 (vnm j) e l6 [] .nil .nil .nil)), rest, (vs ++ [vnm j]), _, ⟨rfl, ⟨rfl, dJ, hr, (hv.snoc hj), hT2, by omega⟩⟩, rfl⟩ (he := by rfl) (hs := t9)⟩
   ·have hes := (bP hv.n he).2; have hb : yW 2 = 104 := rfl
    have hns := u0 (hv _ hn).1
    refine c169z ?_
    refine c8z ?_
    refine c105z ?_
    refine .c7 [0, 1, 5, 6, 7] ?_
    refine .so r9 (mkP 11 [0, 0, 2, 7, 15, 0, 32, 96, 255, 511, 1023] []) ?_
    refine .k 7 [] ?_
    refine .ca rfl rfl (xZ hv he) ?_
    refine c222z ?_
    refine c110z ?_
    have hT2 := hT
    simp only [kO, show ((2 : Int) = 1) = False from by simp, show ((2 : Int) = 3) = False from by simp, show ((2 : Int) = 4) = False from by simp, show ((2 : Int) = 5) = False from by simp, show ((2 : Int) = 6) = False from by simp, show ((2 : Int) = 7) = False from by simp, show ((2 : Int) = 8) = False from by simp, if_true, if_false, true_or, or_true, or_false, false_or, or_self] at hT2
    exact ⟨_, by omega, .v ⟨_, (pre.app (.cons 2 n e l6 [] .nil .nil .nil)), rest, vs, _, ⟨rfl, ⟨rfl, dJ, hr, hv, hT2, by omega⟩⟩, rfl⟩ (he := by rfl) (hs := t9)⟩
   ·have hns := u0 (hE.fn f hf)
    have has := (H5 hE hv.n ha (hE.fp f hf)).2.1
    have hxl := (jM hE hv.n ha).1; have hfl := hE.fp f hf
    refine c178z ?_
    refine .c7 [0, 1, 5, 6, 7, 23] ?_
    refine c105z ?_
    refine .so r9 (mkP 10 [0, 0, 2, 7, 0, 16, 48, 127, 255, 511] []) ?_
    refine .k 6 [] ?_
    refine .ca rfl rfl (EM hE hv.n xs (jM hE hv.n ha).2 (by omega)) ?_
    refine c222z ?_
    refine c110z ?_
    have hT2 := hT
    simp only [kO, show ((3 : Int) = 1) = False from by simp, show ((3 : Int) = 2) = False from by simp, show ((3 : Int) = 4) = False from by simp, show ((3 : Int) = 5) = False from by simp, show ((3 : Int) = 6) = False from by simp, show ((3 : Int) = 7) = False from by simp, show ((3 : Int) = 8) = False from by simp, if_true, if_false, true_or, or_true, or_false, false_or, or_self] at hT2
    exact ⟨_, by omega, .v ⟨_, (pre.app (.cons 3 f.1 j8 l6 xs .nil .nil .nil)), rest, vs, _, ⟨rfl, ⟨rfl, dJ, hr, hv, hT2, by omega⟩⟩, rfl⟩ (he := by rfl) (hs := t9)⟩
   ·have hns := u0 (hE.fn f hf)
    have has := (H5 hE hv.n ha (hE.fp f hf)).2.1
    have hxl := (jM hE hv.n ha).1; have hfl := hE.fp f hf
    refine c223z ?_
    refine c105z ?_
    refine .so r9 (mkP 11 [0, 1, 0, 4, 15, 0, 32, 96, 255, 511, 1023] []) ?_
    refine .k 7 [] ?_
    refine .ca rfl rfl (EM hE hv.n xs (jM hE hv.n ha).2 (by omega)) ?_
    refine c222z ?_
    refine c110z ?_
    have hT2 := hT
    simp only [kO, show ((4 : Int) = 1) = False from by simp, show ((4 : Int) = 2) = False from by simp, show ((4 : Int) = 3) = False from by simp, show ((4 : Int) = 5) = False from by simp, show ((4 : Int) = 6) = False from by simp, show ((4 : Int) = 7) = False from by simp, show ((4 : Int) = 8) = False from by simp, if_true, if_false, true_or, or_true, or_false, false_or, or_self] at hT2
    exact ⟨_, by omega, .v ⟨_, (pre.app (.cons 4 f.1 j8 l6 xs .nil .nil .nil)), rest, vs, _, ⟨rfl, ⟨rfl, dJ, hr, hv, hT2, by omega⟩⟩, rfl⟩ (he := by rfl) (hs := t9)⟩
   ·have hrs := (hR.pw hE hv.n).2
    refine c223z ?_
    refine c8z ?_
    refine c105z ?_
    refine c147z ?_
    refine .ca rfl rfl (R4 hE hv.n hR) ?_
    refine c28z ?_
    refine c110z ?_
    have hT2 := hT
    simp only [kO, show ((5 : Int) = 1) = False from by simp, show ((5 : Int) = 2) = False from by simp, show ((5 : Int) = 3) = False from by simp, show ((5 : Int) = 4) = False from by simp, show ((5 : Int) = 6) = False from by simp, show ((5 : Int) = 7) = False from by simp, show ((5 : Int) = 8) = False from by simp, if_true, if_false, true_or, or_true, or_false, false_or, or_self] at hT2
    exact ⟨_, by omega, .v ⟨_, (pre.app (.cons 5 ByteArray.empty j8 r [] .nil .nil .nil)), rest, vs, _, ⟨rfl, ⟨rfl, dJ, hr, hv, hT2, by omega⟩⟩, rfl⟩ (he := by rfl) (hs := t9)⟩
   ·have hrs := (hR.pw hE hv.n).2
    refine c223z ?_
    refine c106z ?_
    refine c105z ?_
    refine .c7 [0, 1, 5, 6, 7] ?_
    refine c147z ?_
    refine .ca rfl rfl (R4 hE hv.n hR) ?_
    refine c28z ?_
    refine c110z ?_
    have hT2 := hT
    simp only [kO, show ((6 : Int) = 1) = False from by simp, show ((6 : Int) = 2) = False from by simp, show ((6 : Int) = 3) = False from by simp, show ((6 : Int) = 4) = False from by simp, show ((6 : Int) = 5) = False from by simp, show ((6 : Int) = 7) = False from by simp, show ((6 : Int) = 8) = False from by simp, if_true, if_false, true_or, or_true, or_false, false_or, or_self] at hT2
    exact ⟨_, by omega, .v ⟨_, (pre.app (.cons 6 ByteArray.empty j8 r [] .nil .nil .nil)), rest, vs, _, ⟨rfl, ⟨rfl, dJ, hr, hv, hT2, by omega⟩⟩, rfl⟩ (he := by rfl) (hs := t9)⟩
   ·have hes := (bP hv.n he).2; have hb : yW 2 = 104 := rfl
    have hts : (tabs ++ fE).size = tabs.size + 1 := by rw [w8]; rfl
    have hths := (iJ hE th vs (tabs ++ fE) ByteArray.empty 0 hv.n hth (by omega) (vU ht) Cl.nil).2
    have hels := (iJ hE el vs (tabs ++ fE) ByteArray.empty 0 hv.n hel (by omega) (vU ht) Cl.nil).2
    refine c223z ?_
    refine c106z ?_
    refine c8z ?_
    refine .seq ?_
    refine .c7 [0, 1, 5, 6, 7, 23] ?_
    refine c105z ?_
    refine .sk ?_
    refine .T ?_
    refine c83z ?_
    refine c15z ?_
    refine .ss r9 (mkP 18 [0, 0, 3, 0, 8, 24, 63, 127, 0, 256, 0, 1024, 3896, 8191, 0, 32767, 65535, 131071] []) ?_
    refine .k 5 [] ?_
    refine .ca rfl rfl (xZ hv he) ?_
    refine .k 6 [] ?_
    refine .ca rfl rfl (ih th (by omega) vs (tabs ++ fE) hv hth (by omega) (vU ht) _) ?_
    refine .n [] ?_
    refine .c7 [0, 1, 5, 6, 7] ?_
    refine .z ?_
    refine u2z ?_ ?_
    ·intro e2 qe2
     refine .r ?_
     refine .e 6 ?_
     refine .ca rfl rfl (ih el (by omega) vs (tabs ++ fE) hv hel (by omega) (vU ht) _) ?_
     refine c28z ?_
     refine c110z ?_
     have hT2 := hT
     have hel0 : 0 < el.len := by omega
     simp only [kO, show ((7 : Int) = 1) = False from by simp, show ((7 : Int) = 2) = False from by simp, show ((7 : Int) = 3) = False from by simp, show ((7 : Int) = 4) = False from by simp, show ((7 : Int) = 5) = False from by simp, show ((7 : Int) = 6) = False from by simp, show ((7 : Int) = 8) = False from by simp, if_true, if_false, true_or, or_true, or_false, false_or, or_self, if_pos hel0] at hT2
     exact ⟨_, by omega, .v ⟨_, (pre.app (.cons 7 ByteArray.empty e l6 [] th el .nil)), rest, vs, _, ⟨rfl, ⟨rfl, dJ, hr, hv, hT2, by omega⟩⟩, rfl⟩ (he := by rfl) (hs := t9)⟩
    intro e2 qe2
    refine c7z ?_
    refine c50z ?_
    have hT2 := hT
    have hel0 : ¬ 0 < el.len := by omega
    simp only [kO, show ((7 : Int) = 1) = False from by simp, show ((7 : Int) = 2) = False from by simp, show ((7 : Int) = 3) = False from by simp, show ((7 : Int) = 4) = False from by simp, show ((7 : Int) = 5) = False from by simp, show ((7 : Int) = 6) = False from by simp, show ((7 : Int) = 8) = False from by simp, if_true, if_false, true_or, or_true, or_false, false_or, or_self, if_neg hel0] at hT2
    exact ⟨_, by omega, .v ⟨_, (pre.app (.cons 7 ByteArray.empty e l6 [] th el .nil)), rest, vs, _, ⟨rfl, ⟨rfl, dJ, hr, hv, hT2, by omega⟩⟩, rfl⟩ (he := by rfl) (hs := t9)⟩
   ·have hes := (bP hv.n he).2; have hb : yW 2 = 104 := rfl
    have hts : (tabs ++ fE).size = tabs.size + 1 := by rw [w8]; rfl
    have hths := (iJ hE th vs (tabs ++ fE) ByteArray.empty 0 hv.n hth (by omega) (vU ht) Cl.nil).2
    refine c223z ?_
    refine c106z ?_
    refine c8z ?_
    refine .seq ?_
    refine c79z ?_
    refine c1z ?_
    refine .T ?_
    refine c83z ?_
    refine .T ?_
    refine .c7 [0, 1, 5, 6, 7] ?_
    refine c1z ?_
    refine .ss r9 (mkP 18 [0, 0, 3, 0, 8, 24, 63, 127, 0, 256, 0, 1024, 3896, 8191, 0, 32767, 65535, 131071] []) ?_
    refine .k 5 [] ?_
    refine .ca rfl rfl (xZ hv he) ?_
    refine .k 6 [] ?_
    refine .ca rfl rfl (ih th (by omega) vs (tabs ++ fE) hv hth (by omega) (vU ht) _) ?_
    refine .n [] ?_
    refine .c7 [0, 1, 5, 6, 7] ?_
    refine c8z ?_
    refine c7z ?_
    refine c50z ?_
    have hT2 := hT
    simp only [kO, show ((8 : Int) = 1) = False from by simp, show ((8 : Int) = 2) = False from by simp, show ((8 : Int) = 3) = False from by simp, show ((8 : Int) = 4) = False from by simp, show ((8 : Int) = 5) = False from by simp, show ((8 : Int) = 6) = False from by simp, show ((8 : Int) = 7) = False from by simp, if_true, if_false, true_or, or_true, or_false, false_or, or_self, Go.Un.Sl.len, Nat.lt_irrefl] at hT2
    exact ⟨_, by omega, .v ⟨_, (pre.app (.cons 8 ByteArray.empty e l6 [] th .nil .nil)), rest, vs, _, ⟨rfl, ⟨rfl, dJ, hr, hv, hT2, by omega⟩⟩, rfl⟩ (he := by rfl) (hs := t9)⟩
   ·skip
    refine c223z ?_
    refine c106z ?_
    refine c8z ?_
    refine .seq ?_
    refine c79z ?_
    refine c1z ?_
    refine c204z ?_
    refine c1z ?_
    refine .c7 [0, 1, 5, 6] ?_
    refine .rz ?_
    have hT2 := hT
    simp only [kO, show ((9 : Int) = 1) = False from by simp, show ((9 : Int) = 2) = False from by simp, show ((9 : Int) = 3) = False from by simp, show ((9 : Int) = 4) = False from by simp, show ((9 : Int) = 5) = False from by simp, show ((9 : Int) = 6) = False from by simp, show ((9 : Int) = 7) = False from by simp, show ((9 : Int) = 8) = False from by simp, if_true, if_false, true_or, or_true, or_false, false_or, or_self] at hT2
    exact ⟨_, by omega, .v ⟨_, (pre.app (.cons 9 ByteArray.empty j8 l6 [] .nil .nil .nil)), rest, vs, _, ⟨rfl, ⟨rfl, dJ, hr, hv, hT2, by omega⟩⟩, rfl⟩ (he := by rfl) (hs := t9)⟩
  intro e1 qe1
  refine .exit ?_
  obtain rfl := Go.Un.Sl.xH (show rst.len = 0 by omega)
  rw [kO] at hT
  refine c218z ?_
  exact .ret (.ex (hq := by (exact congrArg AV.str hT)))
theorem ET {E : Env} (hE : rK E) : ∀ (n : Nat) (S : Sl), S.wt ≤ n → n ≤ 1000 → ∀ (vars : List BA) (tabs : BA), u9 vars → GS E S vars → tabs.size + S.dep ≤ 10 → Cl (L8 tabs) 0 → ∀ h : c6, CB 106 [.vec S.len (n9 S), .str tabs] h (.str (kO S tabs ByteArray.empty))
  | n, S, hn, h1, vars, tabs, hv, hG, hd, ht, h => by
    refine MA hE S (fun S' hS' => ?_) vars tabs hv hG hd ht (by omega)
    cases n with
    | zero => omega
    | succ n => exact ET hE n S' (by omega) (by omega)
end Go.Proofs.YtfbjlfhjkojmkaaGreat
end
section
namespace Go.Proofs.YtfbjlfhjkojmkaaGreat
open Go.Ab Go.Un
structure Frame where
  b0 : Blk
  b1 : Blk
  b2 : Blk
  z : Blk
  m : Blk
  g : Blk
  rest : c6
def Frame.n (e : Frame) : Nat := e.rest.length + 9
def hB (c : Core) (e : Frame) (I left : Int) : c6 :=
  e.b0 :: e.b1 :: e.b2 :: e.z :: ⟨0, false, 91, 2, [.vec c.L.length (g9 c.L), .int .i64 I], 0⟩ ::
  ⟨0, false, 93, 6, [.ptr 4 0 0, .vec c.gs.length (o6 c.gs), .vec c.ms.length (g5 c.ms), .own 8 c.gF 0 c.fs.length, .int .i64 left, .bool c.ar], 0⟩ ::
  e.m :: e.g :: ⟨c.gF, false, 101, 3, m9 c.fs, 0⟩ :: e.rest
section
variable {c : Core} {e : Frame} {I left k : Int} {l : c6}
theorem bN : (hB c e I left).length = e.n := by simp [hB, Frame.n]
theorem hB_1 : (hB c e I left)[4]? = some ⟨0, false, 91, 2, [.vec c.L.length (g9 c.L), .int .i64 I], 0⟩ := rfl
theorem hB_2 : (hB c e I left)[5]? = some ⟨0, false, 93, 6, [.ptr 4 0 0, .vec c.gs.length (o6 c.gs), .vec c.ms.length (g5 c.ms), .own 8 c.gF 0 c.fs.length, .int .i64 left, .bool c.ar], 0⟩ := rfl
theorem hB_5 : (hB c e I left)[8]? = some ⟨c.gF, false, 101, 3, m9 c.fs, 0⟩ := rfl
theorem TZ : (hB c e I left ++ l)[4]? = some ⟨0, false, 91, 2, [.vec c.L.length (g9 c.L), .int .i64 I], 0⟩ := rfl
theorem UA : (hB c e I left ++ l)[5]? = some ⟨0, false, 93, 6, [.ptr 4 0 0, .vec c.gs.length (o6 c.gs), .vec c.ms.length (g5 c.ms), .own 8 c.gF 0 c.fs.length, .int .i64 left, .bool c.ar], 0⟩ := rfl
theorem UB : (hB c e I left ++ l)[8]? = some ⟨c.gF, false, 101, 3, m9 c.fs, 0⟩ := rfl
theorem UC : (hB c e I left ++ l).set 5 ⟨0, false, 93, 6, [.ptr 4 0 0, .vec c.gs.length (o6 c.gs), .vec c.ms.length (g5 c.ms), .own 8 c.gF 0 c.fs.length, .int .i64 k, .bool c.ar], 0⟩ = hB c e I k ++ l := rfl
variable {j : Nat}
theorem eA : (hB c e I left ++ l)[e.n + j]? = l[j]? := by
  rw [List.getElem?_append_right (by rw [bN]; omega), bN, Nat.add_sub_cancel_left]
theorem yB : (hB c e I left ++ l)[e.n]? = l[0]? := by
  rw [List.getElem?_append_right (by rw [bN]; omega), bN, Nat.sub_self]
theorem eF {b : Blk} : (hB c e I left ++ l).set (e.n + j) b = hB c e I left ++ l.set j b := by
  rw [List.set_append_right _ _ (by rw [bN]; omega), bN, Nat.add_sub_cancel_left]
theorem J2 {b : Blk} : (hB c e I left ++ l).set e.n b = hB c e I left ++ l.set 0 b := by
  rw [List.set_append_right _ _ (by rw [bN]; omega), bN, Nat.sub_self]
variable {left' : Int}
theorem fG {I' : Int} : z5 (hB c e I left) (hB c e I' left') := by
  refine z5.of ⟨.inl rfl, .inl rfl, .inl rfl, .inl rfl, .inr (fC.get ⟨.vec _ _, .int _ _, trivial⟩), .inr (fC.get ⟨.ptr _ _ _ ?_, .vec _ _, .vec _ _, .own _ _ _ _ ?_, .int _ _, .bool _, trivial⟩), .inl rfl, .inl rfl, .inl rfl, mD.refl _ _⟩
  · rw [bN]; unfold Frame.n; omega
  · rw [bN]; unfold Frame.n; omega
theorem yC {I' : Int} {l' : c6} (hk : mD (e.n + l'.length) l l') : z5 (hB c e I left ++ l) (hB c e I' left' ++ l') :=
  fG.app (by rw [bN, bN]) (by rw [bN]; exact hk)
end
theorem famB (c : Core) (e : Frame) (left : Int) : bI 4 c.L e.n fun I => hB c e I left := ⟨fun _ => rfl, fun _ _ => rfl, fun _ => bN⟩
theorem eO {c : Core} {e : Frame} {left : Int} (l : c6) (I n : Int) (hI : OkI c.L I) (hL : c.L.length < 4611686018427387904) (hn : 0 < n) (hm : n ≤ 4611686018427387904) : CH 47 [.ptr 4 0 0, .int .i64 n] (hB c e I left ++ l) (.int .i64 (c5 c.L I n).1) (hB c e (c5 c.L I n).2 left ++ l) := lB (famB c e left) l I n hI hL hn hm
theorem J3 {c : Core} {e : Frame} {left : Int} (l : c6) (I v : Int) (hI : OkI c.L I) (hL : c.L.length < 4611686018427387904) (names : List BA) (hN : names.length < 1000) (hv : 0 ≤ v ∧ v < 1000) : CH 100 [.ptr 4 0 0, .vec names.length (w5 names), .int .i64 v] (hB c e I left ++ l) (.agg (q9 (cL c.L names v.toNat I).1)) (hB c e (cL c.L names v.toNat I).2 left ++ l) := by
  have h := PU hL names hN v.toNat (by omega) ((famB c e left).app l) I hI
  rw [Int.toNat_of_nonneg hv.1] at h
  exact h
variable {i : Nat}
theorem oC {l : List Mx} (h : i < l.length) : List.take 1 (List.drop (i * 3 + 2) (g5 l)) = [AV.int .i64 (l.getD i z6).size] := by
  have := congrArg (fun x => x.drop 2) (xI h)
  simp only [List.drop_take, List.drop_drop] at this
  simpa using this
theorem MB {l : List Mx} (h : i < l.length) : List.take 1 (List.drop (i * 3) (g5 l)) = [AV.str (l.getD i z6).name] := by
  have := congrArg (fun x => x.take 1) (xI h)
  simp only [List.take_take] at this
  simpa using this
theorem R6 {l : List Pm} (h : i < l.length) : List.take 1 (List.drop (i * 2) (s3 l)) = [AV.str (l.getD i fW).name] := by
  have := congrArg (fun x => x.take 1) (CY h)
  simp only [List.take_take] at this
  simpa using this
theorem jU {l : List Pm} (h : i < l.length) : List.take 1 (List.drop (i * 2 + 1) (s3 l)) = [AV.bool (l.getD i fW).mu] := by
  have := congrArg (fun x => x.drop 1) (CY h)
  simp only [List.drop_take, List.drop_drop] at this
  simpa using this
variable {vars : List BA} {size : Int}
theorem idx_pos {c : Core} {I : Int} (h : c.ar = true) (h2 : (c5 c.L I 3).1 = 1) : eY c vars size I = cL c.L vars 1 (c5 c.L I 3).2 := by rw [eY, if_pos h, if_pos h2]
theorem idx_neg {c : Core} {I : Int} (h : c.ar = true) (h2 : ¬ (c5 c.L I 3).1 = 1) : eY c vars size I = (.leaf 1 (c5 c.L (c5 c.L I 3).2 size).1 ByteArray.empty, (c5 c.L (c5 c.L I 3).2 size).2) := by rw [eY, if_pos h, if_neg h2]
theorem idx_no {c : Core} {I : Int} (h : c.ar = false) : eY c vars size I = (.leaf 1 (c5 c.L I size).1 ByteArray.empty, (c5 c.L I size).2) := by rw [eY, if_neg t177]
theorem wex_pos {c : Core} {I : Int} (h : c.ar = true) : g6 c vars I = cL c.L vars (1 + (c5 c.L I 2).1).toNat (c5 c.L I 2).2 := by rw [g6, if_pos h]
theorem wex_neg {c : Core} {I : Int} (h : c.ar = false) : g6 c vars I = cL c.L vars 0 I := by rw [g6, if_neg t177]
attribute [local go_sem] m6 w9 n7 aB m8 Int.natCast_nonneg Int.natCast_inj List.length_map bN hB_1 hB_2 hB_5 TZ UA UB UC eA yB eF J2
theorem frz_E {n d : Nat} {H : c6} {a : Ex} : o5 (iF n H (d + 1)) (q9 a) = some (q9 a) := by
  rw [aW]
  rfl
theorem MC {r : Rf} : mY (AU ⟨true, r, j8⟩) (.bool true :: (P4 r ++ [.int .i64 0, .int .i64 0, .str ByteArray.empty, .j5])) := ⟨.inl rfl, .inl rfl, .inl rfl, .inl rfl, .inl rfl, .inl rfl, .inr ⟨rfl, rfl⟩, trivial⟩
theorem EU {x : Ex} : mY (AU ⟨false, l6, x⟩) (.bool false :: .str ByteArray.empty :: .j5 :: q9 x) := ⟨.inl rfl, .inl rfl, .inr ⟨rfl, rfl⟩, mY.refl _⟩
theorem frz_A {n d : Nat} {H : c6} {l : List Ar} : o5 (kD n H (d + 1)) (aR l) = some (aR l) := by
  induction l with
  | nil => rfl
  | cons a l ih =>
    refine vR ?_ ih
    simp only [AU, o5, nQ, nR, lQ, Y4]
section
attribute [local go_sem] eN
theorem c_index {c : Core} {e : Frame} {left I : Int} (hc : OkC c) (hI : OkI c.L I) (hL : c.L.length < 4611686018427387904) (vars : List BA) (hN : vars.length < 1000) (size : Int) (hs : 0 < size ∧ size ≤ 3) : CH 99 [.ptr 5 0 0, .vec vars.length (w5 vars), .int .i64 size] (hB c e I left) (.agg (q9 (eY c vars size I).1)) (hB c e (eY c vars size I).2 left) := by
  refine .wz Tryz.f99 32 ?_
  have h3 := l5 hI (n := 3) (by omega)
  refine c18z ?_
  refine c22z ?_
  refine .spl 11 rfl rfl (fun e1 => ?_) (fun e1 => ?_)
  ·try simp only [e1]
   have qe1 := fact e1
   refine .k 4 [(4, 11)] ?_
   refine .ch rfl rfl (eO _ _ 3 hI hL (by omega) (by omega)) ?_
   refine .m [(4, 11)] ?_
   refine u2z ?_ ?_
   ·intro e2 qe2
    refine .c7 [0, 1, 6] ?_
    refine c22z ?_
    refine .ch rfl rfl (J3 _ _ 1 h3.2.2 hL vars hN (by omega)) ?_
    refine c163z ?_
    exact ⟨hB _ _ _ _, _, _, rfl, t63, fG, t7, t65⟩
   intro e2 qe2
   refine .sk ?_
   refine .c7 [0, 2, 6] ?_
   refine c22z ?_
   refine .ch rfl rfl (eO _ _ size (by first | exact h3.2.2 | exact hI) hL (by omega) (by omega)) ?_
   refine c163z ?_
   exact ⟨hB _ _ _ _, _, _, rfl, t63, fG, t7, t65⟩
  try simp only [e1]
  have qe1 := fact e1
  refine .m [(4, 11)] ?_
  refine c15z ?_
  refine .c7 [0, 2, 6] ?_
  refine c22z ?_
  refine .ch rfl rfl (eO _ _ size (by first | exact h3.2.2 | exact hI) hL (by omega) (by omega)) ?_
  refine c163z ?_
  exact ⟨hB _ _ _ _, _, _, rfl, t63, fG, t7, t65⟩
end
section
attribute [local go_sem] eN wrap64
theorem c_wexpr {c : Core} {e : Frame} {left I : Int} (hc : OkC c) (hI : OkI c.L I) (hL : c.L.length < 4611686018427387904) (vars : List BA) (hN : vars.length < 1000) : CH 76 [.ptr 5 0 0, .vec vars.length (w5 vars)] (hB c e I left) (.agg (q9 (g6 c vars I).1)) (hB c e (g6 c vars I).2 left) := by
  refine .wz Tryz.f76 28 ?_
  have h2 := l5 hI (n := 2) (by omega)
  refine c83z ?_
  refine u2z ?_ ?_
  ·intro e1 qe1
   refine c22z ?_
   refine .ch rfl rfl (J3 _ _ 0 hI hL vars hN (by omega)) ?_
   refine c163z ?_
   exact ⟨hB _ _ _ _, _, _, rfl, t63, fG, t7, t113⟩
  intro e1 qe1
  refine .sk ?_
  refine .sm r9 (mkP 13 [0, 1, 3, 7, 0, 0, 32, 96, 224, 480, 992, 2047, 4095] [9, 11, 12]) [0, 1, 2, 3, 4] ?_
  refine cZ.p (pd := []) 9 ?_
  refine cZ.o8 rfl rfl rfl rfl rfl uV (eO _ _ 2 hI hL (by omega) (by omega)) ?_
  refine cZ.p 1 ?_
  refine cZ.o8 rfl rfl rfl rfl rfl JZ (J3 _ _ _ h2.2.2 hL vars hN (by omega)) ?_
  refine cZ.p 1 ?_
  refine cZ.nil t10 ?_
  refine c6z ?_
  exact ⟨hB _ _ _ _, _, _, rfl, t63, fG, t7, t113⟩
end
theorem iR {l : List BA} {x : BA} : w5 (l ++ [x]) = w5 l ++ [.str x] := by simp [w5]
theorem Z0 {c : Core} (h : i < c.ms.length) : (c.ms.map (·.name)).take (i + 1) = (c.ms.map (·.name)).take i ++ [(c.ms.getD i z6).name] := by
  rw [List.take_add_one]
  simp [List.getD, h]
theorem C7 (l m : List Pm) : extra (l ++ m) = extra l ++ extra m := by
  induction l with
  | nil => rfl
  | cons p l ih => simp only [List.cons_append, extra]; split <;> simp [ih]
variable {j : Nat}
theorem vV {l : List Pm} (h : j < l.length) : l.take (j + 1) = l.take j ++ [l.getD j fW] := by
  rw [List.take_add_one]
  simp [List.getD, h]
variable {ps : List Pm}
theorem EV {c : Core} : j6 c (ps.take 0) = c.ms.map (·.name) := by simp [j6, extra]
theorem rn_t {c : Core} (h : j < ps.length) (hm : (ps.getD j fW).mu = true) : j6 c (ps.take (j + 1)) = j6 c (ps.take j) ++ [(ps.getD j fW).name] ++ [(ps.getD j fW).name] := by
  rw [vV h]
  simp only [j6, C7, List.append_assoc]
  simp only [extra, hm, if_true]
  rfl
theorem rn_f {c : Core} (h : j < ps.length) (hm : (ps.getD j fW).mu = false) : j6 c (ps.take (j + 1)) = j6 c (ps.take j) := by
  rw [vV h]
  simp only [j6, C7]
  simp only [extra, hm, Bool.false_eq_true, if_false, List.append_nil]
theorem ref_pos {c : Core} {I : Int} (h1 : (c5 c.L I (j6 c ps).length).1 < c.ms.length) (h2 : 0 < (c.ms.getD (c5 c.L I (j6 c ps).length).1.toNat z6).size) : r6 c ps vars I =
    (⟨(j6 c ps).getD (c5 c.L I (j6 c ps).length).1.toNat ByteArray.empty, [(eY c vars (c.ms.getD (c5 c.L I (j6 c ps).length).1.toNat z6).size (c5 c.L I (j6 c ps).length).2).1]⟩, (eY c vars (c.ms.getD (c5 c.L I (j6 c ps).length).1.toNat z6).size (c5 c.L I (j6 c ps).length).2).2) := if_pos ⟨h1, h2⟩
theorem ref_neg {c : Core} {I : Int} (h : ¬ ((c5 c.L I (j6 c ps).length).1 < c.ms.length ∧ 0 < (c.ms.getD (c5 c.L I (j6 c ps).length).1.toNat z6).size)) : r6 c ps vars I =
    (⟨(j6 c ps).getD (c5 c.L I (j6 c ps).length).1.toNat ByteArray.empty, []⟩, (c5 c.L I (j6 c ps).length).2) := if_neg h
theorem encN_ne {l : List BA} (h : 0 < l.length) : w5 l ≠ [] := by
  intro e
  have := congrArg List.length e
  rw [w9, List.length_nil] at this
  omega
theorem EW {x : Ex} : l8 [x] = q9 x := by simp [l8]
theorem EX {c : Core} {e : Frame} {I left : Int} {fb rb : Blk} {g n : Nat} {zs : List BA} {x : AV} (hz : zs.length = n) (hn : n < 1000) :
    j4 cfg 9 (hB c e I left ++ [fb, rb, p6 9 1 g (w5 zs), ⟨0, false, 9, 1, [x], 0⟩]) (.own (e.n + 2) g 0 n) (.own (e.n + 3) 0 0 1) = some (.own (e.n + 2) (g + 1) 0 (n + 1), hB c e I left ++ [fb, rb, p6 9 1 (g + 1) (w5 zs ++ [x]), ⟨0, false, 9, 1, [x], 0⟩]) := by
  have hb : (hB c e I left ++ [fb, rb, p6 9 1 g (w5 zs), ⟨0, false, 9, 1, [x], 0⟩])[e.n + 2]? = some (p6 9 1 g (w5 zs)) := eA
  rw [z8 (C := cfg) (K := 1) (m := 1) (new := [x]) hb rfl (by omega) (by rw [w9, hz, Nat.mul_one]) rfl (by omega) t123 rfl (by decide) (by omega), eF]
  rfl
theorem Z1 {c : Core} {e : Frame} {I left : Int} {fb rb : Blk} {g n : Nat} {zs : List BA} {x y : AV} (hz : zs.length = n) (hn : n < 1000) :
    j4 cfg 9 (hB c e I left ++ [fb, rb, p6 9 1 g (w5 zs), ⟨0, false, 9, 1, [x, y], 0⟩]) (.own (e.n + 2) g 0 n) (.own (e.n + 3) 0 0 2) = some (.own (e.n + 2) (g + 1) 0 (n + 2), hB c e I left ++ [fb, rb, p6 9 1 (g + 1) (w5 zs ++ [x, y]), ⟨0, false, 9, 1, [x, y], 0⟩]) := by
  have hb : (hB c e I left ++ [fb, rb, p6 9 1 g (w5 zs), ⟨0, false, 9, 1, [x, y], 0⟩])[e.n + 2]? = some (p6 9 1 g (w5 zs)) := eA
  rw [z8 (C := cfg) (K := 1) (m := 2) (new := [x, y]) hb rfl (by omega) (by rw [w9, hz, Nat.mul_one]) rfl (by omega) t123 rfl (by decide) (by omega), eF]
  rfl
theorem QI {n : Nat} {l : List BA} : ∀ x ∈ w5 l, Refs n x := by
  intro x hx
  obtain ⟨y, _, rfl⟩ := List.mem_map.1 hx
  exact .str _
theorem Frame.n_ge (e : Frame) : 9 ≤ e.n := by unfold Frame.n; omega
theorem MD {c : Core} {e : Frame} {left I : Int} {l : c6} (hc : OkC c) (hI : OkI c.L I) (hL : c.L.length < 4611686018427387904) (vars : List BA) (hN : vars.length < 1000) (size : Int) (hs : 0 < size ∧ size ≤ 3) : CH 99 [.ptr 5 0 0, .vec vars.length (w5 vars), .int .i64 size] (hB c e I left ++ l) (.agg (q9 (eY c vars size I).1)) (hB c e (eY c vars size I).2 left ++ l) := c_index (e := ⟨e.b0, e.b1, e.b2, e.z, e.m, e.g, e.rest ++ l⟩) hc hI hL vars hN size hs
theorem R7 {c : Core} {e : Frame} {left I : Int} {l : c6} (hc : OkC c) (hI : OkI c.L I) (hL : c.L.length < 4611686018427387904) (vars : List BA) (hN : vars.length < 1000) : CH 76 [.ptr 5 0 0, .vec vars.length (w5 vars)] (hB c e I left ++ l) (.agg (q9 (g6 c vars I).1)) (hB c e (g6 c vars I).2 left ++ l) := c_wexpr (e := ⟨e.b0, e.b1, e.b2, e.z, e.m, e.g, e.rest ++ l⟩) hc hI hL vars hN
section
attribute [local go_sem] eN wrap64 dD EX Z1 MB oC R6 jU qI B5 H8 xR max2
theorem c_ref {c : Core} {e : Frame} {left I : Int} (hc : OkC c) (hI : OkI c.L I) (hL : c.L.length < 4611686018427387904) (vars : List BA) (hN : vars.length < 1000) (f : Fu) (hp : f.params.length ≤ 2) : CH 75 [.ptr 5 0 0, .agg (dD f), .vec vars.length (w5 vars)] (hB c e I left) (.agg (P4 (r6 c f.params vars I).1)) (hB c e (r6 c f.params vars I).2 left) := by
  refine .wz Tryz.f75 107 ?_
  have hml := hc.ml
  refine c62z ?_
  refine c8.G6 7 rfl ?_
  refine .aP (fun m st => ∃ (i : Nat), (m = c.ms.length - i ∧ i ≤ c.ms.length) ∧ st = ⟨mkS 107 [(0, AV.ptr 5 0 0), (2, AV.vec vars.length (w5 vars)), (4, AV.ptr e.n 0 0), (6, AV.ptr (e.n + 1) 0 0), (7, AV.own (e.n + 2) i 0 i), (8, AV.int .i64 ((i : Nat) : Int))], hB c e I left ++ [⟨0, false, 101, 3, [.str f.name, .vec f.params.length (s3 f.params), .vec f.body.len (n9 f.body)], 0⟩, ⟨0, false, 137, 2, [.str ByteArray.empty, .j5], 0⟩, p6 9 1 i (w5 ((c.ms.map (·.name)).take i))]⟩) (.v ⟨0, ⟨rfl, by omega⟩, rfl⟩ (hs := t33) (hr := t1)) ?_
  rintro m sl h' ⟨i, ⟨hm, hi⟩, hst⟩
  obtain ⟨rfl, rfl⟩ := St.mk.inj hst; clear hst
  have htk : ((c.ms.map (·.name)).take i).length = i := by simp; omega
  refine c0z ?_
  refine u2z ?_ ?_
  ·intro e1 qe1
   refine c2z ?_
   refine .c7 [0, 2, 4, 6, 7, 8] ?_
   refine c188z ?_
   refine .c7 [0, 2, 4, 6, 7, 8] ?_
   refine .rz ?_
   exact ⟨_, by omega, .v ⟨(i + 1), ⟨rfl, by omega⟩, rfl⟩ (he := by (rw [Z0 (by omega), iR]; simp only [List.append_assoc, List.cons_append, List.nil_append]; rfl)) (hl := t24) (hk := t104) (hs := t33) (hr := t1)⟩
  intro e1 qe1
  refine .exit ?_
  obtain rfl : i = c.ms.length := by omega
  change c8 ..
  refine .c7 [0, 2, 4, 6, 7] ?_
  refine c21z ?_
  refine .aP (fun m st => ∃ (j : Nat) (g : Nat), (m = f.params.length - j ∧ j ≤ f.params.length) ∧ st = ⟨mkS 107 [(0, AV.ptr 5 0 0), (2, AV.vec vars.length (w5 vars)), (4, AV.ptr e.n 0 0), (6, AV.ptr (e.n + 1) 0 0), (7, AV.own (e.n + 2) g 0 (j6 c (f.params.take j)).length), (9, AV.int .i64 ((c.ms.length : Nat) : Int)), (10, AV.int .i64 ((j : Nat) : Int))], hB c e I left ++ [⟨0, false, 101, 3, [.str f.name, .vec f.params.length (s3 f.params), .vec f.body.len (n9 f.body)], 0⟩, ⟨0, false, 137, 2, [.str ByteArray.empty, .j5], 0⟩, p6 9 1 g (w5 (j6 c (f.params.take j)))]⟩) (.v ⟨0, c.ms.length, ⟨rfl, by omega⟩, rfl⟩ (hs := t51) (hr := t1)) ?_ (he := by (rw [EV, show (c.ms.map (·.name)).take c.ms.length = c.ms.map (·.name) from List.take_of_length_le (by simp)]))
  rintro m sl h' ⟨j, g, ⟨hm, hj⟩, hst⟩
  obtain ⟨rfl, rfl⟩ := St.mk.inj hst; clear hst
  have hxl := (kZ hc (f.params.take j)).2
  have hxt : (f.params.take j).length ≤ 2 := by simp; omega
  refine c0z ?_
  refine u2z ?_ ?_
  ·intro e2 qe2
   refine c86z ?_
   refine u2z ?_ ?_
   ·intro e3 qe3
    refine .c7 [0, 2, 4, 6, 7, 9, 10] ?_
    refine c8.jF r9 (mkP 16 [0, 0, 2, 0, 14, 30, 62, 0, 128, 0, 896, 1920, 3968, 8190, 16383, 32767] [13, 14]) [0] (by kernel_rfl) (by kernel_rfl) ?_
    refine cZ.p (pd := []) 16 ?_
    refine cZ.nil t10 ?_
    change c8 ..
    refine .c7 [0, 2, 4, 6, 7, 9, 10] ?_
    refine .rz ?_
    have hxs := congrArg List.length (rn_t (c := c) (j := j) (ps := f.params) (by omega) (by assumption)); simp only [List.length_append, List.length_singleton] at hxs
    exact ⟨_, by omega, .v ⟨(j + 1), (g + 1), ⟨rfl, by omega⟩, rfl⟩ (he := by (rw [rn_t (by omega) (by assumption), iR, iR]; simp only [List.append_assoc, List.cons_append, List.nil_append]; rfl)) (hl := t24) (hk := t104) (hs := t51) (hr := t1)⟩
   intro e3 qe3
   refine c7z ?_
   refine .c7 [0, 2, 4, 6, 7, 9, 10] ?_
   refine .rz ?_
   have hxs := congrArg List.length (rn_f (c := c) (j := j) (ps := f.params) (by omega) (by assumption))
   exact ⟨_, by omega, .v ⟨(j + 1), g, ⟨rfl, by omega⟩, rfl⟩ (he := by (rw [rn_f (by omega) (by assumption)]; exact (List.append_nil _).symm)) (hl := t24) (hk := t104) (hs := t51) (hr := t1)⟩
  intro e2 qe2
  refine .exit ?_
  obtain rfl : j = f.params.length := by omega
  rw [List.take_length] at hxl ⊢
  change c8 ..
  have hrl := kZ hc f.params
  have hk := l5 hI (n := ((j6 c f.params).length : Int)) (by omega)
  rw [dW (encN_ne hrl.1)]
  refine c168z ?_
  refine .ch rfl rfl (eO _ _ _ hI hL (by omega) (by omega)) ?_
  refine .n ?_
  refine .c7 [0, 2, 6, 7, 9, 11] ?_
  refine c18z ?_
  refine c39z ?_
  refine .spl 80 rfl rfl (fun e4 => ?_) (fun e4 => ?_)
  ·try simp only [e4]
   have qe4 := fact e4
   refine .k 8 [(3, 80)] ?_
   refine .m [(3, 80)] ?_
   refine u2z ?_ ?_
   ·intro e5 qe5
    refine .c7 [0, 2, 6, 11, 12] ?_
    have hsz := hc.mx (c5 c.L I (j6 c f.params).length).1.toNat (by omega)
    refine c148z ?_
    refine .e 3 ?_
    refine .ch rfl rfl (MD hc hk.2.2 hL vars hN _ (by omega)) ?_
    refine c28z ?_
    refine .c7 [6, 12] ?_
    refine c25z ?_
    exact ⟨hB _ _ _ _, _, _, rfl, t63, fG, t7, t76⟩
   intro e5 qe5
   refine .sk ?_
   refine .c7 [6, 12] ?_
   refine c25z ?_
   exact ⟨hB _ _ _ _, _, _, rfl, t63, fG, t7, t76⟩
  try simp only [e4]
  have qe4 := fact e4
  refine .k 8 [(3, 80)] ?_
  refine .m [(3, 80)] ?_
  refine c15z ?_
  refine .c7 [6, 12] ?_
  refine c25z ?_
  exact ⟨hB _ _ _ _, _, _, rfl, t63, fG, t7, t76⟩
end
end Go.Proofs.YtfbjlfhjkojmkaaGreat
end
section
namespace Go.Proofs.YtfbjlfhjkojmkaaGreat
open Go.Ab Go.Un
structure Sco where
  p : Go.Un.Pg
  l : List Ent
  loc : Int
  st : Int
  code : List Ins
  sites : List Int
structure Frm where
  pre : c6
  rest : c6
def Frm.k (e : Frm) : Nat := e.pre.length
def Frm.n (e : Frm) : Nat := e.pre.length + (e.rest.length + 3)
def v5 (k : Nat) (s : Sco) : Blk := ⟨0, false, 148, 10, [.vec s.p.globals.length (o6 s.p.globals), .vec s.p.c4.length (g5 s.p.c4), .vec s.p.funcs.length (m9 s.p.funcs), .vec s.l.length (g8 s.l), .int .i64 s.loc, .int .i64 s.st, .int .i64 0, .int .i64 0, .own (k + 1) s.code.length 0 s.code.length, .own (k + 2) s.sites.length 0 s.sites.length], 0⟩
def hT (e : Frm) (b : Blk) (c : List Ins) (ss : List Int) : c6 := e.pre ++ (b :: p6 77 12 c.length (o3 c) :: p6 3 1 ss.length (g9 ss) :: e.rest)
section
variable {e : Frm} {b b' : Blk} {c c' : List Ins} {ss ss' : List Int} {l : c6} {j : Nat}
theorem y0 : (hT e b c ss).length = e.n := by simp [hT, Frm.n]
theorem Frm.lt (e : Frm) : e.k < e.n ∧ e.k + 1 < e.n ∧ e.k + 2 < e.n := by unfold Frm.k Frm.n; omega
theorem hT_0 : (hT e b c ss)[e.k]? = some b := by rw [hT, Frm.k, List.getElem?_append_right (Nat.le_refl _), Nat.sub_self]; rfl
theorem hT_1 : (hT e b c ss)[e.k + 1]? = some (p6 77 12 c.length (o3 c)) := by rw [hT, Frm.k, List.getElem?_append_right (by omega), Nat.add_sub_cancel_left]; rfl
theorem hT_2 : (hT e b c ss)[e.k + 2]? = some (p6 3 1 ss.length (g9 ss)) := by rw [hT, Frm.k, List.getElem?_append_right (by omega), Nat.add_sub_cancel_left]; rfl
theorem ME : (hT e b c ss ++ l)[e.k]? = some b := by rw [List.getElem?_append_left (by rw [y0]; exact e.lt.1), hT_0]
theorem MF : (hT e b c ss ++ l)[e.k + 1]? = some (p6 77 12 c.length (o3 c)) := by rw [List.getElem?_append_left (by rw [y0]; exact e.lt.2.1), hT_1]
theorem MG : (hT e b c ss ++ l)[e.k + 2]? = some (p6 3 1 ss.length (g9 ss)) := by rw [List.getElem?_append_left (by rw [y0]; exact e.lt.2.2), hT_2]
theorem dF : (hT e b c ss ++ l)[e.n + j]? = l[j]? := by rw [List.getElem?_append_right (by rw [y0]; omega), y0, Nat.add_sub_cancel_left]
theorem yD : (hT e b c ss ++ l)[e.n]? = l[0]? := by rw [List.getElem?_append_right (by rw [y0]; omega), y0, Nat.sub_self]
theorem fM : (hT e b c ss ++ l).set (e.n + j) b' = hT e b c ss ++ l.set j b' := by rw [List.set_append_right _ _ (by rw [y0]; omega), y0, Nat.add_sub_cancel_left]
theorem J4 : (hT e b c ss ++ l).set e.n b' = hT e b c ss ++ l.set 0 b' := by rw [List.set_append_right _ _ (by rw [y0]; omega), y0, Nat.sub_self]
theorem MH : (hT e b c ss).set e.k b' = hT e b' c ss := by
  rw [hT, Frm.k, List.set_append_right _ _ (Nat.le_refl _), Nat.sub_self]; rfl
theorem R8 : (hT e b c ss ++ l).set e.k b' = hT e b' c ss ++ l := by
  rw [List.set_append_left _ _ (by rw [y0]; exact e.lt.1), MH]
theorem hT_p1 : (hT e b c ss).set (e.k + 1) (p6 77 12 c'.length (o3 c')) = hT e b c' ss := by
  rw [hT, Frm.k, List.set_append_right _ _ (by omega), Nat.add_sub_cancel_left]; rfl
theorem hT_p2 : (hT e b c ss).set (e.k + 2) (p6 3 1 ss'.length (g9 ss')) = hT e b c ss' := by
  rw [hT, Frm.k, List.set_append_right _ _ (by omega), Nat.add_sub_cancel_left]; rfl
theorem QJ : (hT e b c ss ++ l).set (e.k + 1) (p6 77 12 c'.length (o3 c')) = hT e b c' ss ++ l := by
  rw [List.set_append_left _ _ (by rw [y0]; exact e.lt.2.1), hT_p1]
theorem hT_p2a : (hT e b c ss ++ l).set (e.k + 2) (p6 3 1 ss'.length (g9 ss')) = hT e b c ss' ++ l := by
  rw [List.set_append_left _ _ (by rw [y0]; exact e.lt.2.2), hT_p2]
theorem QK : hT e b c ss ++ l = hT ⟨e.pre, e.rest ++ l⟩ b c ss := by simp [hT]
end
theorem QL (l : List Ins) : w6 (o3 l) := w6.flat fun i => by
  rw [dM, aW]
  exact .cons .int (.cons .int (.cons .bool (.cons .int (.cons .int (.cons .str (.cons .vec (.cons .bool (.cons .int (.cons .vec (.cons .vec (.cons .vec .nil)))))))))))
theorem vE (l : List Int) : w6 (g9 l) := w6.map fun _ => .int
theorem yE {e : Frm} {b b' : Blk} {c c' : List Ins} {ss ss' : List Int} (hb : ∀ x ∈ b'.cells, Refs e.n x) : z5 (hT e b c ss) (hT e b' c' ss') := by
  unfold hT
  refine z5.app (z5.refl _) rfl ⟨.inr ?_, .inr (by rw [o4]; exact (QL _).refs _), .inr (by rw [o4]; exact (vE _).refs _), mD.refl _ _⟩
  rw [show e.pre.length + (b' :: p6 77 12 c'.length (o3 c') :: p6 3 1 ss'.length (g9 ss') :: e.rest).length = e.n from by simp [Frm.n]]
  exact hb
variable {s : Sco}
theorem hT_keep {e : Frm} {k : Nat} {s' : Sco} : k = e.k → z5 (hT e (v5 k s) s.code s.sites) (hT e (v5 k s') s'.code s'.sites) := by
  rintro rfl
  refine yE (fC.get ⟨.vec _ _, .vec _ _, .vec _ _, .vec _ _, .int _ _, .int _ _, .int _ _, .int _ _, .own _ _ _ _ ?_, .own _ _ _ _ ?_, trivial⟩)
  · exact e.lt.2.1
  · exact e.lt.2.2
theorem eP {f : FuncId} {args : List AV} {x : AV} {s' : Sco} {l : c6} {e : Frm} (h : CH f args (hT ⟨e.pre, e.rest ++ l⟩ (v5 e.k s) s.code s.sites) x (hT ⟨e.pre, e.rest ++ l⟩ (v5 e.k s') s'.code s'.sites)) : CH f args (hT e (v5 e.k s) s.code s.sites ++ l) x (hT e (v5 e.k s') s'.code s'.sites ++ l) := by
  rw [QK, QK]
  exact h
theorem Z2 {α : Type} (f : α → List AV) (K j : Nat) (hK : ∀ a, (f a).length = K) (hj : j < K) (d : α) {l : List α} {i : Nat} (h : i < l.length) : List.take 1 (List.drop (i * K + j) (l.flatMap f)) = List.take 1 (List.drop j (f (l.getD i d))) := by
  rw [← bR f K hK d h, List.drop_take, List.take_take, List.drop_drop, Nat.min_eq_left (by omega)]
theorem iS {l : List Ent} {i : Nat} (h : i < l.length) : List.take 1 (List.drop (i * 3) (g8 l)) = [.str (l.getD i iI).name] := Z2 gK 3 0 (fun _ => rfl) (by omega) iI h
variable {x : BA}
theorem find_at {l : List Ent} : ∀ {i : Nat}, i < l.length → (∀ d, d < i → ((l.getD d iI).name.toList == x.toList) = false) → ((l.getD i iI).name.toList == x.toList) = true → aY l x = some (l.getD i iI) := by
  have tl : ∀ {a b : BA}, (a.toList == b.toList) = decide (a = b) := by
    intro a b
    rw [ByteArray.toList_eq, ByteArray.toList_eq, Bool.eq_iff_iff]
    simp only [beq_iff_eq, decide_eq_true_eq]
    constructor
    · intro h
      exact ByteArray.ext (Array.toList_inj.1 h)
    · rintro rfl; rfl
  induction l with
  | nil => intro i h; simp at h
  | cons e l ih =>
    intro i hi h1 h2
    rw [aY, List.find?_cons]
    cases i with
    | zero =>
      rw [tl] at h2
      simp only [List.getD_cons_zero] at h2 ⊢
      rw [h2]
    | succ i =>
      have h0 := h1 0 (by omega)
      rw [tl] at h0
      simp only [List.getD_cons_zero] at h0
      rw [h0]
      simp only [List.getD_cons_succ] at h2 ⊢
      exact ih (by simpa using hi) (fun d hd => by have := h1 (d + 1) (by omega); simpa using this) h2
theorem find_no {l : List Ent} (h : ∀ d, d < l.length → ((l.getD d iI).name.toList == x.toList) = false) : aY l x = none := by
  rw [aY, List.find?_eq_none]
  intro e he
  obtain ⟨i, hi, rfl⟩ := bF (d := iI) he
  have := h i hi
  intro hc
  simp only [decide_eq_true_eq] at hc
  rw [hc] at this
  simp at this
theorem find_nx {l : List Ent} {i : Nat} (h : ∀ d, d < i → ((l.getD d iI).name.toList == x.toList) = false) (e : ((l.getD i iI).name.toList == x.toList) = false) : ∀ d, d < i + 1 → ((l.getD d iI).name.toList == x.toList) = false := fun d hd => by
  by_cases hdi : d = i
  · rw [hdi]; exact e
  · exact h d (by omega)
variable {v : Ent}
theorem R9 {l : List Ent} (h : aY l x = some v) : AV.tup [.agg [.str v.name, .int .i64 v.kind, .int .i64 v.n], .bool true] = .tup [.agg (gK (dU l x)), .bool (aY l x).isSome] := by
  rw [dH h, h]; rfl
theorem S2 {l : List Ent} (h : aY l x = none) : AV.tup [.agg [.str ByteArray.empty, .int .i64 0, .int .i64 0], .bool false] = .tup [.agg (gK (dU l x)), .bool (aY l x).isSome] := by
  rw [dU, h]; rfl
variable {i : Ins}
theorem jV : dM i = [.int .i64 i.op, .int .i64 i.target, .bool i.global, .int .i64 i.e.op, .int .i64 i.e.num, .str i.e.name, .vec i.e.args.length (l8 i.e.args), .bool i.pl.param, .int .i64 i.pl.index, .vec i.pl.at'.length (l8 i.pl.at'), .vec i.ints.length (l8 i.ints), .vec i.v9.length (cO i.v9)] := by rw [dM, aW]; rfl
theorem J5 {l : List Ins} : o3 (l ++ [i]) = o3 l ++ dM i := by simp [o3]
theorem oD {l : List Int} {i : Int} : g9 (l ++ [i]) = g9 l ++ [.int .i64 i] := by simp [g9]
theorem UR (l : List Ex) : w6 (l8 l) := w6.flat fun e => by rw [aW]; exact .cons .int (.cons .int (.cons .str (.cons .vec .nil)))
theorem EY (l : List Pl) : w6 (cO l) := w6.flat fun p => .cons .bool (.cons .int (.cons .vec .nil))
theorem tT : List.take 12 (dM i) = dM i := List.take_of_length_le (by rw [aD]; omega)
variable {b0 : Blk}
theorem MI {e : Frm} {b : Blk} {c : List Ins} {ss : List Int} {l : c6} {n : Nat} (hn : c.length = n) (hl : n < 100000) : j4 cfg 77 (hT e b c ss ++ (b0 :: ⟨1, false, 77, 12, dM i, 0⟩ :: l)) (.own (e.k + 1) n 0 n) (.own (e.n + 1) 1 0 1) = some (.own (e.k + 1) (n + 1) 0 (n + 1), hT e b (c ++ [i]) ss ++ (b0 :: ⟨1, false, 77, 12, dM i, 0⟩ :: l)) := by
  subst hn
  have h1 : (c ++ [i]).length = c.length + 1 := by simp
  rw [z8 (C := cfg) (K := 12) (m := 1) (new := dM i) MF rfl (by omega) (by rw [s4, Nat.mul_comm]) (by rw [aD]) (by omega) (by simp [rd, dF, aD, tT]) rfl (by decide) (by omega), ← J5, ← h1, QJ]
theorem C8 {e : Frm} {b : Blk} {c : List Ins} {ss : List Int} {l : c6} {n : Nat} (hn : c.length = n) (hl : n < 100000) : j4 cfg 77 (hT e b c ss ++ (b0 :: ⟨1, false, 77, 12, [.int .i64 i.op, .int .i64 i.target, .bool i.global, .int .i64 i.e.op, .int .i64 i.e.num, .str i.e.name, .vec i.e.args.length (l8 i.e.args), .bool i.pl.param, .int .i64 i.pl.index, .vec i.pl.at'.length (l8 i.pl.at'), .vec i.ints.length (l8 i.ints), .vec i.v9.length (cO i.v9)], 0⟩ :: l)) (.own (e.k + 1) n 0 n) (.own (e.n + 1) 1 0 1) = some (.own (e.k + 1) (n + 1) 0 (n + 1), hT e b (c ++ [i]) ss ++ (b0 :: ⟨1, false, 77, 12, [.int .i64 i.op, .int .i64 i.target, .bool i.global, .int .i64 i.e.op, .int .i64 i.e.num, .str i.e.name, .vec i.e.args.length (l8 i.e.args), .bool i.pl.param, .int .i64 i.pl.index, .vec i.pl.at'.length (l8 i.pl.at'), .vec i.ints.length (l8 i.ints), .vec i.v9.length (cO i.v9)], 0⟩ :: l)) := by
  rw [← jV]; exact MI hn hl
theorem S3 {e : Frm} {b b1 : Blk} {c : List Ins} {ss : List Int} {l : c6} {t : Int} {n : Nat} (hn : ss.length = n) (hl : n < 100000) : j4 cfg 3 (hT e b c ss ++ (b0 :: b1 :: ⟨1, false, 3, 1, [.int .i64 t], 0⟩ :: l)) (.own (e.k + 2) n 0 n) (.own (e.n + 2) 1 0 1) = some (.own (e.k + 2) (n + 1) 0 (n + 1), hT e b c (ss ++ [t]) ++ (b0 :: b1 :: ⟨1, false, 3, 1, [.int .i64 t], 0⟩ :: l)) := by
  subst hn
  have h1 : (ss ++ [t]).length = ss.length + 1 := by simp
  rw [z8 (C := cfg) (K := 1) (m := 1) (new := [.int .i64 t]) MG rfl (by omega) (by rw [m6, Nat.mul_one]) rfl (by omega) (by simp [rd, dF]) rfl (by decide) (by omega), ← oD, ← h1, hT_p2a]
attribute [local go_sem] j4 rd p7 m8 aQ bS s4 aD eI cK n7 aL aB m6 aS Int.natCast_nonneg Int.natCast_inj List.length_map wrap64 eN hY iA Q4 B5 H8 Q5 xR max2 dY bW aT Nat.reduceMul lS iS v5 gK oC jU tT y0 hT_0 hT_1 hT_2 ME MF MG dF yD fM J4 MH R8
variable {h : c6}
theorem QM (l : List Ent) (x : BA) (hl : l.length < 1000000) : CB 51 [.vec l.length (g8 l), .str x] h (.tup [.agg (gK (dU l x)), .bool (aY l x).isSome]) := by
  refine .bz Tryz.f51 25 ?_
  refine c21z ?_
  refine .dK (fun m st => ∃ (i : Nat), (m = l.length - i ∧ ((∀ d, d < i → ((l.getD d iI).name.toList == x.toList) = false) ∧ i ≤ l.length)) ∧ st = ⟨mkS 25 [(0, AV.vec l.length (g8 l)), (1, AV.str x), (4, AV.ptr h.length 0 0), (6, AV.int .i64 ((i : Nat) : Int))], h ++ [⟨0, false, 110, 3, [.str ByteArray.empty, .int .i64 0, .int .i64 0], 0⟩]⟩) _ (.v ⟨0, ⟨rfl, ⟨t106, by omega⟩⟩, rfl⟩) ?_
  rintro m sl h' ⟨i, ⟨hm, ⟨hI, hi⟩⟩, hst⟩
  obtain ⟨rfl, rfl⟩ := St.mk.inj hst
  refine c0z ?_
  refine u2z ?_ ?_
  ·intro e1 qe1
   refine c86z ?_
   refine u2z ?_ ?_
   ·intro e2 qe2
    refine .c7 [0, 4, 6] ?_
    refine .z ?_
    exact .ret (.ex (hq := t151))
   intro e2 qe2
   refine c7z ?_
   refine .c7 [0, 1, 4, 6] ?_
   refine .rz ?_
   exact ⟨_, by omega, .v ⟨(i + 1), ⟨rfl, ⟨find_nx hI (by assumption), by omega⟩⟩, rfl⟩⟩
  intro e1 qe1
  refine .exit ?_
  obtain rfl : i = l.length := by omega
  refine c218z ?_
  exact .ret (.ex (hq := t151))
theorem J6 {l : List Ent} (hf : aY l x = some v) (hl : l.length < 1000000) : CB 51 [.vec l.length (g8 l), .str x] h (.tup [.agg [.str v.name, .int .i64 v.kind, .int .i64 v.n], .bool true]) := by
  have := QM (h := h) l x hl
  rw [← R9 hf] at this
  exact this
theorem EZ {l : List Ent} (hf : aY l x = none) (hl : l.length < 1000000) : CB 51 [.vec l.length (g8 l), .str x] h (.tup [.agg [.str ByteArray.empty, .int .i64 0, .int .i64 0], .bool false]) := by
  have := QM (h := h) l x hl
  rw [← S2 hf] at this
  exact this
theorem c_var {e : Frm} (hl : s.l.length < 1000000) (t : Int) (hf : aY s.l x = some v) (hk : v.kind = 1 ∨ v.kind = 4) : CB 109 [.ptr e.k 0 0, .str x, .int .i64 t] (hT e (v5 e.k s) s.code s.sites) (.agg [.str v.name, .int .i64 v.kind, .int .i64 v.n]) := by
  refine .bz Tryz.f109 37 ?_
  refine .z ?_
  refine c22z ?_
  refine .ca rfl rfl (J6 hf hl) ?_
  refine .n ?_
  refine .sb ?_
  refine .c7 [0, 2, 6, 7, 8] ?_
  refine c8z ?_
  refine c39z ?_
  refine .spl 28 rfl rfl (fun e1 => ?_) (fun e1 => ?_)
  ·try simp only [e1]
   have qe1 := fact e1
   refine .m [(3, 28)] ?_
   refine uFbz ?_
   intro e2 qe2
   refine c7z ?_
   refine c215z ?_
   exact .ret (.ex (hf := t2) (hq := by rfl))
  try simp only [e1]
  have qe1 := fact e1
  refine .m [(3, 28)] ?_
  refine c42z ?_
  refine c215z ?_
  exact .ret (.ex (hf := t2) (hq := by rfl))
theorem c_ex1 {e : Frm} (hl : s.l.length < 1000000) (t : Int) (n : Int) : CB 108 [.ptr e.k 0 0, .agg (q9 (.leaf 1 n ByteArray.empty)), .int .i64 t] (hT e (v5 e.k s) s.code s.sites) (.agg (q9 (eJ s.l (.leaf 1 n ByteArray.empty)))) := by
  refine c230z ?_
  refine c15z ?_
  refine c18z ?_
  refine .c7 [0, 2, 4, 6, 8] ?_
  refine c128z ?_
  refine .c7 [6, 8] ?_
  refine .z ?_
  exact .ret (.ex (hf := t2) (hq := by rfl))
theorem c_ex2 {e : Frm} (hl : s.l.length < 1000000) (t : Int) (n : Int) (hf : aY s.l x = some v) (hk : v.kind = 1 ∨ v.kind = 4) : CB 108 [.ptr e.k 0 0, .agg (q9 (.leaf 2 n x)), .int .i64 t] (hT e (v5 e.k s) s.code s.sites) (.agg (q9 (eJ s.l (.leaf 2 n x)))) := by
  refine c230z ?_
  refine .T ?_
  refine c39z ?_
  refine .ca rfl rfl (eP (c_var hl t hf hk)) ?_
  refine c44z ?_
  refine c215z ?_
  refine u2z ?_ ?_
  ·intro e1 qe1
   refine .z ?_
   exact .ret (.ex (hf := t2) (hq := t181))
  intro e1 qe1
  refine .sk ?_
  refine .z ?_
  exact .ret (.ex (hf := t2) (hq := t181))
theorem c_exU {e : Frm} (hl : s.l.length < 1000000) (t : Int) (o : Int) (a : Ex) (ho : o ≠ 2) (iha : ∀ e : Frm, CB 108 [.ptr e.k 0 0, .agg (q9 a), .int .i64 t] (hT e (v5 e.k s) s.code s.sites) (.agg (q9 (eJ s.l a)))) : CB 108 [.ptr e.k 0 0, .agg (q9 (.un o a)), .int .i64 t] (hT e (v5 e.k s) s.code s.sites) (.agg (q9 (eJ s.l (.un o a)))) := by
  refine c230z ?_
  refine uFbz ?_
  intro e1 qe1
  refine .sk ?_
  refine c18z ?_
  refine .c7 [0, 2, 4, 6, 8] ?_
  refine c23z ?_
  refine c201z ?_
  refine c36z ?_
  refine c173z ?_
  refine c64z ?_
  refine .p 1 ?_
  refine .cn [true] [512, 0] [_] rfl rfl (by simp only [jB, and_true, List.cons_append, List.nil_append]; exact eP (iha _)) ?_
  refine c75z ?_
  refine c93z ?_
  refine c49z ?_
  change c8 ..
  refine .c7 [0, 2, 4, 6, 8, 9] ?_
  refine .rz ?_
  refine c35z ?_
  refine .c7 [6, 8] ?_
  refine .z ?_
  exact .ret (.ex (hf := t2) (hq := by rfl))
theorem c_exB {e : Frm} (hl : s.l.length < 1000000) (t : Int) (o : Int) (a b : Ex) (ho : o ≠ 2) (iha : ∀ e : Frm, CB 108 [.ptr e.k 0 0, .agg (q9 a), .int .i64 t] (hT e (v5 e.k s) s.code s.sites) (.agg (q9 (eJ s.l a)))) (ihb : ∀ e : Frm, CB 108 [.ptr e.k 0 0, .agg (q9 b), .int .i64 t] (hT e (v5 e.k s) s.code s.sites) (.agg (q9 (eJ s.l b)))) : CB 108 [.ptr e.k 0 0, .agg (q9 (.bin o a b)), .int .i64 t] (hT e (v5 e.k s) s.code s.sites) (.agg (q9 (eJ s.l (.bin o a b)))) := by
  refine c230z ?_
  refine uFbz ?_
  intro e1 qe1
  refine .sk ?_
  refine c18z ?_
  refine .c7 [0, 2, 4, 6, 8] ?_
  refine c23z ?_
  refine c129z ?_
  refine c36z ?_
  refine c173z ?_
  refine c64z ?_
  refine .p 1 ?_
  refine .cn [true] [512, 0] [_] rfl rfl (by simp only [jB, and_true, List.cons_append, List.nil_append]; exact eP (iha _)) ?_
  refine c75z ?_
  refine c93z ?_
  refine c49z ?_
  change c8 ..
  refine .c7 [0, 2, 4, 6, 8, 9] ?_
  refine .rz ?_
  refine c74z ?_
  refine c36z ?_
  refine c173z ?_
  refine c64z ?_
  refine .p 1 ?_
  refine .cn [true] [512, 0] [_] rfl rfl (by simp only [jB, and_true, List.cons_append, List.nil_append]; exact eP (ihb _)) ?_
  refine c75z ?_
  refine c93z ?_
  refine c49z ?_
  change c8 ..
  refine .c7 [0, 2, 4, 6, 8, 9] ?_
  refine .rz ?_
  refine c35z ?_
  refine .c7 [6, 8] ?_
  refine .z ?_
  exact .ret (.ex (hf := t2) (hq := by rfl))
theorem Dh {s : Sco} (hl : s.l.length < 1000000) (t : Int) {vars : List BA} (hv : ∀ x ∈ vars, ∃ v, aY s.l x = some v ∧ (v.kind = 1 ∨ v.kind = 4)) : ∀ {d : Nat} {a : Ex}, GE vars d a → ∀ e : Frm, CB 108 [.ptr e.k 0 0, .agg (q9 a), .int .i64 t] (hT e (v5 e.k s) s.code s.sites) (.agg (q9 (eJ s.l a)))
  | d, .leaf o n x, hg, e => by
    rcases iK.1 hg with ⟨rfl, _, _, rfl⟩ | ⟨rfl, _, h1⟩
    · exact c_ex1 hl t n
    · obtain ⟨v, h2, h3⟩ := hv x h1
      exact c_ex2 hl t n h2 h3
  | 0, .un o a, hg, e => hg.elim
  | 0, .bin o a b, hg, e => hg.elim
  | d + 1, .un o a, hg, e => c_exU hl t o a (by have := hg.1; omega) (Dh hl t hv hg.2)
  | d + 1, .bin o a b, hg, e => c_exB hl t o a b (by have := hg.1; omega) (Dh hl t hv hg.2.1) (Dh hl t hv hg.2.2)
theorem sz_0 {m : Int} (h : m = 0) : decide (m > 0) = false := by simp; omega
theorem sz_1 {m : Int} (h : 0 < m) : decide (m > 0) = true := by simp; omega
theorem lV {l : List Fu} {i : Nat} (h : i < l.length) : List.take 1 (List.drop (i * 3 + 1) (m9 l)) = [AV.vec (l.getD i g7).params.length (s3 (l.getD i g7).params)] := Z2 dD 3 1 (fun _ => rfl) (by omega) g7 h
variable {y : BA}
theorem c_ref5 {e : Frm} (hl : s.l.length < 1000000) (t : Int) {n : Int} (hf : aY s.l x = some ⟨y, 5, n⟩) : CB 111 [.ptr e.k 0 0, .agg [.str x, .vec 0 []], .int .i64 t] (hT e (v5 e.k s) s.code s.sites) (.agg [.bool true, .int .i64 n, .vec 0 []]) := by
  refine .bz Tryz.f111 92 ?_
  refine .z ?_
  refine c20z ?_
  refine c108z ?_
  refine c226z ?_
  refine c143z ?_
  refine .sb ?_
  refine c8z ?_
  refine .c7 [0, 2, 4, 6, 7, 9] ?_
  refine .s ?_
  refine .k 8 [(3, 63)] ?_
  refine .n ?_
  refine .F ?_
  refine c77z ?_
  refine .k 8 [(3, 31)] ?_
  refine .k 8 [(3, 31)] ?_
  refine .n [] ?_
  refine .c7 [0, 2, 4, 6, 9, 10] ?_
  refine c8z ?_
  refine c7z ?_
  refine c5z ?_
  refine c56z ?_
  refine .c7 [6, 9, 74] ?_
  refine .z ?_
  exact .ret (.ex (hf := t2) (hq := by rfl))
section
attribute [local go_sem] sz_0
theorem c_ref2 {e : Frm} (hl : s.l.length < 1000000) (t : Int) {n : Int} (hf : aY s.l x = some ⟨y, 2, n⟩) (hn : 0 ≤ n ∧ n < s.p.c4.length) (hz : (s.p.c4.getD n.toNat z6).size = 0) : CB 111 [.ptr e.k 0 0, .agg [.str x, .vec 0 []], .int .i64 t] (hT e (v5 e.k s) s.code s.sites) (.agg [.bool false, .int .i64 n, .vec 0 []]) := by
  refine .bz Tryz.f111 92 ?_
  refine .z ?_
  refine c20z ?_
  refine c108z ?_
  refine c226z ?_
  refine c143z ?_
  refine .sb ?_
  refine c8z ?_
  refine .c7 [0, 2, 4, 6, 7, 9] ?_
  refine .s ?_
  refine .k 8 [(3, 63)] ?_
  refine .n ?_
  refine .F ?_
  refine c77z ?_
  refine .k 8 [(3, 31)] ?_
  refine .k 8 [(3, 31)] ?_
  refine .n [] ?_
  refine .c7 [0, 2, 4, 6, 9, 10] ?_
  refine c8z ?_
  refine c7z ?_
  refine c5z ?_
  refine c56z ?_
  refine .c7 [6, 9, 74] ?_
  refine .z ?_
  exact .ret (.ex (hf := t2) (hq := by rfl))
end
section
attribute [local go_sem] sz_1
variable {vars : List BA}
theorem c_ref1 {e : Frm} (hl : s.l.length < 1000000) (t : Int) {n : Int} (hf : aY s.l x = some ⟨y, 2, n⟩) (hn : 0 ≤ n ∧ n < s.p.c4.length) (hz : 0 < (s.p.c4.getD n.toNat z6).size) (hv : ∀ x ∈ vars, ∃ v, aY s.l x = some v ∧ (v.kind = 1 ∨ v.kind = 4)) {d : Nat} {a : Ex} (ha : GE vars d a) : CB 111 [.ptr e.k 0 0, .agg [.str x, .vec 1 (q9 a)], .int .i64 t] (hT e (v5 e.k s) s.code s.sites) (.agg [.bool false, .int .i64 n, .vec 1 (q9 (eJ s.l a))]) := by
  refine .bz Tryz.f111 92 ?_
  refine .z ?_
  refine c20z ?_
  refine c108z ?_
  refine c226z ?_
  refine c143z ?_
  refine .sb ?_
  refine c8z ?_
  refine .c7 [0, 2, 4, 6, 7, 9] ?_
  refine .s ?_
  refine .k 8 [(3, 63)] ?_
  refine .n ?_
  refine .F ?_
  refine c77z ?_
  refine .k 8 [(3, 31)] ?_
  refine .k 8 [(3, 31)] ?_
  refine .n [] ?_
  refine .c7 [0, 2, 4, 6, 9, 10] ?_
  refine c8z ?_
  refine c7z ?_
  refine c5z ?_
  refine c201z ?_
  refine .c7 [0, 2, 4, 6, 9, 11] ?_
  refine c36z ?_
  refine c173z ?_
  refine c64z ?_
  refine .p 1 ?_
  refine .cn [true] [512, 0] [_] rfl rfl (by simp only [jB, and_true, List.cons_append, List.nil_append]; exact eP (Dh hl t hv ha _)) ?_
  refine c75z ?_
  refine c93z ?_
  refine c49z ?_
  change c8 ..
  refine .c7 [0, 2, 4, 6, 9, 11] ?_
  refine .rz ?_
  refine c35z ?_
  refine .c7 [6, 9, 74] ?_
  refine .z ?_
  exact .ret (.ex (hf := t2) (hq := by rfl))
end
variable {vars : List BA}
theorem c_refL {e : Frm} (hl : s.l.length < 1000000) (t : Int) {E : Env} {c : Ctx} (sc : SC E c vars s.l) (hE : E.c4 = s.p.c4) (hc : c.nm = s.p.c4.length) {r : Rf} (g : GR E vars r) : CB 111 [.ptr e.k 0 0, .agg [.str r.name, .vec r.idx.length (l8 r.idx)], .int .i64 t] (hT e (v5 e.k s) s.code s.sites) (.agg (A8 (pJ s.l r))) := by
  obtain ⟨x, idx⟩ := r
  rcases g with ⟨m, hm, hn, ⟨hz, a, hi, ha⟩ | ⟨hz, hi⟩⟩ | ⟨p, hp, hmu, hn, hi⟩
  · simp only at hn hi
    subst hn hi
    obtain ⟨v, h1, h2, h3, h4, h5⟩ := sc.mx m hm
    obtain ⟨y, k, n⟩ := v
    simp only at h2 h3 h4 h5
    subst h2
    rw [hE] at h5
    have := c_ref1 (e := e) hl t h1 ⟨h3, by omega⟩ (by rw [h5]; exact hz) sc.var ha
    simp only [pJ, dH h1, A8, List.map_cons, List.map_nil, List.length_cons, List.length_nil, l8, List.flatMap_cons, List.flatMap_nil, List.append_nil]
    exact this
  · simp only at hn hi
    subst hn hi
    obtain ⟨v, h1, h2, h3, h4, h5⟩ := sc.mx m hm
    obtain ⟨y, k, n⟩ := v
    simp only at h2 h3 h4 h5
    subst h2
    rw [hE] at h5
    have := c_ref2 (e := e) hl t h1 ⟨h3, by omega⟩ (by rw [h5]; exact hz)
    simp only [pJ, dH h1]
    exact this
  · simp only at hn hi
    subst hn hi
    obtain ⟨v, h1, h2, h3, h4⟩ := sc.pm p hp hmu
    obtain ⟨y, k, n⟩ := v
    simp only at h2 h3 h4
    subst h2
    have := c_ref5 (e := e) hl t h1
    simp only [pJ, dH h1]
    exact this
end Go.Proofs.YtfbjlfhjkojmkaaGreat
end
section
namespace Go.Proofs.YtfbjlfhjkojmkaaGreat
open Go.Ab Go.Un
theorem Z3 {l : List Ex} {x : Ex} : l8 (l ++ [x]) = l8 l ++ q9 x := by simp [l8]
theorem J7 {l : List Pl} {x : Pl} : cO (l ++ [x]) = cO l ++ A8 x := by simp [cO]
section
variable {e : Frm} {b b0 b1 b2 b3 b4 b5 b6 : Blk} {c : List Ins} {ss : List Int} {l : c6} {es : List Ex} {x : Ex} {ps : List Pl} {p : Pl} {g n : Nat}
theorem FA (hn : es.length = n) (hl : n < 100000) : j4 cfg 72 (hT e b c ss ++ (b0 :: b1 :: b2 :: b3 :: p6 72 4 g (l8 es) :: b5 :: b6 :: ⟨0, false, 72, 4, q9 x, 0⟩ :: l)) (.own (e.n + 4) g 0 n) (.own (e.n + 7) 0 0 1) = some (.own (e.n + 4) (g + 1) 0 (n + 1), hT e b c ss ++ (b0 :: b1 :: b2 :: b3 :: p6 72 4 (g + 1) (l8 (es ++ [x])) :: b5 :: b6 :: ⟨0, false, 72, 4, q9 x, 0⟩ :: l)) := by
  subst hn
  rw [z8 (C := cfg) (K := 4) (m := 1) (new := q9 x) (zs := l8 es) (by rw [dF]; rfl) rfl (by omega) (by rw [aQ, Nat.mul_comm]) (by rw [m8]) (by omega) (by simp [rd, dF, m8, eN]) rfl (by decide) (by omega), ← Z3, fM]
  rfl
theorem FB (hn : ps.length = n) (hl : n < 100000) : j4 cfg 74 (hT e b c ss ++ (b0 :: b1 :: b2 :: b3 :: b4 :: p6 74 3 g (cO ps) :: b6 :: ⟨0, false, 74, 3, [.bool p.param, .int .i64 p.index, .vec p.at'.length (l8 p.at')], 0⟩ :: l)) (.own (e.n + 5) g 0 n) (.own (e.n + 7) 0 0 1) = some (.own (e.n + 5) (g + 1) 0 (n + 1), hT e b c ss ++ (b0 :: b1 :: b2 :: b3 :: b4 :: p6 74 3 (g + 1) (cO (ps ++ [p])) :: b6 :: ⟨0, false, 74, 3, [.bool p.param, .int .i64 p.index, .vec p.at'.length (l8 p.at')], 0⟩ :: l)) := by
  subst hn
  rw [z8 (C := cfg) (K := 3) (m := 1) (new := A8 p) (zs := cO ps) (by rw [dF]; rfl) rfl (by omega) t182 rfl (by omega) (by simp [rd, dF, A8]) rfl (by decide) (by omega), ← J7, fM]
  rfl
end
theorem hT_same {e : Frm} {b : Blk} {c : List Ins} {ss : List Int} {l l' : c6} (hl : mD (e.n + l'.length) l l') : z5 (hT e b c ss ++ l) (hT e b c ss ++ l') :=
  (z5.refl _).app rfl (by rw [y0]; exact hl)
variable {E : Env} {vars : List BA} {xs : List Ar}
theorem GAs.mu {ps : List Pm} (h : GAs E vars ps xs) : ps.length = xs.length ∧ ∀ i, i < xs.length → (xs.getD i cN).mu = (ps.getD i fW).mu := by
  induction ps generalizing xs with
  | nil =>
    cases xs with
    | nil => exact ⟨rfl, fun i hi => by simp at hi⟩
    | cons => exact h.elim
  | cons p ps ih =>
    cases xs with
    | nil => exact h.elim
    | cons a xs =>
      obtain ⟨⟨h1, _⟩, h3⟩ := h
      obtain ⟨i1, i2⟩ := ih h3
      refine ⟨by simp [i1], fun i hi => ?_⟩
      cases i with
      | zero => exact h1
      | succ i => exact i2 i (by simpa using hi)
theorem ar_is {ps : List Pm} (h : GAs E vars ps xs) {i : Nat} (hi : i < xs.length) : ((xs.getD i cN).mu = true → GR E vars (xs.getD i cN).r) ∧ ((xs.getD i cN).mu = false → GE vars 2 (xs.getD i cN).e) := by
  induction ps generalizing xs i with
  | nil =>
    cases xs with
    | nil => simp at hi
    | cons => exact h.elim
  | cons p ps ih =>
    cases xs with
    | nil => exact h.elim
    | cons a xs =>
      obtain ⟨⟨h1, h2⟩, h3⟩ := h
      cases i with
      | succ i => exact ih h3 (by simpa using hi)
      | zero =>
        simp only [List.getD_cons_zero]
        rcases h2 with ⟨q1, q2, _⟩ | ⟨q1, _, q3⟩
        · exact ⟨fun _ => q2, fun h => absurd ((h1.trans q1).symm.trans h) (by decide)⟩
        · exact ⟨fun h => absurd ((h1.trans q1).symm.trans h) (by decide), fun _ => q3⟩
variable {i : Nat}
theorem yF (hi : i < xs.length) : xs.drop i = xs.getD i cN :: xs.drop (i + 1) := by
  rw [List.drop_eq_getElem_cons hi]
  simp [List.getD, hi]
theorem cEx_t {l : List Ent} (hi : i < xs.length) (h : (xs.getD i cN).mu = true) {es : List Ex} (he : aE l xs = es ++ aE l (xs.drop i)) : aE l xs = es ++ aE l (xs.drop (i + 1)) := by
  rw [he, yF hi, aE, if_pos h]
theorem cEx_f {l : List Ent} (hi : i < xs.length) (h : (xs.getD i cN).mu = false) {es : List Ex} (he : aE l xs = es ++ aE l (xs.drop i)) : aE l xs = (es ++ [eJ l (xs.getD i cN).e]) ++ aE l (xs.drop (i + 1)) := by
  rw [he, yF hi, aE, if_neg t177]; simp
theorem cPl_t {l : List Ent} (hi : i < xs.length) (h : (xs.getD i cN).mu = true) {ps : List Pl} (he : u7 l xs = ps ++ u7 l (xs.drop i)) : u7 l xs = (ps ++ [pJ l (xs.getD i cN).r]) ++ u7 l (xs.drop (i + 1)) := by
  rw [he, yF hi, u7, if_pos h]; simp
theorem cPl_f {l : List Ent} (hi : i < xs.length) (h : (xs.getD i cN).mu = false) {ps : List Pl} (he : u7 l xs = ps ++ u7 l (xs.drop i)) : u7 l xs = ps ++ u7 l (xs.drop (i + 1)) := by
  rw [he, yF hi, u7, if_neg t177]
theorem S4 {l : List Ar} (h : i < l.length) : List.take 7 (List.drop (i * 7) (aR l)) = [.bool (l.getD i cN).mu, .str (l.getD i cN).r.name, .vec (l.getD i cN).r.idx.length (l8 (l.getD i cN).r.idx), .int .i64 (l.getD i cN).e.op, .int .i64 (l.getD i cN).e.num, .str (l.getD i cN).e.name, .vec (l.getD i cN).e.args.length (l8 (l.getD i cN).e.args)] := by
  rw [sY h, tQ]
variable {s : Sco}
theorem MJ (hl : s.l.length < 1000000) (t : Int) (hv : ∀ x ∈ vars, ∃ v, aY s.l x = some v ∧ (v.kind = 1 ∨ v.kind = 4)) {d : Nat} {a : Ex} (g : GE vars d a) (e : Frm) : CB 108 [.ptr e.k 0 0, .agg [.int .i64 a.op, .int .i64 a.num, .str a.name, .vec a.args.length (l8 a.args)], .int .i64 t] (hT e (v5 e.k s) s.code s.sites) (.agg (q9 (eJ s.l a))) := by
  rw [← aW]; exact Dh hl t hv g e
theorem FC {e : Frm} (hl : s.l.length < 1000000) (t : Int) {c : Ctx} (sc : SC E c vars s.l) (hE : E.c4 = s.p.c4) (hc : c.nm = s.p.c4.length) {r : Rf} (g : GR E vars r) : CB 111 [.ptr e.k 0 0, .agg [.str r.name, .vec r.idx.length (l8 r.idx)], .int .i64 t] (hT e (v5 e.k s) s.code s.sites) (.agg [.bool (pJ s.l r).param, .int .i64 (pJ s.l r).index, .vec (pJ s.l r).at'.length (l8 (pJ s.l r).at')]) := c_refL hl t sc hE hc g
attribute [local go_sem] rd p7 m8 aQ bS s4 aD eI cK n7 aL aB m6 aS Int.natCast_nonneg Int.natCast_inj List.length_map wrap64 eN hY iA Q4 B5 H8 Q5 xR max2 dY bW aT Nat.reduceMul lS iS v5 gK oC jU tT y0 hT_0 hT_1 hT_2 ME MF MG dF yD fM J4 MH R8 lV C8 S3 FA FB
section
attribute [local go_sem] C8 S3
theorem c_put {e : Frm} (hc : s.code.length < 10000) (hs : s.sites.length < 10000) (i : Ins) (t : Int) : CH 82 [.ptr e.k 0 0, .agg (dM i), .int .i64 t] (hT e (v5 e.k s) s.code s.sites) (.int .i64 ((s.code.length : Nat) : Int)) (hT e (v5 e.k {s with code := s.code ++ [i], sites := s.sites ++ [t]}) (s.code ++ [i]) (s.sites ++ [t])) := by
  rw [jV]
  refine .wz Tryz.f82 33 ?_
  refine .z ?_
  refine .sg r9 (mkH 22 [0, 0, 0, 4, 12, 28, 0, 64, 252, 0, 512, 1536, 3584, 0, 8192, 32764, 65533, 131069, 262141, 524287, 1048575, 2097151] [7, 8, 14, 15, 18, 21] [(7, 0), (14, 1)] [0, 128, 384, 16384, 16512, 16768, 49536, 311680, 2408832] [0, 1, 2, 3, 4, 5, 6, 7, 8, 9, 10, 11, 12]) 2 ?_
  refine .p 5 ?_
  refine .rm [true] ?_
  refine .rm [true] ?_
  refine .em [true] [128, 0] [_] ?_
  refine .em [true, false] [384, 128, 0] [_] ?_
  refine .p 3 ?_
  refine .rm [true, true, true] ?_
  refine .p 1 ?_
  refine .en [true, true, true] [16768, 16512, 16384, 384, 128, 0] [_, _, _] ?_
  refine .en [true, false, false, false, false, false] [49536, 16768, 16512, 16384, 384, 128, 0] [_] ?_
  refine .p 2 ?_
  refine .en [true, false, false, false, false, false, false] [311680, 49536, 16768, 16512, 16384, 384, 128, 0] [_] ?_
  refine .p 2 ?_
  refine .en [true, false, false, false, false, false, false, false] [2408832, 311680, 49536, 16768, 16512, 16384, 384, 128, 0] [_] ?_
  refine .po [false, false, false, true, true, true, true, true, true] ?_
  refine .po [false, false, false, false, true, false, false, true, false] ?_
  refine .po [false, false, false, false, false, true, false, false, true] ?_
  refine .po [false, false, false, false, false, true, false, false, true] ?_
  refine .po [false, false, false, false, true, true, false, true, true] ?_
  refine s7.nil rfl ?_
  refine .c7 [0] ?_
  refine c25z ?_
  exact ⟨hT _ _ _ _, _, _, rfl, by (simp only [y0]; exact Nat.le_refl _), (yE (fC.get ⟨.vec _ _, .vec _ _, .vec _ _, .vec _ _, .int _ _, .int _ _, .int _ _, .int _ _, .own _ _ _ _ e.lt.2.1, .own _ _ _ _ e.lt.2.2, trivial⟩)), t2, by exact ⟨congrArg (AV.int .i64) (by omega), by simp only [v5, List.length_append, List.length_cons, List.length_nil]⟩⟩
end
section
attribute [local go_sem] lV S4 FA FB
theorem c_call3 {e : Frm} (hl : s.l.length < 1000000) (t : Int) {c : Ctx} (sc : SC E c vars s.l) (hE : E.c4 = s.p.c4) (hc : c.nm = s.p.c4.length) {x y : BA} {n : Int} (hf : aY s.l x = some ⟨y, 3, n⟩) (hn : 0 ≤ n ∧ n < s.p.funcs.length) {ps : List Pm} (hp : (s.p.funcs.getD n.toNat g7).params = ps) (hp2 : ps.length ≤ 2) (ha : GAs E vars ps xs) : CB 110 [.ptr e.k 0 0, .agg [.int .i64 3, .str x, .int .i64 0, .int .i64 0, .str ByteArray.empty, .vec 0 [], .str ByteArray.empty, .vec 0 [], .vec xs.length (aR xs), .vec 0 [], .vec 0 []], .int .i64 t] (hT e (v5 e.k s) s.code s.sites) (.agg (dM ⟨2, n, false, j8, bE, aE s.l xs, u7 s.l xs⟩)) := by
  refine .bz Tryz.f110 112 ?_
  refine .z ?_
  refine c83z ?_
  refine c15z ?_
  refine c20z ?_
  refine c108z ?_
  refine c226z ?_
  refine .sb ?_
  refine .c7 [0, 2, 4, 6, 7, 8, 9] ?_
  refine c106z ?_
  refine c7z ?_
  refine c143z ?_
  refine .ss r9 (mkP 11 [0, 1, 3, 7, 15, 0, 32, 127, 255, 511, 1023] []) ?_
  refine c57z ?_
  refine .seq ?_
  refine .c7 [0, 2, 4, 6, 7, 10] ?_
  have hml := GAs.mu ha; have hml1 := hml.1
  rw [hp]
  refine .z ?_
  refine .spl 61 rfl rfl (fun e1 => by exfalso; have hml1 := (GAs.mu ha).1; have q := fact e1; omega) (fun e1 => ?_)
  try simp only [e1]
  have qe1 := fact e1
  refine c15z ?_
  refine c5z ?_
  refine c8.mE (β := e.n + 2) (k := 10) t83 rfl ?_
  simp only [List.append_assoc, List.cons_append, List.nil_append, dF, fM, List.set_cons_succ, List.set_cons_zero, List.length_append, y0, List.length_cons, List.length_nil, Nat.reduceAdd, Nat.zero_add]
  refine c8.mE (β := e.n + 2) (k := 11) t83 rfl ?_
  simp only [List.append_assoc, List.cons_append, List.nil_append, dF, fM, List.set_cons_succ, List.set_cons_zero, List.length_append, y0, List.length_cons, List.length_nil, Nat.reduceAdd, Nat.zero_add]
  refine .aP (fun m st => ∃ (q : Nat) (es : List Ex) (ps' : List Pl) (gi : Nat) (gp : Nat), (m = ps.length - q ∧ (q ≤ ps.length ∧ aE s.l xs = es ++ aE s.l (xs.drop q) ∧ u7 s.l xs = ps' ++ u7 s.l (xs.drop q) ∧ es.length ≤ q ∧ ps'.length ≤ q)) ∧ st = ⟨mkS 112 [(0, AV.ptr e.k 0 0), (2, AV.int .i64 t), (4, AV.ptr e.n 0 0), (6, AV.ptr (e.n + 1) 0 0), (7, AV.ptr (e.n + 2) 0 0), (10, AV.vec ps.length (s3 ps)), (11, AV.int .i64 ((q : Nat) : Int))], (hT e (v5 e.k s) s.code s.sites) ++ [⟨0, false, 140, 11, [.int .i64 3, .str x, .int .i64 0, .int .i64 0, .str ByteArray.empty, .vec 0 [], .str ByteArray.empty, .vec 0 [], .vec xs.length (aR xs), .vec 0 [], .vec 0 []], 0⟩, ⟨0, false, 77, 12, [.int .i64 0, .int .i64 0, .bool false, .int .i64 0, .int .i64 0, .str ByteArray.empty, .j5, .bool false, .int .i64 0, .j5, .j5, .j5], 0⟩, ⟨0, false, 77, 12, [.int .i64 2, .int .i64 n, .bool false, .int .i64 0, .int .i64 0, .str ByteArray.empty, .j5, .bool false, .int .i64 0, .j5, .own (e.n + 4) gi 0 es.length, .own (e.n + 5) gp 0 ps'.length], 0⟩, ⟨0, false, 110, 3, [.str y, .int .i64 3, .int .i64 n], 0⟩, p6 72 4 gi (l8 es), p6 74 3 gp (cO ps')]⟩) (.v ⟨0, ([] : List Ex), ([] : List Pl), 0, 0, ⟨rfl, ⟨by omega, by simp, by simp, by simp, by simp⟩⟩, rfl⟩ (hr := t15)) ?_
  rintro m sl h' ⟨q, es, ps', gi, gp, ⟨hm, ⟨hq, hes, hps, hel, hpl⟩⟩, hst⟩
  obtain ⟨rfl, rfl⟩ := St.mk.inj hst; clear hst
  refine c0z ?_
  refine u2z ?_ ?_
  ·intro e2 qe2
   refine c2z ?_
   have har := ar_is ha (i := q) (by omega)
   refine c18z ?_
   refine .c7 [0, 2, 4, 6, 7, 10, 11, 12] ?_
   refine .ss r9 (mkP 8 [0, 1, 0, 0, 12, 28, 60, 127] []) ?_
   refine .n [] ?_
   refine .spl 84 rfl rfl (fun e3 => by exfalso; have hml2 := (GAs.mu ha).2 q (by omega); simp_all) (fun e3 => ?_)
   try simp only [e3]
   have qe3 := fact e3
   refine c113z ?_
   refine u2z ?_ ?_
   ·intro e4 qe4
    refine .c7 [0, 2, 4, 6, 7, 10, 11, 12, 77] ?_
    have hmu : (xs.getD q cN).mu = true := by assumption
    refine c46z ?_
    refine c173z ?_
    refine .p 1 ?_
    refine .cn [true] [64, 0] [_] rfl rfl t138 ?_
    refine c84z ?_
    refine c99z ?_
    refine c49z ?_
    refine c149z ?_
    refine .rz ?_
    exact ⟨_, by omega, .v ⟨(q + 1), es, (ps' ++ [pJ s.l (xs.getD q cN).r]), gi, (gp + 1), ⟨rfl, ⟨by omega, cEx_t (by omega) hmu hes, cPl_t (by omega) hmu hps, by omega, t53⟩⟩, rfl⟩ (he := t34) (hl := t89) (hk := t28) (hr := t15)⟩
   intro e4 qe4
   refine .c7 [0, 2, 4, 6, 7, 10, 11, 12, 77] ?_
   have hmu : (xs.getD q cN).mu = false := by assumption
   refine c46z ?_
   refine c173z ?_
   refine .p 1 ?_
   refine .cn [true] [64, 0] [_] rfl rfl t140 ?_
   refine c84z ?_
   refine c99z ?_
   refine c49z ?_
   refine c149z ?_
   refine .rz ?_
   exact ⟨_, by omega, .v ⟨(q + 1), (es ++ [eJ s.l (xs.getD q cN).e]), ps', (gi + 1), gp, ⟨rfl, ⟨by omega, cEx_f (by omega) hmu hes, cPl_f (by omega) hmu hps, t53, by omega⟩⟩, rfl⟩ (he := t34) (hl := t89) (hk := t28) (hr := t15)⟩
  intro e2 qe2
  refine .exit ?_
  obtain rfl : q = ps.length := by omega
  rw [List.drop_of_length_le (by omega)] at hes hps; simp only [aE, u7, List.append_nil] at hes hps
  refine c8.nS (γ := e.n + 4) (β := e.n + 2) (k := 10) (len := es.length) t83 (by rw [aQ, Nat.mul_comm]) (by omega) (UR _) t83 (by omega) rfl ?_
  simp only [List.append_assoc, List.cons_append, List.nil_append, dF, fM, List.set_cons_succ, List.set_cons_zero, List.length_append, y0, List.length_cons, List.length_nil, Nat.reduceAdd, Nat.zero_add]
  refine c8.nS (γ := e.n + 5) (β := e.n + 2) (k := 11) (len := ps'.length) t83 t182 (by omega) (EY _) t83 (by omega) rfl ?_
  simp only [List.append_assoc, List.cons_append, List.nil_append, dF, fM, List.set_cons_succ, List.set_cons_zero, List.length_append, y0, List.length_cons, List.length_nil, Nat.reduceAdd, Nat.zero_add]
  generalize fV 72 4 gi (l8 es) (es.length * 4) = Eb
  generalize fV 74 3 gp (cO ps') (ps'.length * 3) = Pb
  change c8 ..
  refine c215z ?_
  exact .ret (.ex (hf := t2) (hq := t183))
end
section
attribute [local go_sem] lV S4 FA FB
theorem c_call4 {e : Frm} (hl : s.l.length < 1000000) (t : Int) {c : Ctx} (sc : SC E c vars s.l) (hE : E.c4 = s.p.c4) (hc : c.nm = s.p.c4.length) {x y : BA} {n : Int} (hf : aY s.l x = some ⟨y, 3, n⟩) (hn : 0 ≤ n ∧ n < s.p.funcs.length) {ps : List Pm} (hp : (s.p.funcs.getD n.toNat g7).params = ps) (hp2 : ps.length ≤ 2) (ha : GAs E vars ps xs) : CB 110 [.ptr e.k 0 0, .agg [.int .i64 4, .str x, .int .i64 0, .int .i64 0, .str ByteArray.empty, .vec 0 [], .str ByteArray.empty, .vec 0 [], .vec xs.length (aR xs), .vec 0 [], .vec 0 []], .int .i64 t] (hT e (v5 e.k s) s.code s.sites) (.agg (dM ⟨3, n, false, j8, bE, aE s.l xs, u7 s.l xs⟩)) := by
  refine .bz Tryz.f110 112 ?_
  refine .z ?_
  refine c83z ?_
  refine .T ?_
  refine c1z ?_
  refine c20z ?_
  refine c108z ?_
  refine c226z ?_
  refine .sb ?_
  refine .c7 [0, 2, 4, 6, 7, 8, 9] ?_
  refine c106z ?_
  refine c7z ?_
  refine c143z ?_
  refine .ss r9 (mkP 11 [0, 1, 3, 7, 15, 0, 32, 127, 255, 511, 1023] []) ?_
  refine c57z ?_
  refine .seq ?_
  refine .c7 [0, 2, 4, 6, 7, 10] ?_
  have hml := GAs.mu ha; have hml1 := hml.1
  rw [hp]
  refine .z ?_
  refine .spl 61 rfl rfl (fun e1 => by exfalso; have hml1 := (GAs.mu ha).1; have q := fact e1; omega) (fun e1 => ?_)
  try simp only [e1]
  have qe1 := fact e1
  refine c15z ?_
  refine c5z ?_
  refine c8.mE (β := e.n + 2) (k := 10) t83 rfl ?_
  simp only [List.append_assoc, List.cons_append, List.nil_append, dF, fM, List.set_cons_succ, List.set_cons_zero, List.length_append, y0, List.length_cons, List.length_nil, Nat.reduceAdd, Nat.zero_add]
  refine c8.mE (β := e.n + 2) (k := 11) t83 rfl ?_
  simp only [List.append_assoc, List.cons_append, List.nil_append, dF, fM, List.set_cons_succ, List.set_cons_zero, List.length_append, y0, List.length_cons, List.length_nil, Nat.reduceAdd, Nat.zero_add]
  refine .aP (fun m st => ∃ (q : Nat) (es : List Ex) (ps' : List Pl) (gi : Nat) (gp : Nat), (m = ps.length - q ∧ (q ≤ ps.length ∧ aE s.l xs = es ++ aE s.l (xs.drop q) ∧ u7 s.l xs = ps' ++ u7 s.l (xs.drop q) ∧ es.length ≤ q ∧ ps'.length ≤ q)) ∧ st = ⟨mkS 112 [(0, AV.ptr e.k 0 0), (2, AV.int .i64 t), (4, AV.ptr e.n 0 0), (6, AV.ptr (e.n + 1) 0 0), (7, AV.ptr (e.n + 2) 0 0), (10, AV.vec ps.length (s3 ps)), (11, AV.int .i64 ((q : Nat) : Int))], (hT e (v5 e.k s) s.code s.sites) ++ [⟨0, false, 140, 11, [.int .i64 4, .str x, .int .i64 0, .int .i64 0, .str ByteArray.empty, .vec 0 [], .str ByteArray.empty, .vec 0 [], .vec xs.length (aR xs), .vec 0 [], .vec 0 []], 0⟩, ⟨0, false, 77, 12, [.int .i64 0, .int .i64 0, .bool false, .int .i64 0, .int .i64 0, .str ByteArray.empty, .j5, .bool false, .int .i64 0, .j5, .j5, .j5], 0⟩, ⟨0, false, 77, 12, [.int .i64 3, .int .i64 n, .bool false, .int .i64 0, .int .i64 0, .str ByteArray.empty, .j5, .bool false, .int .i64 0, .j5, .own (e.n + 4) gi 0 es.length, .own (e.n + 5) gp 0 ps'.length], 0⟩, ⟨0, false, 110, 3, [.str y, .int .i64 3, .int .i64 n], 0⟩, p6 72 4 gi (l8 es), p6 74 3 gp (cO ps')]⟩) (.v ⟨0, ([] : List Ex), ([] : List Pl), 0, 0, ⟨rfl, ⟨by omega, by simp, by simp, by simp, by simp⟩⟩, rfl⟩ (hr := t15)) ?_
  rintro m sl h' ⟨q, es, ps', gi, gp, ⟨hm, ⟨hq, hes, hps, hel, hpl⟩⟩, hst⟩
  obtain ⟨rfl, rfl⟩ := St.mk.inj hst; clear hst
  refine c0z ?_
  refine u2z ?_ ?_
  ·intro e2 qe2
   refine c2z ?_
   have har := ar_is ha (i := q) (by omega)
   refine c18z ?_
   refine .c7 [0, 2, 4, 6, 7, 10, 11, 12] ?_
   refine .ss r9 (mkP 8 [0, 1, 0, 0, 12, 28, 60, 127] []) ?_
   refine .n [] ?_
   refine .spl 84 rfl rfl (fun e3 => by exfalso; have hml2 := (GAs.mu ha).2 q (by omega); simp_all) (fun e3 => ?_)
   try simp only [e3]
   have qe3 := fact e3
   refine c113z ?_
   refine u2z ?_ ?_
   ·intro e4 qe4
    refine .c7 [0, 2, 4, 6, 7, 10, 11, 12, 77] ?_
    have hmu : (xs.getD q cN).mu = true := by assumption
    refine c46z ?_
    refine c173z ?_
    refine .p 1 ?_
    refine .cn [true] [64, 0] [_] rfl rfl t138 ?_
    refine c84z ?_
    refine c99z ?_
    refine c49z ?_
    refine c149z ?_
    refine .rz ?_
    exact ⟨_, by omega, .v ⟨(q + 1), es, (ps' ++ [pJ s.l (xs.getD q cN).r]), gi, (gp + 1), ⟨rfl, ⟨by omega, cEx_t (by omega) hmu hes, cPl_t (by omega) hmu hps, by omega, t53⟩⟩, rfl⟩ (he := t34) (hl := t89) (hk := t28) (hr := t15)⟩
   intro e4 qe4
   refine .c7 [0, 2, 4, 6, 7, 10, 11, 12, 77] ?_
   have hmu : (xs.getD q cN).mu = false := by assumption
   refine c46z ?_
   refine c173z ?_
   refine .p 1 ?_
   refine .cn [true] [64, 0] [_] rfl rfl t140 ?_
   refine c84z ?_
   refine c99z ?_
   refine c49z ?_
   refine c149z ?_
   refine .rz ?_
   exact ⟨_, by omega, .v ⟨(q + 1), (es ++ [eJ s.l (xs.getD q cN).e]), ps', (gi + 1), gp, ⟨rfl, ⟨by omega, cEx_f (by omega) hmu hes, cPl_f (by omega) hmu hps, t53, by omega⟩⟩, rfl⟩ (he := t34) (hl := t89) (hk := t28) (hr := t15)⟩
  intro e2 qe2
  refine .exit ?_
  obtain rfl : q = ps.length := by omega
  rw [List.drop_of_length_le (by omega)] at hes hps; simp only [aE, u7, List.append_nil] at hes hps
  refine c8.nS (γ := e.n + 4) (β := e.n + 2) (k := 10) (len := es.length) t83 (by rw [aQ, Nat.mul_comm]) (by omega) (UR _) t83 (by omega) rfl ?_
  simp only [List.append_assoc, List.cons_append, List.nil_append, dF, fM, List.set_cons_succ, List.set_cons_zero, List.length_append, y0, List.length_cons, List.length_nil, Nat.reduceAdd, Nat.zero_add]
  refine c8.nS (γ := e.n + 5) (β := e.n + 2) (k := 11) (len := ps'.length) t83 t182 (by omega) (EY _) t83 (by omega) rfl ?_
  simp only [List.append_assoc, List.cons_append, List.nil_append, dF, fM, List.set_cons_succ, List.set_cons_zero, List.length_append, y0, List.length_cons, List.length_nil, Nat.reduceAdd, Nat.zero_add]
  generalize fV 72 4 gi (l8 es) (es.length * 4) = Eb
  generalize fV 74 3 gp (cO ps') (ps'.length * 3) = Pb
  change c8 ..
  refine c215z ?_
  exact .ret (.ex (hf := t2) (hq := t183))
end
end Go.Proofs.YtfbjlfhjkojmkaaGreat
end
