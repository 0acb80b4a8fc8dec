/-
  THE LAW GrammarDoubled. Written in part by a program of mine (gen25d.py, walk.py). Conditions: none.
-/
import Derived.Test.YtfcbamfgejfleaaDoorLeng
import Derived.Test.YtfcbamfgejfleaaDoorEarlE
namespace Go.Proofs.YtfcbamfgejfleaaDoor
open Go.Ab
set_option linter.unusedSimpArgs false
set_option linter.unusedVariables false
set_option maxRecDepth 100000
set_option maxHeartbeats 4000000
/-- The items, the first 'i' of which cite nothing. -/
def initI (m i : Nat) : List (Int × Int) := (List.range m).map fun j => (0, if j < i then -1 else 0)
theorem initI_len (m i : Nat) : (initI m i).length = m := by simp [initI]
theorem initI_set {m i : Nat} (h : i < m) : (initI m i).set i (((initI m i).getD i (0, 0)).1, -1) = initI m (i + 1) := by
  refine List.ext_getElem (by simp [initI]) fun j h1 h2 => ?_
  rw [List.getElem_set]
  simp only [initI, List.getElem_map, List.getElem_range]
  split
  · rename_i e; subst e; simp [List.getD, h]
  · rename_i e
    by_cases hj : j < i
    · rw [if_pos hj, if_pos (by omega)]
    · rw [if_neg hj, if_neg (by omega)]
theorem flatI (n : Nat) : (List.replicate n [AV.int .i64 0, AV.int .i64 0]).flatten = ptA (initI n 0) := by
  have e : initI n 0 = List.replicate n (0, 0) := by
    refine List.ext_getElem (by simp [initI]) fun j h1 h2 => ?_
    simp [initI]
  rw [e]
  induction n with
  | zero => rfl
  | succ n ih => 
    have e2 : initI n 0 = List.replicate n (0, 0) := by
      refine List.ext_getElem (by simp [initI]) fun j h1 h2 => ?_
      simp [initI]
    rw [List.replicate_succ, List.replicate_succ, List.flatten_cons, ih e2]
    rfl
theorem over2b : ∀ {l : List (Int × Int)} {i : Nat} {v : Int}, i < l.length → List.take (i * 2 + 1) (ptA l) ++ AV.int .i64 v :: List.drop (i * 2 + 1 + 1) (ptA l) = ptA (l.set i ((l.getD i (0, 0)).1, v))
  | p :: l, 0, v, _ => rfl
  | p :: l, i + 1, v, h => by
    rw [ptA_cons, show (i + 1) * 2 + 1 + 1 = (i * 2 + 1 + 1) + 1 + 1 from by omega, show (i + 1) * 2 + 1 = (i * 2 + 1) + 1 + 1 from by omega]
    simp only [List.drop_succ_cons, List.take_succ_cons, List.cons_append, List.set_cons_succ, ptA_cons]
    rw [over2b (by simpa using h)]
    rfl
/-- The cells of the rules, the blocks of the rounds. -/
def dC (m i : Nat) : List AV := [.int .i64 0, .bool false, .own 0 0 0 m] ++ (List.range i).flatMap fun j => [.int .i64 0, .bool false, .own (2 * j + 1 + 1 + 1) 0 0 2]
def tail2 (i : Nat) : Heap := (List.range i).flatMap fun (j : Nat) => [⟨0, false, 30, 2, [.int .i64 0, .int .i64 ((j : Nat) : Int), .int .i64 0, .int .i64 ((j : Nat) : Int)], 0⟩, ⟨0, false, 25, 3, [.int .i64 0, .bool false, .own (2 * j + 1 + 1 + 1) 0 0 2], 0⟩]
theorem dC_succ (m i : Nat) : dC m (i + 1) = dC m i ++ [.int .i64 0, .bool false, .own (2 * i + 1 + 1 + 1) 0 0 2] := by
  simp [dC, List.range_succ]
theorem tail_succ (i : Nat) : tail2 (i + 1) = tail2 i ++ [⟨0, false, 30, 2, [.int .i64 0, .int .i64 (i : Int), .int .i64 0, .int .i64 (i : Int)], 0⟩, ⟨0, false, 25, 3, [.int .i64 0, .bool false, .own (2 * i + 1 + 1 + 1) 0 0 2], 0⟩] := by
  simp [tail2, List.range_succ]
theorem dC_len (m : Nat) : ∀ i, (dC m i).length = 3 * (i + 1)
  | 0 => rfl
  | i + 1 => by rw [dC_succ, List.length_append, dC_len m i]; simp; omega
theorem tail_len : ∀ i, (tail2 i).length = 2 * i
  | 0 => rfl
  | i + 1 => by rw [tail_succ, List.length_append, tail_len i]; simp; omega
theorem app_d {b0 X A : Blk} {i : Nat} {cs : List AV} {c1 c2 c3 : AV} (hc : cs.length = 3 * (i + 1)) (hi : i < 1000) :
    appendA cfg 25 (b0 :: ⟨i, false, 25, 3, cs, 0⟩ :: X :: (tail2 i ++ [A, ⟨0, false, 25, 3, [c1, c2, c3], 0⟩])) (.own 1 i 0 (i + 1)) (.own (2 * i + 1 + 1 + 1 + 1) 0 0 1) =
      some (.own 1 (i + 1) 0 (i + 1 + 1), b0 :: ⟨i + 1, false, 25, 3, cs ++ [c1, c2, c3], 0⟩ :: X :: (tail2 i ++ [A, ⟨0, false, 25, 3, [c1, c2, c3], 0⟩])) := by
  have e1 : cfg.sz 25 = 3 := rfl
  have e2 : (cfg.ti 25).bytes = 40 := rfl
  have hg : (b0 :: (⟨i, false, 25, 3, cs, 0⟩ : Blk) :: X :: (tail2 i ++ [A, ⟨0, false, 25, 3, [c1, c2, c3], 0⟩]))[2 * i + 1 + 1 + 1 + 1]? = some ⟨0, false, 25, 3, [c1, c2, c3], 0⟩ := by
    simp only [List.getElem?_cons_succ]
    rw [← tail_len i, get_app]
    rfl
  have hm : i + 1 + 1 ≤ maxLen := by simp only [maxLen]; omega
  have h16 : (i + 1 + 1) * 40 ≤ 140737488355328 := by omega
  have ht : List.take ((i + 1) * 3) cs = cs := List.take_of_length_le (by omega)
  have hn : ¬ (i + 1 + 1) * 3 ≤ 3 * (i + 1) := by omega
  have hn2 : (i + 1) * 3 ≤ 3 * (i + 1) := by omega
  simp [appendA, rd, lenOf, e1, e2, hg, hc, h16, hm, hn, hn2, ht]
theorem app_dC {b0 X A : Blk} {m i : Nat} {c1 c2 c3 : AV} (hi : i < 1000) :
    appendA cfg 25 (b0 :: ⟨i, false, 25, 3, dC m i, 0⟩ :: X :: (tail2 i ++ [A, ⟨0, false, 25, 3, [c1, c2, c3], 0⟩])) (.own 1 i 0 (i + 1)) (.own (2 * i + 1 + 1 + 1 + 1) 0 0 1) =
      some (.own 1 (i + 1) 0 (i + 1 + 1), b0 :: ⟨i + 1, false, 25, 3, dC m i ++ [c1, c2, c3], 0⟩ :: X :: (tail2 i ++ [A, ⟨0, false, 25, 3, [c1, c2, c3], 0⟩])) := app_d (dC_len m i) hi
def wantI (m : Nat) : Nat → Int
  | 0 => (m : Int)
  | i + 1 => if wantI m i < 2305843009213693951 then 2 * wantI m i + 2 else 4611686018427387904
theorem want_ok {m : Nat} (hm : m ≤ 9) : ∀ i, 0 ≤ wantI m i ∧ wantI m i ≤ 4611686018427387904
  | 0 => by simp only [wantI]; omega
  | i + 1 => by
    have := want_ok hm i
    simp only [wantI]
    split <;> omega

attribute [local go_sem] opsE opsSE opsME List.contains_cons List.contains_nil Bool.or_true Bool.true_or Bool.or_false Bool.false_or stepS quietA wantA plainA pureA readA effA callPureA lenA minA maxA rho embT emb putA List.set List.getD_cons_zero List.getD_cons_succ List.getD_nil binA intBin isShift unA buildA fillA over partA loadA readAt writeAt newVarA virts addOff AV.cellsOf AV.storable AV.one UD.isAgg UD.known lenOf sliceA boundA virtNone get_app get_app0 set_app set_app0 Array.toList List.take_succ_cons List.take_zero List.drop_succ_cons List.drop_zero List.getElem?_cons_succ List.getElem?_cons_zero List.getElem?_toArray Option.bind_some Option.map_some Option.map_none List.map_cons List.map_nil List.length_cons List.length_nil List.length_append Nat.zero_add Nat.add_zero Nat.le_refl Nat.one_mul Nat.mul_one List.append_assoc List.cons_append List.nil_append List.append_nil and_self and_true true_and true_or or_true if_true if_false Bool.false_eq_true not_false_eq_true bTT bTF bFT bFF Bool.not_true Bool.not_false decide_true decide_false Int.toNat_zero Int.toNat_one Int.toNat_natCast List.size_toArray ut3 sz3 ti3 ut4 sz4 ti4 ut23 sz23 ti23 ut25 sz25 ti25 ut26 sz26 ti26 ut28 sz28 ti28 ut30 sz30 ti30 ut34 sz34 ti34 ptA_len tail_len dC_len Int.natCast_nonneg List.length_map List.length_set

theorem toNat1 {m : Nat} : (1 + (m : Int)).toNat = m + 1 := by omega
theorem one_max : (1 ≤ maxLen) = True := by simp; decide
theorem two_max : (2 ≤ maxLen) = True := by simp; decide
theorem flat1 {x y z : AV} : (List.replicate 1 [x, y, z]).flatten = [x, y, z] := rfl
theorem flat2 : (List.replicate 2 [AV.int .i64 0, AV.int .i64 0]).flatten = [AV.int .i64 0, AV.int .i64 0, AV.int .i64 0, AV.int .i64 0] := rfl

/-- The rules, as plain values. -/
def dbl (m n : Nat) : List RuleL := ⟨0, false, initI m m⟩ :: (List.range n).map fun (j : Nat) => ⟨0, false, [(0, (j : Int)), (0, (j : Int))]⟩
theorem dbl_len (m n : Nat) : (dbl m n).length = n + 1 := by simp [dbl]
theorem optMap_append {α β : Type} {f : α → Option β} {l l2 : List α} {r r2 : List β} (h : optMap f l = some r) (h2 : optMap f l2 = some r2) : optMap f (l ++ l2) = some (r ++ r2) := by
  induction l generalizing r with
  | nil => cases h; exact h2
  | cons x l ih =>
    simp only [optMap, List.cons_append] at h ⊢
    cases hx : f x with
    | none => simp only [hx] at h; cases h
    | some y =>
      simp only [hx] at h
      cases hl : optMap f l with
      | none => simp only [hl] at h; cases h
      | some ys =>
        simp only [hl, Option.some.injEq] at h
        subst h
        simp only [ih hl, List.cons_append]
/-- The blocks at the end. -/
def endH (m n : Nat) : Heap := ⟨0, false, 30, 2, ptA (initI m m), 0⟩ :: ⟨n, false, 25, 3, dC m n, 0⟩ :: ⟨0, false, 28, 5, [.int .i64 0, .int .i64 0, .int .i64 0, .int .i64 0, .own 1 n 0 (n + 1)], 0⟩ :: tail2 n
theorem tail_get {n j : Nat} (h : j < n) : (tail2 n)[2 * j]? = some ⟨0, false, 30, 2, [.int .i64 0, .int .i64 (j : Int), .int .i64 0, .int .i64 (j : Int)], 0⟩ := by
  induction n with
  | zero => omega
  | succ n ih =>
    rw [tail_succ]
    by_cases e : j = n
    · subst e
      rw [← tail_len j, List.getElem?_append_right (Nat.le_refl _), Nat.sub_self]
      rfl
    · rw [List.getElem?_append_left (by rw [tail_len]; omega)]
      exact ih (by omega)
theorem opt_pt {f : AV → Option AV} (hf : ∀ k i, f (.int k i) = some (.int k i)) : ∀ l, optMap f (ptA l) = some (ptA l)
  | [] => rfl
  | p :: l => by simp only [ptA_cons, optMap, hf, opt_pt hf l]
theorem frz_own {H : Heap} {β g e sz len d : Nat} {cs cs' : List AV} (hb : H[β]? = some ⟨g, false, e, sz, cs, 0⟩) (hl : cs.length = len * sz) (ho : optMap (frzP 0 H d) cs = some cs') : frzP 0 H (d + 1) (.own β g 0 len) = some (.vec len cs') := by
  rw [show frzP 0 H (d + 1) (.own β g 0 len) = (match H[β]? with
      | some b => if b.gen = g ∧ 0 ≤ β then (if b.virt then (if len = 0 then some (.vec 0 []) else none)
        else if 0 + len * b.esz ≤ b.cells.length then (match optMap (frzP 0 H d) ((b.cells.drop 0).take (len * b.esz)) with
          | some cs => some (.vec len cs)
          | none => none) else none) else none
      | none => none) from rfl, hb]
  simp only [Nat.zero_le, and_self, if_true, Bool.false_eq_true, if_false, Nat.zero_add, List.drop_zero, hl, Nat.le_refl]
  rw [← hl, List.take_length, ho]
theorem opt_dC {m n : Nat} : ∀ k, k ≤ n → optMap (frzP 0 (endH m n) 5) (dC m k) = some (rulesA (dbl m k))
  | 0, _ => by
    have h0 : frzP 0 (endH m n) 5 (.own 0 0 0 m) = some (.vec m (ptA (initI m m))) := frz_own (H := endH m n) rfl (by rw [ptA_len, initI_len]; omega) (opt_pt (f := frzP 0 (endH m n) 4) (fun k i => rfl) _)
    have e : dC m 0 = [.int .i64 0, .bool false, .own 0 0 0 m] := rfl
    have e2 : rulesA (dbl m 0) = [.int .i64 0, .bool false, .vec m (ptA (initI m m))] := by
      simp only [dbl, List.range_zero, List.map_nil, rulesA_cons, initI_len]
      rfl
    rw [e, e2]
    have hi : frzP 0 (endH m n) 5 (.int .i64 0) = some (.int .i64 0) := rfl
    have hb : frzP 0 (endH m n) 5 (.bool false) = some (.bool false) := rfl
    simp only [optMap, hi, hb, h0]
  | k + 1, hk => by
    rw [dC_succ]
    have e2 : rulesA (dbl m (k + 1)) = rulesA (dbl m k) ++ [.int .i64 0, .bool false, .vec 2 [.int .i64 0, .int .i64 (k : Int), .int .i64 0, .int .i64 (k : Int)]] := by
      simp [dbl, List.range_succ, rulesA, ruleA, ptA]
    rw [e2]
    have hg : (endH m n)[2 * k + 1 + 1 + 1]? = some ⟨0, false, 30, 2, [.int .i64 0, .int .i64 (k : Int), .int .i64 0, .int .i64 (k : Int)], 0⟩ := by
      simp only [endH, List.getElem?_cons_succ]
      exact tail_get (by omega)
    have h0 : frzP 0 (endH m n) 5 (.own (2 * k + 1 + 1 + 1) 0 0 2) = some (.vec 2 [.int .i64 0, .int .i64 (k : Int), .int .i64 0, .int .i64 (k : Int)]) := frz_own hg rfl rfl
    have hi : frzP 0 (endH m n) 5 (.int .i64 0) = some (.int .i64 0) := rfl
    have hb : frzP 0 (endH m n) 5 (.bool false) = some (.bool false) := rfl
    exact optMap_append (opt_dC k (by omega)) (by simp only [optMap, hi, hb, h0])
theorem frz_cert {m n : Nat} : frzS 0 (endH m n) (.agg [.int .i64 0, .int .i64 0, .int .i64 0, .int .i64 0, .own 1 n 0 (n + 1)]) = some (.agg [.int .i64 0, .int .i64 0, .int .i64 0, .int .i64 0, .vec (dbl m n).length (rulesA (dbl m n))]) := by
  have h0 : frzP 0 (endH m n) 6 (.own 1 n 0 (n + 1)) = some (.vec (n + 1) (rulesA (dbl m n))) := frz_own (H := endH m n) rfl (by rw [dC_len]; omega) (opt_dC n (Nat.le_refl _))
  have hi : frzP 0 (endH m n) 6 (.int .i64 0) = some (.int .i64 0) := rfl
  simp only [frzS, optMap, hi, h0, dbl_len, Option.map_some]
theorem getD_set_self {zs : List Int} {k : Nat} {v : Int} (h : k < zs.length) : (zs.set k v).getD k 0 = v := by simp [List.getD, h]
theorem getD_set_ne {zs : List Int} {k i : Nat} {v : Int} (h : k ≠ i) : (zs.set k v).getD i 0 = zs.getD i 0 := by
  simp only [List.getD_eq_getElem?_getD, List.getElem?_set_ne h]
theorem item_ne {k i : Nat} {zs : List Int} {it : Int × Int} (h : k ≠ i) : (itemI k zs it).getD i 0 = zs.getD i 0 := by
  unfold itemI
  split <;> simp only [getD_set_ne h]
theorem row_ne {k i : Nat} {items : List (Int × Int)} {zs : List Int} (h : k ≠ i) (j : Nat) : (rowI k items zs j).getD i 0 = zs.getD i 0 := by
  unfold rowI
  generalize items.take j = l
  induction l generalizing zs with
  | nil => rfl
  | cons x l ih => exact (ih (zs := itemI k zs x)).trans (item_ne h)
theorem len_zero (l : List RuleL) : ∀ k i, k ≤ i → (lenI l k).getD i 0 = 0
  | 0, i, _ => by
    simp only [lenI, List.getD_eq_getElem?_getD, List.getElem?_replicate]
    split <;> rfl
  | k + 1, i, h => (row_ne (by omega) _).trans (len_zero l k i (by omega))
theorem row_first {m : Nat} {zs : List Int} (hz : 0 < zs.length) (h0 : zs.getD 0 0 = 0) (hm : m ≤ 10) : ∀ j, j ≤ m → (rowI 0 (initI m m) zs j).getD 0 0 = (j : Int) ∧ (rowI 0 (initI m m) zs j).length = zs.length
  | 0, _ => ⟨h0, rfl⟩
  | j + 1, hj => by
    obtain ⟨h1, h2⟩ := row_first hz h0 hm j (by omega)
    have hl := initI_len m m
    rw [row_succ (by omega)]
    have hi : (initI m m).getD j (0, 0) = (0, -1) := by
      simp [initI, List.getD, show j < m from by omega]
    rw [hi]
    unfold itemI
    rw [if_neg (by omega)]
    refine ⟨?_, by rw [List.length_set]; exact h2⟩
    rw [getD_set_self (by omega), h1]
    unfold plusI
    rw [if_neg (by omega)]
    omega
theorem row_two {k : Nat} {zs : List Int} {w : Int} (hk : k + 1 < zs.length) (h0 : zs.getD (k + 1) 0 = 0) (hw : zs.getD k 0 = w) (hb : 0 ≤ w ∧ w ≤ 4611686018427387904) :
    (rowI (k + 1) [(0, (k : Int)), (0, (k : Int))] zs 2).getD (k + 1) 0 = if w < 2305843009213693951 then 2 * w + 2 else 4611686018427387904 := by
  have hs : ∀ (z : List Int), (itemI (k + 1) z (0, (k : Int))) = (z.set (k + 1) (plusI (z.getD (k + 1) 0) 1)).set (k + 1) (plusI ((z.set (k + 1) (plusI (z.getD (k + 1) 0) 1)).getD (k + 1) 0) ((z.set (k + 1) (plusI (z.getD (k + 1) 0) 1)).getD k 0)) := fun z => by
    unfold itemI
    rw [if_pos (by omega)]
    rfl
  have hv : ∀ (z : List Int), k + 1 < z.length → z.getD k 0 = w → (itemI (k + 1) z (0, (k : Int))).getD (k + 1) 0 = plusI (plusI (z.getD (k + 1) 0) 1) w ∧ (itemI (k + 1) z (0, (k : Int))).getD k 0 = w ∧ (itemI (k + 1) z (0, (k : Int))).length = z.length := fun z hz hzw => by
    rw [hs]
    refine ⟨?_, ?_, by simp⟩
    · rw [getD_set_self (by simpa using hz), getD_set_self hz, getD_set_ne (by omega), hzw]
    · rw [getD_set_ne (by omega), getD_set_ne (by omega), hzw]
  have e : rowI (k + 1) [(0, (k : Int)), (0, (k : Int))] zs 2 = itemI (k + 1) (itemI (k + 1) zs (0, (k : Int))) (0, (k : Int)) := rfl
  obtain ⟨a1, a2, a3⟩ := hv zs hk hw
  obtain ⟨b1, _, _⟩ := hv _ (by rw [a3]; exact hk) a2
  rw [e, b1, a1, h0]
  unfold plusI
  repeat' split
  all_goals omega
theorem dbl_zero (m n : Nat) : (dbl m n).getD 0 noR = ⟨0, false, initI m m⟩ := rfl
theorem dbl_get {m n k : Nat} (h : k < n) : (dbl m n).getD (k + 1) noR = ⟨0, false, [(0, (k : Int)), (0, (k : Int))]⟩ := by
  simp [dbl, List.getD, h]
theorem len_want {m n : Nat} (hm : m ≤ 9) : ∀ k, k ≤ n → (lenI (dbl m n) (k + 1)).getD k 0 = wantI m k
  | 0, _ => by
    show (rowI 0 (initI m m) (lenI (dbl m n) 0) (initI m m).length).getD 0 0 = _
    rw [initI_len]
    exact (row_first (by rw [(okL_len (dbl m n) 0).1, dbl_len]; omega) (len_zero _ 0 0 (Nat.le_refl _)) (by omega) m (Nat.le_refl _)).1
  | k + 1, hk => by
    have ih := len_want (n := n) hm k (by omega)
    show (rowI (k + 1) ((dbl m n).getD (k + 1) noR).items (lenI (dbl m n) (k + 1)) ((dbl m n).getD (k + 1) noR).items.length).getD (k + 1) 0 = _
    rw [dbl_get (show k < n from by omega)]
    exact row_two (by rw [(okL_len (dbl m n) (k + 1)).1, dbl_len]; omega) (len_zero _ _ _ (Nat.le_refl _)) ih (want_ok hm k)
theorem len_dbl {m n : Nat} (hm : m ≤ 9) (hn : n < 100) : CallA Tryd.prog cfg 6 [.agg [.int .i64 0, .int .i64 0, .int .i64 0, .int .i64 0, .own 1 n 0 (n + 1)]] (endH m n) (fun y k => y = .int .i64 (wantI m n) ∧ k = endH m n) := by
  have ha : FrzL 0 (endH m n) [.agg [.int .i64 0, .int .i64 0, .int .i64 0, .int .i64 0, .vec (dbl m n).length (rulesA (dbl m n))]] [.agg [.int .i64 0, .int .i64 0, .int .i64 0, .int .i64 0, .own 1 n 0 (n + 1)]] := And.intro (.inr frz_cert) trivial
  have hit : ∀ i, ((dbl m n).getD i noR).items.length < 1000000 := fun i => by
    match i with
    | 0 => rw [dbl_zero]; simp only [initI_len]; omega
    | i + 1 =>
      by_cases h : i < n
      · rw [dbl_get h]; simp
      · rw [List.getD_eq_getElem?_getD, List.getElem?_eq_none (by rw [dbl_len]; omega)]; simp [noR]
  have hr : (if (dbl m n).length = 0 then 0 else (lenI (dbl m n) (dbl m n).length).getD ((dbl m n).length - 1) 0) = wantI m n := by
    rw [dbl_len, if_neg (by omega), Nat.add_sub_cancel]
    exact len_want hm n (Nat.le_refl _)
  have r := CallA.borrow ha ((c6 0 0 0 0 (dbl m n) (by rw [dbl_len]; omega) hit).mono fun _ _ h => h.1)
  rw [hr] at r
  exact r
theorem min_want {m n : Nat} (hm : m ≤ 9) : min (wantI m n) 4611686018427387904 = wantI m n := by
  have := want_ok hm n
  omega

theorem c3d (a b : Int) (K M : Nat) (hn : within a 100 = (K : Int)) (hM : within b 9 = (M : Int)) (hn1 : K < 100) (hm1 : M < 9) : CallA Tryd.prog cfg 3 [.int .i64 a, .int .i64 b] [] (fun y' h' => y' = .bool true ∧ h' = []) := by
  refine CallA.body (Q := fun y' => y' = .bool true) good fn3 rfl ?_
  simp only [ntm3, List.length_cons, List.length_nil, Nat.reduceAdd, Nat.reduceSub, List.replicate, List.cons_append, List.nil_append]
  refine RunA.seq ?_
  refine RunA.region good ?_
  refine OpsA.pre 1 (by simp (maxSteps := 2000000) (disch := omega) only [go_sem, Nat.reduceBEq, Nat.reduceAdd, Nat.reduceSub, Nat.reduceLeDiff, Nat.reduceMul, reduceIte, reduceCtorEq, Int.reduceNeg, Int.reduceToNat, Nat.reduceLT, Int.reduceLE, Int.reduceLT, Int.reduceAdd, Int.reduceSub, Int.reduceMul, wrap64, toNat1, flatI (M + 1), over2b, app_dC, one_max, two_max, flat1, flat2, maxLenI, min_want (show M + 1 ≤ 9 from by omega), beq_self_eq_true, if_pos, if_neg]; rfl) ?_
  refine OpsA.nil ?_
  change RunA _ _ _ _ _
  refine RunA.seq ?_
  refine RunA.region good ?_
  refine OpsA.pre 1 (by simp (maxSteps := 2000000) (disch := omega) only [go_sem, Nat.reduceBEq, Nat.reduceAdd, Nat.reduceSub, Nat.reduceLeDiff, Nat.reduceMul, reduceIte, reduceCtorEq, Int.reduceNeg, Int.reduceToNat, Nat.reduceLT, Int.reduceLE, Int.reduceLT, Int.reduceAdd, Int.reduceSub, Int.reduceMul, wrap64, toNat1, flatI (M + 1), over2b, app_dC, one_max, two_max, flat1, flat2, maxLenI, min_want (show M + 1 ≤ 9 from by omega), beq_self_eq_true, if_pos, if_neg]; rfl) ?_
  refine OpsA.callQ rfl rfl rfl hb5 (w5 hn (by omega)) ?_
  refine OpsA.pre 1 (by simp (maxSteps := 2000000) (disch := omega) only [go_sem, Nat.reduceBEq, Nat.reduceAdd, Nat.reduceSub, Nat.reduceLeDiff, Nat.reduceMul, reduceIte, reduceCtorEq, Int.reduceNeg, Int.reduceToNat, Nat.reduceLT, Int.reduceLE, Int.reduceLT, Int.reduceAdd, Int.reduceSub, Int.reduceMul, wrap64, toNat1, flatI (M + 1), over2b, app_dC, one_max, two_max, flat1, flat2, maxLenI, min_want (show M + 1 ≤ 9 from by omega), beq_self_eq_true, if_pos, if_neg]; rfl) ?_
  refine OpsA.callQ rfl rfl rfl hb5 (w5 hM (by omega)) ?_
  refine OpsA.pre 3 (by simp (maxSteps := 2000000) (disch := omega) only [go_sem, Nat.reduceBEq, Nat.reduceAdd, Nat.reduceSub, Nat.reduceLeDiff, Nat.reduceMul, reduceIte, reduceCtorEq, Int.reduceNeg, Int.reduceToNat, Nat.reduceLT, Int.reduceLE, Int.reduceLT, Int.reduceAdd, Int.reduceSub, Int.reduceMul, wrap64, toNat1, flatI (M + 1), over2b, app_dC, one_max, two_max, flat1, flat2, maxLenI, min_want (show M + 1 ≤ 9 from by omega), beq_self_eq_true, if_pos, if_neg]; rfl) ?_
  refine OpsA.nil ?_
  change RunA _ _ _ _ _
  refine RunA.seq ?_
  refine RunA.region good ?_
  refine OpsA.pre 6 (by simp (maxSteps := 2000000) (disch := omega) only [go_sem, Nat.reduceBEq, Nat.reduceAdd, Nat.reduceSub, Nat.reduceLeDiff, Nat.reduceMul, reduceIte, reduceCtorEq, Int.reduceNeg, Int.reduceToNat, Nat.reduceLT, Int.reduceLE, Int.reduceLT, Int.reduceAdd, Int.reduceSub, Int.reduceMul, wrap64, toNat1, flatI (M + 1), over2b, app_dC, one_max, two_max, flat1, flat2, maxLenI, min_want (show M + 1 ≤ 9 from by omega), beq_self_eq_true, if_pos, if_neg]; rfl) ?_
  refine OpsA.pre 1 (by simp (maxSteps := 2000000) (disch := omega) only [go_sem, Nat.reduceBEq, Nat.reduceAdd, Nat.reduceSub, Nat.reduceLeDiff, Nat.reduceMul, reduceIte, reduceCtorEq, Int.reduceNeg, Int.reduceToNat, Nat.reduceLT, Int.reduceLE, Int.reduceLT, Int.reduceAdd, Int.reduceSub, Int.reduceMul, wrap64, toNat1, flatI (M + 1), over2b, app_dC, one_max, two_max, flat1, flat2, maxLenI, min_want (show M + 1 ≤ 9 from by omega), beq_self_eq_true, if_pos, if_neg]; rfl) ?_
  refine OpsA.nil ?_
  change RunA _ _ _ _ _
  refine RunA.seq ?_
  refine RunA.region good ?_
  refine OpsA.pre 2 (by simp (maxSteps := 2000000) (disch := omega) only [go_sem, Nat.reduceBEq, Nat.reduceAdd, Nat.reduceSub, Nat.reduceLeDiff, Nat.reduceMul, reduceIte, reduceCtorEq, Int.reduceNeg, Int.reduceToNat, Nat.reduceLT, Int.reduceLE, Int.reduceLT, Int.reduceAdd, Int.reduceSub, Int.reduceMul, wrap64, toNat1, flatI (M + 1), over2b, app_dC, one_max, two_max, flat1, flat2, maxLenI, min_want (show M + 1 ≤ 9 from by omega), beq_self_eq_true, if_pos, if_neg]; rfl) ?_
  refine OpsA.nil ?_
  change RunA _ _ _ _ _
  refine RunA.seq ?_
  refine RunA.seq ?_
  refine RunA.region good ?_
  refine OpsA.pre 1 (by simp (maxSteps := 2000000) (disch := omega) only [go_sem, Nat.reduceBEq, Nat.reduceAdd, Nat.reduceSub, Nat.reduceLeDiff, Nat.reduceMul, reduceIte, reduceCtorEq, Int.reduceNeg, Int.reduceToNat, Nat.reduceLT, Int.reduceLE, Int.reduceLT, Int.reduceAdd, Int.reduceSub, Int.reduceMul, wrap64, toNat1, flatI (M + 1), over2b, app_dC, one_max, two_max, flat1, flat2, maxLenI, min_want (show M + 1 ≤ 9 from by omega), beq_self_eq_true, if_pos, if_neg]; rfl) ?_
  refine OpsA.nil ?_
  change RunA _ _ _ _ _
  refine RunA.block ?_
  refine RunA.loopL (fun m st => ∃ (i : Nat), (m = (M + 1) - i ∧ i ≤ M + 1) ∧ st = ⟨[.int .i64 ((K : Nat) : Int), .int .i64 (1 + ((M : Nat) : Int)), .any, .any, .any, .ptr 2 0 0, .int .i64 (1 + ((M : Nat) : Int)), .int .i64 ((i : Nat) : Int), .any, .any, .any, .any, .any, .any, .any, .any, .any, .any, .any, .any, .any, .any, .any, .any, .any, .any, .any, .any, .any, .any, .any, .any, .any, .any, .any, .any, .any, .any, .any, .any, .any, .any, .any, .any, .any, .any, .any, .any, .any, .any, .any, .any, .any, .any, .any, .any, .any, .any, .any, .any, .any, .any], [⟨0, false, 30, 2, ptA (initI (M + 1) i), 0⟩, ⟨0, false, 25, 3, [.int .i64 0, .bool false, .own 0 0 0 (M + 1)], 0⟩, ⟨0, false, 28, 5, [.int .i64 0, .int .i64 0, .int .i64 0, .int .i64 0, .own 1 0 0 1], 0⟩]⟩) _ ⟨[.int .i64 ((K : Nat) : Int), .int .i64 (1 + ((M : Nat) : Int)), .any, .any, .any, .ptr 2 0 0, .int .i64 (1 + ((M : Nat) : Int)), .int .i64 ((0 : Nat) : Int), .any, .any, .any, .any, .any, .any, .any, .any, .any, .any, .any, .any, .any, .any, .any, .any, .any, .any, .any, .any, .any, .any, .any, .any, .any, .any, .any, .any, .any, .any, .any, .any, .any, .any, .any, .any, .any, .any, .any, .any, .any, .any, .any, .any, .any, .any, .any, .any, .any, .any, .any, .any, .any, .any], ⟨(.inl (by first | rfl | (congr 1; omega))), (.inl (by first | rfl | (congr 1; omega))), (.inr rfl), (.inr rfl), (.inr rfl), (.inl (by first | rfl | (congr 1; omega))), (.inl (by first | rfl | (congr 1; omega))), (.inl (by first | rfl | (congr 1; omega))), (.inr rfl), (.inr rfl), (.inr rfl), (.inr rfl), (.inr rfl), (.inr rfl), (.inr rfl), (.inr rfl), (.inr rfl), (.inr rfl), (.inr rfl), (.inr rfl), (.inr rfl), (.inr rfl), (.inr rfl), (.inr rfl), (.inr rfl), (.inr rfl), (.inr rfl), (.inr rfl), (.inr rfl), (.inr rfl), (.inr rfl), (.inr rfl), (.inr rfl), (.inr rfl), (.inr rfl), (.inr rfl), (.inr rfl), (.inr rfl), (.inr rfl), (.inr rfl), (.inr rfl), (.inr rfl), (.inr rfl), (.inr rfl), (.inr rfl), (.inr rfl), (.inr rfl), (.inr rfl), (.inr rfl), (.inr rfl), (.inr rfl), (.inr rfl), (.inr rfl), (.inr rfl), (.inr rfl), (.inr rfl), (.inr rfl), (.inr rfl), (.inr rfl), (.inr rfl), (.inr rfl), (.inr rfl), trivial⟩, 0, ⟨rfl, by omega⟩, rfl⟩ ?_
  rintro m sl h' ⟨i, ⟨hm, hi⟩, hst⟩
  obtain ⟨rfl, rfl⟩ := St.mk.inj hst
  have hil := initI_len (M + 1) i
  refine RunA.seq ?_
  refine RunA.seq ?_
  refine RunA.region good ?_
  refine OpsA.pre 3 (by simp (maxSteps := 2000000) (disch := omega) only [go_sem, Nat.reduceBEq, Nat.reduceAdd, Nat.reduceSub, Nat.reduceLeDiff, Nat.reduceMul, reduceIte, reduceCtorEq, Int.reduceNeg, Int.reduceToNat, Nat.reduceLT, Int.reduceLE, Int.reduceLT, Int.reduceAdd, Int.reduceSub, Int.reduceMul, wrap64, toNat1, flatI (M + 1), over2b, app_dC, one_max, two_max, flat1, flat2, maxLenI, min_want (show M + 1 ≤ 9 from by omega), beq_self_eq_true, if_pos, if_neg]; rfl) ?_
  refine OpsA.nil ?_
  change RunA _ _ _ _ _
  refine RunA.split 22 rfl (fun e1 => ?_) (fun e1 => ?_)
  · try simp only [e1]
    have qe1 := e1; try simp only [decide_eq_true_eq, decide_eq_false_iff_not, Bool.not_eq_true', Bool.not_eq_false', Bool.not_eq_eq_eq_not, Bool.not_true, Bool.not_false, Int.not_le, Int.not_lt, beq_iff_eq, bne_iff_ne, ge_iff_le, gt_iff_lt, beq_eq_false_iff_ne, ne_eq, bne_eq_false_iff_eq] at qe1
    refine RunA.condT rfl ?_
    refine RunA.skip ?_
    change RunA _ _ _ _ _
    refine RunA.seq ?_
    refine RunA.block ?_
    refine RunA.region good ?_
    refine OpsA.pre 6 (by simp (maxSteps := 2000000) (disch := omega) only [go_sem, Nat.reduceBEq, Nat.reduceAdd, Nat.reduceSub, Nat.reduceLeDiff, Nat.reduceMul, reduceIte, reduceCtorEq, Int.reduceNeg, Int.reduceToNat, Nat.reduceLT, Int.reduceLE, Int.reduceLT, Int.reduceAdd, Int.reduceSub, Int.reduceMul, wrap64, toNat1, flatI (M + 1), over2b, app_dC, one_max, two_max, flat1, flat2, maxLenI, min_want (show M + 1 ≤ 9 from by omega), beq_self_eq_true, if_pos, if_neg]; rfl) ?_
    refine OpsA.pre 3 (by simp (maxSteps := 2000000) (disch := omega) only [go_sem, Nat.reduceBEq, Nat.reduceAdd, Nat.reduceSub, Nat.reduceLeDiff, Nat.reduceMul, reduceIte, reduceCtorEq, Int.reduceNeg, Int.reduceToNat, Nat.reduceLT, Int.reduceLE, Int.reduceLT, Int.reduceAdd, Int.reduceSub, Int.reduceMul, wrap64, toNat1, flatI (M + 1), over2b, app_dC, one_max, two_max, flat1, flat2, maxLenI, min_want (show M + 1 ≤ 9 from by omega), beq_self_eq_true, if_pos, if_neg]; rfl) ?_
    refine OpsA.nil ?_
    change RunA _ _ _ _ _
    refine RunA.region good ?_
    refine OpsA.pre 3 (by simp (maxSteps := 2000000) (disch := omega) only [go_sem, Nat.reduceBEq, Nat.reduceAdd, Nat.reduceSub, Nat.reduceLeDiff, Nat.reduceMul, reduceIte, reduceCtorEq, Int.reduceNeg, Int.reduceToNat, Nat.reduceLT, Int.reduceLE, Int.reduceLT, Int.reduceAdd, Int.reduceSub, Int.reduceMul, wrap64, toNat1, flatI (M + 1), over2b, app_dC, one_max, two_max, flat1, flat2, maxLenI, min_want (show M + 1 ≤ 9 from by omega), beq_self_eq_true, if_pos, if_neg]; rfl) ?_
    refine OpsA.nil ?_
    exact ⟨(M + 1) - (i + 1), by omega, [.int .i64 ((K : Nat) : Int), .int .i64 (1 + ((M : Nat) : Int)), .any, .any, .any, .ptr 2 0 0, .int .i64 (1 + ((M : Nat) : Int)), .int .i64 (((i + 1) : Nat) : Int), .any, .any, .any, .any, .any, .any, .any, .any, .any, .any, .any, .any, .any, .any, .any, .any, .any, .any, .any, .any, .any, .any, .any, .any, .any, .any, .any, .any, .any, .any, .any, .any, .any, .any, .any, .any, .any, .any, .any, .any, .any, .any, .any, .any, .any, .any, .any, .any, .any, .any, .any, .any, .any, .any], ⟨(.inl (by first | rfl | (congr 1; omega))), (.inl (by first | rfl | (congr 1; omega))), (.inr rfl), (.inr rfl), (.inr rfl), (.inl (by first | rfl | (congr 1; omega))), (.inl (by first | rfl | (congr 1; omega))), (.inl (by first | rfl | (congr 1; omega))), (.inr rfl), (.inr rfl), (.inr rfl), (.inr rfl), (.inr rfl), (.inr rfl), (.inr rfl), (.inr rfl), (.inr rfl), (.inr rfl), (.inr rfl), (.inr rfl), (.inr rfl), (.inr rfl), (.inr rfl), (.inr rfl), (.inr rfl), (.inr rfl), (.inr rfl), (.inr rfl), (.inr rfl), (.inr rfl), (.inr rfl), (.inr rfl), (.inr rfl), (.inr rfl), (.inr rfl), (.inr rfl), (.inr rfl), (.inr rfl), (.inr rfl), (.inr rfl), (.inr rfl), (.inr rfl), (.inr rfl), (.inr rfl), (.inr rfl), (.inr rfl), (.inr rfl), (.inr rfl), (.inr rfl), (.inr rfl), (.inr rfl), (.inr rfl), (.inr rfl), (.inr rfl), (.inr rfl), (.inr rfl), (.inr rfl), (.inr rfl), (.inr rfl), (.inr rfl), (.inr rfl), (.inr rfl), trivial⟩, (i + 1), ⟨rfl, by omega⟩, (by rw [← initI_set (by omega)])⟩
  · try simp only [e1]
    have qe1 := e1; try simp only [decide_eq_true_eq, decide_eq_false_iff_not, Bool.not_eq_true', Bool.not_eq_false', Bool.not_eq_eq_eq_not, Bool.not_true, Bool.not_false, Int.not_le, Int.not_lt, beq_iff_eq, bne_iff_ne, ge_iff_le, gt_iff_lt, beq_eq_false_iff_ne, ne_eq, bne_eq_false_iff_eq] at qe1
    refine RunA.condF rfl ?_
    refine RunA.exit ?_
    obtain rfl : i = M + 1 := by omega
    change RunA _ _ _ _ _
    refine RunA.seq ?_
    refine RunA.seq ?_
    refine RunA.region good ?_
    refine OpsA.pre 1 (by simp (maxSteps := 2000000) (disch := omega) only [go_sem, Nat.reduceBEq, Nat.reduceAdd, Nat.reduceSub, Nat.reduceLeDiff, Nat.reduceMul, reduceIte, reduceCtorEq, Int.reduceNeg, Int.reduceToNat, Nat.reduceLT, Int.reduceLE, Int.reduceLT, Int.reduceAdd, Int.reduceSub, Int.reduceMul, wrap64, toNat1, flatI (M + 1), over2b, app_dC, one_max, two_max, flat1, flat2, maxLenI, min_want (show M + 1 ≤ 9 from by omega), beq_self_eq_true, if_pos, if_neg]; rfl) ?_
    refine OpsA.nil ?_
    change RunA _ _ _ _ _
    refine RunA.block ?_
    refine RunA.loopL (fun m st => ∃ (i : Nat), (m = K - i ∧ i ≤ K) ∧ st = ⟨[.int .i64 ((K : Nat) : Int), .any, .any, .any, .any, .ptr 2 0 0, .int .i64 (wantI (M + 1) i), .any, .int .i64 ((i : Nat) : Int), .any, .any, .any, .any, .any, .any, .any, .any, .any, .any, .any, .any, .any, .any, .any, .any, .any, .any, .any, .any, .any, .any, .any, .any, .any, .any, .any, .any, .any, .any, .any, .any, .any, .any, .any, .any, .any, .any, .any, .any, .any, .any, .any, .any, .any, .any, .any, .any, .any, .any, .any, .any, .any], ⟨0, false, 30, 2, ptA (initI (M + 1) (M + 1)), 0⟩ :: ⟨i, false, 25, 3, dC (M + 1) i, 0⟩ :: ⟨0, false, 28, 5, [.int .i64 0, .int .i64 0, .int .i64 0, .int .i64 0, .own 1 i 0 (i + 1)], 0⟩ :: tail2 i⟩) _ ⟨[.int .i64 ((K : Nat) : Int), .any, .any, .any, .any, .ptr 2 0 0, .int .i64 (wantI (M + 1) 0), .any, .int .i64 ((0 : Nat) : Int), .any, .any, .any, .any, .any, .any, .any, .any, .any, .any, .any, .any, .any, .any, .any, .any, .any, .any, .any, .any, .any, .any, .any, .any, .any, .any, .any, .any, .any, .any, .any, .any, .any, .any, .any, .any, .any, .any, .any, .any, .any, .any, .any, .any, .any, .any, .any, .any, .any, .any, .any, .any, .any], ⟨(.inl (by first | rfl | (congr 1; omega) | (simp only [wantI]; congr 1; omega) | (simp only [wantI]; first | rw [if_pos (by omega)] | rw [if_neg (by omega)]))), (.inr rfl), (.inr rfl), (.inr rfl), (.inr rfl), (.inl (by first | rfl | (congr 1; omega) | (simp only [wantI]; congr 1; omega) | (simp only [wantI]; first | rw [if_pos (by omega)] | rw [if_neg (by omega)]))), (.inl (by first | rfl | (congr 1; omega) | (simp only [wantI]; congr 1; omega) | (simp only [wantI]; first | rw [if_pos (by omega)] | rw [if_neg (by omega)]))), (.inr rfl), (.inl (by first | rfl | (congr 1; omega) | (simp only [wantI]; congr 1; omega) | (simp only [wantI]; first | rw [if_pos (by omega)] | rw [if_neg (by omega)]))), (.inr rfl), (.inr rfl), (.inr rfl), (.inr rfl), (.inr rfl), (.inr rfl), (.inr rfl), (.inr rfl), (.inr rfl), (.inr rfl), (.inr rfl), (.inr rfl), (.inr rfl), (.inr rfl), (.inr rfl), (.inr rfl), (.inr rfl), (.inr rfl), (.inr rfl), (.inr rfl), (.inr rfl), (.inr rfl), (.inr rfl), (.inr rfl), (.inr rfl), (.inr rfl), (.inr rfl), (.inr rfl), (.inr rfl), (.inr rfl), (.inr rfl), (.inr rfl), (.inr rfl), (.inr rfl), (.inr rfl), (.inr rfl), (.inr rfl), (.inr rfl), (.inr rfl), (.inr rfl), (.inr rfl), (.inr rfl), (.inr rfl), (.inr rfl), (.inr rfl), (.inr rfl), (.inr rfl), (.inr rfl), (.inr rfl), (.inr rfl), (.inr rfl), (.inr rfl), (.inr rfl), trivial⟩, 0, ⟨rfl, by omega⟩, rfl⟩ ?_
    rintro m sl h' ⟨i, ⟨hm, hi2⟩, hst⟩
    obtain ⟨rfl, rfl⟩ := St.mk.inj hst
    have hw := want_ok (m := M + 1) (by omega) i
    refine RunA.seq ?_
    refine RunA.seq ?_
    refine RunA.region good ?_
    refine OpsA.pre 3 (by simp (maxSteps := 2000000) (disch := omega) only [go_sem, Nat.reduceBEq, Nat.reduceAdd, Nat.reduceSub, Nat.reduceLeDiff, Nat.reduceMul, reduceIte, reduceCtorEq, Int.reduceNeg, Int.reduceToNat, Nat.reduceLT, Int.reduceLE, Int.reduceLT, Int.reduceAdd, Int.reduceSub, Int.reduceMul, wrap64, toNat1, flatI (M + 1), over2b, app_dC, one_max, two_max, flat1, flat2, maxLenI, min_want (show M + 1 ≤ 9 from by omega), beq_self_eq_true, if_pos, if_neg]; rfl) ?_
    refine OpsA.nil ?_
    change RunA _ _ _ _ _
    refine RunA.split 35 rfl (fun e2 => ?_) (fun e2 => ?_)
    · try simp only [e2]
      have qe2 := e2; try simp only [decide_eq_true_eq, decide_eq_false_iff_not, Bool.not_eq_true', Bool.not_eq_false', Bool.not_eq_eq_eq_not, Bool.not_true, Bool.not_false, Int.not_le, Int.not_lt, beq_iff_eq, bne_iff_ne, ge_iff_le, gt_iff_lt, beq_eq_false_iff_ne, ne_eq, bne_eq_false_iff_eq] at qe2
      refine RunA.condT rfl ?_
      refine RunA.skip ?_
      change RunA _ _ _ _ _
      refine RunA.seq ?_
      refine RunA.block ?_
      refine RunA.seq ?_
      refine RunA.region good ?_
      refine OpsA.pre 6 (by simp (maxSteps := 2000000) (disch := omega) only [go_sem, Nat.reduceBEq, Nat.reduceAdd, Nat.reduceSub, Nat.reduceLeDiff, Nat.reduceMul, reduceIte, reduceCtorEq, Int.reduceNeg, Int.reduceToNat, Nat.reduceLT, Int.reduceLE, Int.reduceLT, Int.reduceAdd, Int.reduceSub, Int.reduceMul, wrap64, toNat1, flatI (M + 1), over2b, app_dC, one_max, two_max, flat1, flat2, maxLenI, min_want (show M + 1 ≤ 9 from by omega), beq_self_eq_true, if_pos, if_neg]; rfl) ?_
      refine OpsA.pre 6 (by simp (maxSteps := 2000000) (disch := omega) only [go_sem, Nat.reduceBEq, Nat.reduceAdd, Nat.reduceSub, Nat.reduceLeDiff, Nat.reduceMul, reduceIte, reduceCtorEq, Int.reduceNeg, Int.reduceToNat, Nat.reduceLT, Int.reduceLE, Int.reduceLT, Int.reduceAdd, Int.reduceSub, Int.reduceMul, wrap64, toNat1, flatI (M + 1), over2b, app_dC, one_max, two_max, flat1, flat2, maxLenI, min_want (show M + 1 ≤ 9 from by omega), beq_self_eq_true, if_pos, if_neg]; rfl) ?_
      refine OpsA.nil ?_
      change RunA _ _ _ _ _
      refine RunA.seq ?_
      refine RunA.region good ?_
      refine OpsA.pre 2 (by simp (maxSteps := 2000000) (disch := omega) only [go_sem, Nat.reduceBEq, Nat.reduceAdd, Nat.reduceSub, Nat.reduceLeDiff, Nat.reduceMul, reduceIte, reduceCtorEq, Int.reduceNeg, Int.reduceToNat, Nat.reduceLT, Int.reduceLE, Int.reduceLT, Int.reduceAdd, Int.reduceSub, Int.reduceMul, wrap64, toNat1, flatI (M + 1), over2b, app_dC, one_max, two_max, flat1, flat2, maxLenI, min_want (show M + 1 ≤ 9 from by omega), beq_self_eq_true, if_pos, if_neg]; rfl) ?_
      refine OpsA.nil ?_
      change RunA _ _ _ _ _
      refine RunA.split 50 rfl (fun e3 => ?_) (fun e3 => ?_)
      · try simp only [e3]
        have qe3 := e3; try simp only [decide_eq_true_eq, decide_eq_false_iff_not, Bool.not_eq_true', Bool.not_eq_false', Bool.not_eq_eq_eq_not, Bool.not_true, Bool.not_false, Int.not_le, Int.not_lt, beq_iff_eq, bne_iff_ne, ge_iff_le, gt_iff_lt, beq_eq_false_iff_ne, ne_eq, bne_eq_false_iff_eq] at qe3
        refine RunA.condT rfl ?_
        refine RunA.region good ?_
        refine OpsA.pre 4 (by simp (maxSteps := 2000000) (disch := omega) only [go_sem, Nat.reduceBEq, Nat.reduceAdd, Nat.reduceSub, Nat.reduceLeDiff, Nat.reduceMul, reduceIte, reduceCtorEq, Int.reduceNeg, Int.reduceToNat, Nat.reduceLT, Int.reduceLE, Int.reduceLT, Int.reduceAdd, Int.reduceSub, Int.reduceMul, wrap64, toNat1, flatI (M + 1), over2b, app_dC, one_max, two_max, flat1, flat2, maxLenI, min_want (show M + 1 ≤ 9 from by omega), beq_self_eq_true, if_pos, if_neg]; rfl) ?_
        refine OpsA.nil ?_
        change RunA _ _ _ _ _
        refine RunA.region good ?_
        refine OpsA.pre 3 (by simp (maxSteps := 2000000) (disch := omega) only [go_sem, Nat.reduceBEq, Nat.reduceAdd, Nat.reduceSub, Nat.reduceLeDiff, Nat.reduceMul, reduceIte, reduceCtorEq, Int.reduceNeg, Int.reduceToNat, Nat.reduceLT, Int.reduceLE, Int.reduceLT, Int.reduceAdd, Int.reduceSub, Int.reduceMul, wrap64, toNat1, flatI (M + 1), over2b, app_dC, one_max, two_max, flat1, flat2, maxLenI, min_want (show M + 1 ≤ 9 from by omega), beq_self_eq_true, if_pos, if_neg]; rfl) ?_
        refine OpsA.nil ?_
        exact ⟨K - (i + 1), by omega, [.int .i64 ((K : Nat) : Int), .any, .any, .any, .any, .ptr 2 0 0, .int .i64 (wantI (M + 1) (i + 1)), .any, .int .i64 (((i + 1) : Nat) : Int), .any, .any, .any, .any, .any, .any, .any, .any, .any, .any, .any, .any, .any, .any, .any, .any, .any, .any, .any, .any, .any, .any, .any, .any, .any, .any, .any, .any, .any, .any, .any, .any, .any, .any, .any, .any, .any, .any, .any, .any, .any, .any, .any, .any, .any, .any, .any, .any, .any, .any, .any, .any, .any], ⟨(.inl (by first | rfl | (congr 1; omega) | (simp only [wantI]; congr 1; omega) | (simp only [wantI]; first | rw [if_pos (by omega)] | rw [if_neg (by omega)]))), (.inr rfl), (.inr rfl), (.inr rfl), (.inr rfl), (.inl (by first | rfl | (congr 1; omega) | (simp only [wantI]; congr 1; omega) | (simp only [wantI]; first | rw [if_pos (by omega)] | rw [if_neg (by omega)]))), (.inl (by first | rfl | (congr 1; omega) | (simp only [wantI]; congr 1; omega) | (simp only [wantI]; first | rw [if_pos (by omega)] | rw [if_neg (by omega)]))), (.inr rfl), (.inl (by first | rfl | (congr 1; omega) | (simp only [wantI]; congr 1; omega) | (simp only [wantI]; first | rw [if_pos (by omega)] | rw [if_neg (by omega)]))), (.inr rfl), (.inr rfl), (.inr rfl), (.inr rfl), (.inr rfl), (.inr rfl), (.inr rfl), (.inr rfl), (.inr rfl), (.inr rfl), (.inr rfl), (.inr rfl), (.inr rfl), (.inr rfl), (.inr rfl), (.inr rfl), (.inr rfl), (.inr rfl), (.inr rfl), (.inr rfl), (.inr rfl), (.inr rfl), (.inr rfl), (.inr rfl), (.inr rfl), (.inr rfl), (.inr rfl), (.inr rfl), (.inr rfl), (.inr rfl), (.inr rfl), (.inr rfl), (.inr rfl), (.inr rfl), (.inr rfl), (.inr rfl), (.inr rfl), (.inr rfl), (.inr rfl), (.inr rfl), (.inr rfl), (.inr rfl), (.inr rfl), (.inr rfl), (.inr rfl), (.inr rfl), (.inr rfl), (.inr rfl), (.inr rfl), (.inr rfl), (.inr rfl), (.inr rfl), (.inr rfl), trivial⟩, (i + 1), ⟨rfl, by omega⟩, (by rw [dC_succ, tail_succ])⟩
      · try simp only [e3]
        have qe3 := e3; try simp only [decide_eq_true_eq, decide_eq_false_iff_not, Bool.not_eq_true', Bool.not_eq_false', Bool.not_eq_eq_eq_not, Bool.not_true, Bool.not_false, Int.not_le, Int.not_lt, beq_iff_eq, bne_iff_ne, ge_iff_le, gt_iff_lt, beq_eq_false_iff_ne, ne_eq, bne_eq_false_iff_eq] at qe3
        refine RunA.condF rfl ?_
        refine RunA.region good ?_
        refine OpsA.pre 1 (by simp (maxSteps := 2000000) (disch := omega) only [go_sem, Nat.reduceBEq, Nat.reduceAdd, Nat.reduceSub, Nat.reduceLeDiff, Nat.reduceMul, reduceIte, reduceCtorEq, Int.reduceNeg, Int.reduceToNat, Nat.reduceLT, Int.reduceLE, Int.reduceLT, Int.reduceAdd, Int.reduceSub, Int.reduceMul, wrap64, toNat1, flatI (M + 1), over2b, app_dC, one_max, two_max, flat1, flat2, maxLenI, min_want (show M + 1 ≤ 9 from by omega), beq_self_eq_true, if_pos, if_neg]; rfl) ?_
        refine OpsA.nil ?_
        change RunA _ _ _ _ _
        refine RunA.region good ?_
        refine OpsA.pre 3 (by simp (maxSteps := 2000000) (disch := omega) only [go_sem, Nat.reduceBEq, Nat.reduceAdd, Nat.reduceSub, Nat.reduceLeDiff, Nat.reduceMul, reduceIte, reduceCtorEq, Int.reduceNeg, Int.reduceToNat, Nat.reduceLT, Int.reduceLE, Int.reduceLT, Int.reduceAdd, Int.reduceSub, Int.reduceMul, wrap64, toNat1, flatI (M + 1), over2b, app_dC, one_max, two_max, flat1, flat2, maxLenI, min_want (show M + 1 ≤ 9 from by omega), beq_self_eq_true, if_pos, if_neg]; rfl) ?_
        refine OpsA.nil ?_
        exact ⟨K - (i + 1), by omega, [.int .i64 ((K : Nat) : Int), .any, .any, .any, .any, .ptr 2 0 0, .int .i64 (wantI (M + 1) (i + 1)), .any, .int .i64 (((i + 1) : Nat) : Int), .any, .any, .any, .any, .any, .any, .any, .any, .any, .any, .any, .any, .any, .any, .any, .any, .any, .any, .any, .any, .any, .any, .any, .any, .any, .any, .any, .any, .any, .any, .any, .any, .any, .any, .any, .any, .any, .any, .any, .any, .any, .any, .any, .any, .any, .any, .any, .any, .any, .any, .any, .any, .any], ⟨(.inl (by first | rfl | (congr 1; omega) | (simp only [wantI]; congr 1; omega) | (simp only [wantI]; first | rw [if_pos (by omega)] | rw [if_neg (by omega)]))), (.inr rfl), (.inr rfl), (.inr rfl), (.inr rfl), (.inl (by first | rfl | (congr 1; omega) | (simp only [wantI]; congr 1; omega) | (simp only [wantI]; first | rw [if_pos (by omega)] | rw [if_neg (by omega)]))), (.inl (by first | rfl | (congr 1; omega) | (simp only [wantI]; congr 1; omega) | (simp only [wantI]; first | rw [if_pos (by omega)] | rw [if_neg (by omega)]))), (.inr rfl), (.inl (by first | rfl | (congr 1; omega) | (simp only [wantI]; congr 1; omega) | (simp only [wantI]; first | rw [if_pos (by omega)] | rw [if_neg (by omega)]))), (.inr rfl), (.inr rfl), (.inr rfl), (.inr rfl), (.inr rfl), (.inr rfl), (.inr rfl), (.inr rfl), (.inr rfl), (.inr rfl), (.inr rfl), (.inr rfl), (.inr rfl), (.inr rfl), (.inr rfl), (.inr rfl), (.inr rfl), (.inr rfl), (.inr rfl), (.inr rfl), (.inr rfl), (.inr rfl), (.inr rfl), (.inr rfl), (.inr rfl), (.inr rfl), (.inr rfl), (.inr rfl), (.inr rfl), (.inr rfl), (.inr rfl), (.inr rfl), (.inr rfl), (.inr rfl), (.inr rfl), (.inr rfl), (.inr rfl), (.inr rfl), (.inr rfl), (.inr rfl), (.inr rfl), (.inr rfl), (.inr rfl), (.inr rfl), (.inr rfl), (.inr rfl), (.inr rfl), (.inr rfl), (.inr rfl), (.inr rfl), (.inr rfl), (.inr rfl), (.inr rfl), trivial⟩, (i + 1), ⟨rfl, by omega⟩, (by rw [dC_succ, tail_succ])⟩
    · try simp only [e2]
      have qe2 := e2; try simp only [decide_eq_true_eq, decide_eq_false_iff_not, Bool.not_eq_true', Bool.not_eq_false', Bool.not_eq_eq_eq_not, Bool.not_true, Bool.not_false, Int.not_le, Int.not_lt, beq_iff_eq, bne_iff_ne, ge_iff_le, gt_iff_lt, beq_eq_false_iff_ne, ne_eq, bne_eq_false_iff_eq] at qe2
      refine RunA.condF rfl ?_
      refine RunA.exit ?_
      obtain rfl : i = K := by omega
      change RunA _ _ _ _ _
      refine RunA.seq ?_
      refine RunA.region good ?_
      refine OpsA.pre 1 (by simp (maxSteps := 2000000) (disch := omega) only [go_sem, Nat.reduceBEq, Nat.reduceAdd, Nat.reduceSub, Nat.reduceLeDiff, Nat.reduceMul, reduceIte, reduceCtorEq, Int.reduceNeg, Int.reduceToNat, Nat.reduceLT, Int.reduceLE, Int.reduceLT, Int.reduceAdd, Int.reduceSub, Int.reduceMul, wrap64, toNat1, flatI (M + 1), over2b, app_dC, one_max, two_max, flat1, flat2, maxLenI, min_want (show M + 1 ≤ 9 from by omega), beq_self_eq_true, if_pos, if_neg]; rfl) ?_
      refine OpsA.callQ rfl rfl rfl hb6 (len_dbl (m := M + 1) (n := i) (by omega) (by omega)) ?_
      refine OpsA.pre 4 (by simp (maxSteps := 2000000) (disch := omega) only [go_sem, Nat.reduceBEq, Nat.reduceAdd, Nat.reduceSub, Nat.reduceLeDiff, Nat.reduceMul, reduceIte, reduceCtorEq, Int.reduceNeg, Int.reduceToNat, Nat.reduceLT, Int.reduceLE, Int.reduceLT, Int.reduceAdd, Int.reduceSub, Int.reduceMul, wrap64, toNat1, flatI (M + 1), over2b, app_dC, one_max, two_max, flat1, flat2, maxLenI, min_want (show M + 1 ≤ 9 from by omega), beq_self_eq_true, if_pos, if_neg]; rfl) ?_
      refine OpsA.split 59 rfl (fun e4 => ?_) (fun e4 => ?_)
      · try simp only [e4]
        have qe4 := e4; try simp only [decide_eq_true_eq, decide_eq_false_iff_not, Bool.not_eq_true', Bool.not_eq_false', Bool.not_eq_eq_eq_not, Bool.not_true, Bool.not_false, Int.not_le, Int.not_lt, beq_iff_eq, bne_iff_ne, ge_iff_le, gt_iff_lt, beq_eq_false_iff_ne, ne_eq, bne_eq_false_iff_eq] at qe4
        refine OpsA.callQ rfl rfl rfl hb7 (awake7 _) ?_
        refine OpsA.pre 2 (by simp (maxSteps := 2000000) (disch := omega) only [go_sem, Nat.reduceBEq, Nat.reduceAdd, Nat.reduceSub, Nat.reduceLeDiff, Nat.reduceMul, reduceIte, reduceCtorEq, Int.reduceNeg, Int.reduceToNat, Nat.reduceLT, Int.reduceLE, Int.reduceLT, Int.reduceAdd, Int.reduceSub, Int.reduceMul, wrap64, toNat1, flatI (M + 1), over2b, app_dC, one_max, two_max, flat1, flat2, maxLenI, min_want (show M + 1 ≤ 9 from by omega), beq_self_eq_true, if_pos, if_neg]; rfl) ?_
        refine OpsA.nil ?_
        change RunA _ _ _ _ _
        refine RunA.ret ?_
        refine Ends.mk (by simp only [res3, resA, resAs, resA1]; first | rfl | (simp (maxSteps := 2000000) (disch := omega) only [go_sem, Nat.reduceBEq, Nat.reduceAdd, Nat.reduceSub, Nat.reduceLeDiff, Nat.reduceMul, reduceIte, reduceCtorEq, Int.reduceNeg, Int.reduceToNat, Nat.reduceLT, Int.reduceLE, Int.reduceLT, Int.reduceAdd, Int.reduceSub, Int.reduceMul, wrap64, toNat1, flatI (M + 1), over2b, app_dC, one_max, two_max, flat1, flat2, maxLenI, min_want (show M + 1 ≤ 9 from by omega), beq_self_eq_true, if_pos, if_neg]; rfl)) ?_
        exact ⟨_, _, rfl, by first | rfl | (simp only [frzT, frzP, optMap, get_app, get_app0]; rfl), by rfl⟩
      · exfalso; first | cases e4 | (simp at e4)
theorem c3 (a b : Int) : CallA Tryd.prog cfg 3 [.int .i64 a, .int .i64 b] [] (fun y' h' => y' = .bool true ∧ h' = []) := by
  have a0 := @within_lo a 100 (by omega); have a1 := @within_hi a 100 (by omega)
  have b0 := @within_lo b 9 (by omega); have b1 := @within_hi b 9 (by omega)
  exact c3d a b (within a 100).toNat (within b 9).toNat (by omega) (by omega) (by omega) (by omega)

end Go.Proofs.YtfcbamfgejfleaaDoor
