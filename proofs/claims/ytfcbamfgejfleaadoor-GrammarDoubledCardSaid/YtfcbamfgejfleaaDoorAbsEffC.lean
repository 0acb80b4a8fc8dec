/-
  MEMORY: THE OPERATIONS THAT STORE, MAKE AND APPEND. Conditions: 'Good': the table of types is the program's.
-/
import Derived.Test.YtfcbamfgejfleaaDoorAbsEffB
namespace Go.Ab
section
variable {P : Program} {C : Cfg} {G : Nat → AV} {B : Nat} {h : Heap} {φ : Map} {w : World}

/-- Values written over from a place on. -/
def overV (cur : Array Value) (o : Nat) (vs : List Value) : Array Value := (cur.toList.take o ++ vs ++ cur.toList.drop (o + vs.length)).toArray

theorem size_overV {cur : Array Value} {o : Nat} {vs : List Value} (hl : o + vs.length ≤ cur.size) : (overV cur o vs).size = cur.size := by
  simp [overV]; omega

theorem get_overV {cur : Array Value} {o : Nat} {vs : List Value} (hl : o + vs.length ≤ cur.size) (j : Nat) : (overV cur o vs)[j]? = if o ≤ j ∧ j < o + vs.length then vs[j - o]? else cur[j]? := by
  unfold overV
  rw [List.getElem?_toArray]
  by_cases h1 : j < o
  · rw [if_neg (by omega), List.append_assoc, List.getElem?_append_left (by simp; omega), List.getElem?_take_of_lt h1]
    simp
  · by_cases h2 : j < o + vs.length
    · rw [if_pos (by omega), List.getElem?_append_left (by simp; omega), List.getElem?_append_right (by simp; omega)]
      congr 1
      simp
      omega
    · rw [if_neg (by omega), List.getElem?_append_right (by simp; omega), List.getElem?_drop]
      simp only [Array.getElem?_toList]
      congr 1
      simp
      omega

theorem overV_rel {cur : Array Value} {cells new : List AV} {o : Nat} {vs : List Value} (hr : ∀ (j : Nat) v x, cur[j]? = some v → cells[j]? = some x → v.oneCell' = true ∧ Rel h φ w v x) (c : CellsRel h φ w vs new)
    (hl : o + vs.length ≤ cur.size) (hc : o + new.length ≤ cells.length) :
    ∀ (j : Nat) v x, (overV cur o vs)[j]? = some v → (over cells o new)[j]? = some x → v.oneCell' = true ∧ Rel h φ w v x := by
  intro j v x hv hx
  rw [get_overV hl] at hv
  rw [get_over _ _ _ _ hc] at hx
  rw [c.1] at hv
  split at hv
  · rename_i h1
    rw [if_pos h1] at hx
    exact c.2 _ v x hv hx
  · rename_i h1
    rw [if_neg h1] at hx
    exact hr j v x hv hx

theorem overV_rel_end {cur : Array Value} {cells new : List AV} {o : Nat} {vs : List Value} (hr : ∀ (j : Nat) v x, cur[j]? = some v → cells[j]? = some x → v.oneCell' = true ∧ Rel h φ w v x) (c : CellsRel h φ w vs new)
    (hl : o + vs.length ≤ cur.size) (hc : o ≤ cells.length) :
    ∀ (j : Nat) v x, (overV cur o vs)[j]? = some v → (cells.take o ++ new)[j]? = some x → v.oneCell' = true ∧ Rel h φ w v x := by
  intro j v x hv hx
  rw [get_overV hl] at hv
  by_cases h1 : j < o
  · rw [if_neg (by omega)] at hv
    rw [List.getElem?_append_left (by simp; omega), List.getElem?_take_of_lt h1] at hx
    exact hr j v x hv hx
  · rw [List.getElem?_append_right (by simp; omega)] at hx
    have e : j - (cells.take o).length = j - o := by simp; omega
    rw [e] at hx
    have hj : j - o < new.length := (List.getElem?_eq_some_iff.1 hx).1
    rw [if_pos (by rw [c.1]; omega)] at hv
    exact c.2 _ v x hv hx

/-- Cells that are written. -/
theorem writeAt_ok (i : Pic G B h φ w) {u : Value} {p : AV} {new : List AV} {h' : Heap} {vs : List Value} (ru : Rel h φ w u p) (c : CellsRel h φ w vs new) (hx : writeAt h p new = some h') :
    ∃ a w', u = .pointer (some a) ∧ (storeCells a vs).run P w = .ok () w' ∧ Pic G B h' φ w' ∧ Ev h φ w h' φ w' := by
  unfold writeAt at hx
  split at hx
  · rename_i β g off
    split at hx
    · rename_i b hb
      split at hx
      · rename_i hc
        obtain ⟨h1, h2, h3, h4⟩ := hc
        cases hx
        obtain ⟨bl, b', rfl, hb', hg, hv⟩ := ru.ptr_inv
        rw [hb] at hb'
        cases hb'
        obtain rfl := hv h1.symm h2
        obtain ⟨cur, hw, hs, hl, hr⟩ := i.blk β b hb h2
        have hfit : off + vs.length ≤ cur.size := by rw [c.1]; omega
        have hst := run_storeCells_at P (φ β).1 off b.elem vs 0 cur w hw (by simpa using hfit) (fun v hv => by
          obtain ⟨j, hj, rfl⟩ := List.mem_iff_getElem.1 hv
          have hj' : j < new.length := by rw [← c.1]; exact hj
          exact (c.2 j _ _ (List.getElem?_eq_getElem hj) (List.getElem?_eq_getElem hj')).1)
        simp only [Nat.add_zero] at hst
        have hset := set_block i (w' := w.setRow (φ β).1 (overV cur off vs)) (b' := { b with cells := over b.cells off new }) (k := (φ β).1) (n := (φ β).2) (cur := overV cur off vs) hb
          rfl rfl rfl (by simp) (fun j _ hj => setRow_other w _ j _ (hj h2)) (.inl ⟨h2, rfl⟩) (setRow_heap w _ cur _ _ _ hw) (by rw [size_overV hfit, hs])
          (by rw [size_overV hfit, length_over _ _ _ h3]; exact hl) (overV_rel hr c hfit h3) h2 (Nat.le_refl _) (fun _ => ⟨rfl, h2, rfl⟩)
          (fun _ j hj => by rw [cell_of_row _ _ _ _ _ _ (setRow_heap w _ cur _ _ _ hw), cell_of_row w _ _ cur _ _ hw, get_overV hfit, if_neg (by omega)]) (fun _ => Nat.le_refl _)
        have eφ : (fun γ => if γ = β then ((φ β).1, (φ β).2) else φ γ) = φ := by
          funext γ
          by_cases hγ : γ = β
          · subst hγ; simp
          · simp [hγ]
        rw [eφ] at hset
        exact ⟨_, _, rfl, hst, hset⟩
      · cases hx
    · cases hx
  · cases hx

/-- 'append' of nothing. -/
theorem run_append_zero {t ty e : TypeId} (ht : P.underlying t = some (.slice e)) {i : TypeInfo} (hi : P.info? e = some i) (ad ad' : Option Addr) (n cap cap' : Nat) (hn : n ≤ cap) :
    (Builtin.append_ #[t, t] ty #[.slice ad n cap, .slice ad' 0 cap']).run P w = .ok (.slice ad n cap) w := by
  have hf : (Builtin.firstCells i.size 0 (.slice ad' 0 cap')).run P w = .ok #[] w := by
    cases ad' with
    | none => simp [Builtin.firstCells]
    | some a => simp [Builtin.firstCells, loadCells, loadCellsFrom]
  cases ad with
  | none => simp [Builtin.append_, run_underlying ht, sizeOf, typeInfo, hi, Builtin.lenOf, hn, hf]
  | some a => simp [Builtin.append_, run_underlying ht, sizeOf, typeInfo, hi, Builtin.lenOf, hn, hf, storeCells]

end
end Go.Ab
