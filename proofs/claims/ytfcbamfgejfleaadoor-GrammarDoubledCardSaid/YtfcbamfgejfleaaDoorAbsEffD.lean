/-
  MEMORY: append, AND ALL OPERATIONS THAT MAY TURN THE PICTURE'S HEAP IN ONE STATEMENT. Conditions: 'Good': the table of types is the program's.
-/
import Derived.Test.YtfcbamfgejfleaaDoorAbsEffC
namespace Go.Ab
section
variable {P : Program} {C : Cfg} {G : Nat → AV} {B : Nat} {h : Heap} {φ : Map} {w : World}

theorem take_rel {cur : Array Value} {cells : List AV} {o : Nat} (hr : ∀ (j : Nat) v x, cur[j]? = some v → cells[j]? = some x → v.oneCell' = true ∧ Rel h φ w v x) (hl : cells.length ≤ cur.size) (hc : o ≤ cells.length) :
    CellsRel h φ w (cur.toList.take o) (cells.take o) := by
  refine ⟨by simp; omega, fun j v x hv hx => ?_⟩
  rw [List.getElem?_take] at hv hx
  split at hv
  · rename_i hlt
    rw [if_pos hlt] at hx
    exact hr j v x (by simpa using hv) hx
  · cases hv

theorem CellsRel.append {vs us : List Value} {xs ys : List AV} (a : CellsRel h φ w vs xs) (b : CellsRel h φ w us ys) : CellsRel h φ w (vs ++ us) (xs ++ ys) := by
  refine ⟨by simp [a.1, b.1], fun j v x hv hx => ?_⟩
  by_cases hj : j < vs.length
  · rw [List.getElem?_append_left hj] at hv
    rw [List.getElem?_append_left (by rw [← a.1]; exact hj)] at hx
    exact a.2 j v x hv hx
  · rw [List.getElem?_append_right (by omega)] at hv
    rw [List.getElem?_append_right (by rw [← a.1]; omega), ← a.1] at hx
    exact b.2 _ v x hv hx

theorem CellsRel.one {vs : List Value} {xs : List AV} (c : CellsRel h φ w vs xs) : ∀ v ∈ vs, v.oneCell' = true := by
  intro v hv
  obtain ⟨j, hj, rfl⟩ := List.mem_iff_getElem.1 hv
  have hj' : j < xs.length := by rw [← c.1]; exact hj
  exact (c.2 j _ _ (List.getElem?_eq_getElem hj) (List.getElem?_eq_getElem hj')).1

/-- A row with cells behind those that are known. -/
theorem CellsRel.behind {vs rest : List Value} {xs : List AV} (c : CellsRel h φ w vs xs) : ∀ (j : Nat) v x, (vs ++ rest).toArray[j]? = some v → xs[j]? = some x → v.oneCell' = true ∧ Rel h φ w v x := by
  intro j v x hv hx
  have hj : j < vs.length := by rw [c.1]; exact (List.getElem?_eq_some_iff.1 hx).1
  rw [List.getElem?_toArray, List.getElem?_append_left hj] at hv
  exact c.2 j v x hv hx

theorem grownBy_made (w : World) (o : Obj) : w.grownBy (w.drew.alloc o) none := grownBy_trans (grownBy_drew w) (World.grownBy_alloc _ _ _)

theorem made_at (w : World) (o : Obj) : (w.drew.alloc o).heap[w.heap.size]? = some o := alloc_new w.drew o

theorem appendA_ok (i : Pic G B h φ w) (g : Good P C) {t ty e : TypeId} (ht : C.ut t = .slice e) {ub us : Value} {base src x : AV} {h' : Heap} (rb : Rel h φ w ub base) (rs : Rel h φ w us src) (hx : appendA C e h base src = some (x, h')) :
    OkE P G B h φ w (Builtin.append_ #[t, t] ty #[ub, us]) x h' := by
  obtain ⟨hut, hke⟩ := und_slice g ht
  obtain ⟨ei, z, hei, hez, hes, heb, _, _, hz1⟩ := g.known hke
  have hzsz : z.cells.size = C.sz e := by
    obtain ⟨_, z', hei', hez', _, _, he', hl', _⟩ := g.known hke
    rw [hei] at hei'
    cases hei'
    rw [hez] at hez'
    cases hez'
    rw [← hl', ← he']
    simp
  unfold appendA at hx
  split at hx
  · rename_i new m hnew hm
    split at hx
    · rename_i hlen
      obtain ⟨hlen, hpos⟩ := hlen
      obtain ⟨ad, cp, vs, rfl, hrel, hcell, hnone⟩ := rd_ok i rs hnew hm
      have hvl : vs.length = m * ei.size := by rw [hrel.1, hlen, hes]
      have addr : m ≠ 0 → ∃ a, ad = some a ∧ ∀ (j : Nat) v, vs[j]? = some v → w.cell? (a.add j) = some v := by
        intro hm0
        cases ad with
        | none =>
          have := hnone rfl
          subst this
          have : 0 < m * C.sz e := Nat.mul_pos (by omega) hpos
          rw [hes] at hvl
          simp at hvl
          omega
        | some a => exact ⟨a, rfl, hcell a rfl⟩
      split at hx
      · -- a nil slice
        cases rb.nils_inv
        split at hx
        · rename_i hm0
          cases hx
          subst hm0
          exact ⟨_, w, φ, run_append_zero hut hei none ad 0 0 cp (Nat.le_refl _), i, .refl _ _ _, .pure .nils⟩
        · rename_i hm0
          split at hx
          · rename_i hb
            cases hx
            obtain ⟨a, rfl, hc⟩ := addr hm0
            have hrun := run_append_nil (P := P) w t ty e ei z hut hei hez a m cp vs hvl hc (by omega) (by have := hb.1; simp only [maxLen] at this; omega) (by rw [heb]; omega)
            have hcap : m ≤ grownCap w m 0 e := grownCap_ge w m 0 e
            have hcm : grownCap w m 0 e ≤ maxLen := grownCap_le_maxLen w m 0 e hb.1
            have hrow : (vs.toArray ++ Builtin.zeroCells z.cells (grownCap w m 0 e - m)) = (vs ++ (Builtin.zeroCells z.cells (grownCap w m 0 e - m)).toList).toArray := by
              apply Array.ext'
              simp
            rw [hrow] at hrun
            have hsize : (vs ++ (Builtin.zeroCells z.cells (grownCap w m 0 e - m)).toList).toArray.size = grownCap w m 0 e * C.sz e := by
              simp [size_zeroCells, hvl, hes, hzsz, ← Nat.add_mul]
              congr 1
              omega
            obtain ⟨i1, e1⟩ := push_block i (esz := C.sz e) (cells := new) (grownBy_made w _) w.heap.size (Nat.le_refl _) (made_at w (.cells (vs ++ (Builtin.zeroCells z.cells (grownCap w m 0 e - m)).toList).toArray e))
              (by rw [hsize, hlen]; exact Nat.mul_le_mul_right _ hcap) hrel.behind
            refine ⟨_, _, _, hrun, i1, e1, .own _ _ _ _ _ _ ⟨0, false, e, C.sz e, new, 0⟩ (by simp) (Nat.le_refl _) hcap hcm (fun _ => ⟨_, rfl⟩) (fun _ h0 => by cases h0) (fun _ _ => ⟨by simp, fun _ => by simp only [if_true]; rw [hsize]⟩)⟩
          · cases hx
      · -- a slice of the picture's own
        rename_i β gn off len
        split at hx
        · rename_i b hb
          split at hx
          · rename_i hcond
            obtain ⟨hgen, rfl, hbound, hbytes⟩ := hcond
            obtain ⟨adb, cap, bk, rfl, hbk, hg, hlc, hcm, had, hn, hv⟩ := rb.own_inv
            rw [hb] at hbk
            cases hbk
            split at hx
            · rename_i hm0
              cases hx
              subst hm0
              exact ⟨_, w, φ, run_append_zero hut hei adb ad len cap cp hlc, i, .refl _ _ _, rb⟩
            · rename_i hm0
              obtain ⟨a, rfl, hc⟩ := addr hm0
              split at hx
              · -- no block of the model yet
                rename_i hvirt
                split at hx
                · rename_i hl0
                  cases hx
                  subst hl0
                  obtain ⟨rfl, rfl⟩ := hn hgen.symm hvirt
                  simp only [Nat.zero_add] at hbound hbytes
                  have hrun := run_append_nil (P := P) w t ty e ei z hut hei hez a m cp vs hvl hc (by omega) (by have := hbound; simp only [maxLen] at this; omega) (by rw [heb]; omega)
                  have hcap : m ≤ grownCap w m 0 e := grownCap_ge w m 0 e
                  have hcm' : grownCap w m 0 e ≤ maxLen := grownCap_le_maxLen w m 0 e hbound
                  have hrow : (vs.toArray ++ Builtin.zeroCells z.cells (grownCap w m 0 e - m)) = (vs ++ (Builtin.zeroCells z.cells (grownCap w m 0 e - m)).toList).toArray := by
                    apply Array.ext'
                    simp
                  rw [hrow] at hrun
                  have hsize : (vs ++ (Builtin.zeroCells z.cells (grownCap w m 0 e - m)).toList).toArray.size = grownCap w m 0 e * C.sz e := by
                    simp [size_zeroCells, hvl, hes, hzsz, ← Nat.add_mul]
                    congr 1
                    omega
                  have hgr := grownBy_made w (.cells (vs ++ (Builtin.zeroCells z.cells (grownCap w m 0 e - m)).toList).toArray e)
                  obtain ⟨i1, e1⟩ := set_block i (b' := ⟨gn + 1, false, e, C.sz e, new, b.frz⟩) (k := w.heap.size) hb hgr.os hgr.tape hgr.output hgr.size (fun j hj _ => hgr.block j hj (by simp)) (.inr (Nat.le_refl _))
                    (made_at w _) hsize (by rw [hsize, hlen]; exact Nat.mul_le_mul_right _ hcap) hrel.behind rfl (by simp [hgen]) (fun h0 => by simp [hgen] at h0) (fun h0 => by rw [hvirt] at h0; cases h0) (fun _ => Nat.le_refl _)
                  have hlt : β < h.length := (List.getElem?_eq_some_iff.1 hb).1
                  refine ⟨_, _, _, hrun, i1, e1, .own _ _ _ _ _ _ ⟨gn + 1, false, e, C.sz e, new, b.frz⟩ (by simp [hlt]) (Nat.le_refl _) hcap hcm' (fun _ => ⟨_, rfl⟩) (fun _ h0 => by cases h0) (fun _ _ => ⟨by simp, fun _ => by simp⟩)⟩
                · cases hx
              · rename_i hvirt
                have hvirt' : b.virt = false := by simpa using hvirt
                split at hx
                · rename_i hshape
                  obtain ⟨hbe, hbs, hbl, hbf⟩ := hshape
                  obtain ⟨rfl, hcur⟩ := hv hgen.symm hvirt'
                  have hcur' := hcur rfl
                  obtain ⟨cur, hw, hs, hl, hr⟩ := i.blk β b hb hvirt'
                  have hcs : cap * C.sz e = cur.size := by rw [hs, ← hcur', hbs]
                  have hlt : β < h.length := (List.getElem?_eq_some_iff.1 hb).1
                  have hfit : ∀ {c : Nat}, len + m ≤ c → len * C.sz e + vs.length ≤ c * C.sz e := fun hh => by
                    rw [hvl, hes, ← Nat.add_mul]
                    exact Nat.mul_le_mul_right _ hh
                  have hroom : len + m ≤ cap → (Builtin.append_ #[t, t] ty #[.slice (some ⟨(φ β).1, 0, none⟩) len cap, .slice (some a) m cp]).run P w = .ok (.slice (some ⟨(φ β).1, 0, none⟩) (len + m) cap) (w.setRow (φ β).1 (overV cur (len * C.sz e) vs)) := fun hh => by
                    have := run_append_room (P := P) w t ty e ei hut hei (φ β).1 len cap cur (by rw [hw, hbe]) a m cp vs hvl hc hrel.one hh (by rw [hes, ← hcs]; exact hfit hh)
                    rw [hes] at this
                    exact this
                  split at hx
                  · -- there is room for sure
                    rename_i hsure
                    cases hx
                    have hle : len + m ≤ cap := by
                      have h1 : (len + m) * C.sz e ≤ cap * C.sz e := by rw [hcs]; omega
                      exact Nat.le_of_mul_le_mul_right h1 hpos
                    have hf2 : len * C.sz e + vs.length ≤ cur.size := by rw [← hcs]; exact hfit hle
                    have hf3 : len * C.sz e + new.length ≤ b.cells.length := by rw [hlen, ← Nat.add_mul]; exact hsure
                    have hset := set_block i (w' := w.setRow (φ β).1 (overV cur (len * C.sz e) vs)) (b' := { b with cells := over b.cells (len * C.sz e) new }) (k := (φ β).1) (n := (φ β).2) (cur := overV cur (len * C.sz e) vs) hb
                      rfl rfl rfl (by simp) (fun j _ hj => setRow_other w _ j _ (hj hvirt')) (.inl ⟨hvirt', rfl⟩) (setRow_heap w _ cur _ _ _ hw) (by rw [size_overV hf2, hs])
                      (by rw [size_overV hf2, length_over _ _ _ hf3]; exact hl) (overV_rel hr hrel hf2 hf3) hvirt' (Nat.le_refl _) (fun _ => ⟨rfl, hvirt', rfl⟩)
                      (fun _ j hj => by rw [cell_of_row _ _ _ _ _ _ (setRow_heap w _ cur _ _ _ hw), cell_of_row w _ _ cur _ _ hw, get_overV hf2, if_neg (by omega)]) (fun _ => Nat.le_refl _)
                    have eφ : (fun γ => if γ = β then ((φ β).1, (φ β).2) else φ γ) = φ := by
                      funext γ
                      by_cases hγ : γ = β
                      · subst hγ; simp
                      · simp [hγ]
                    rw [eφ] at hset
                    exact ⟨_, _, φ, hroom hle, hset.1, hset.2, .own _ _ _ _ _ _ { b with cells := over b.cells (len * C.sz e) new } (by simp [hlt]) (by simp [hgen]) hle hcm (fun _ => ⟨_, rfl⟩) (fun _ h0 => by simp [hvirt'] at h0) (fun _ _ => ⟨rfl, hcur⟩)⟩
                  · -- there may be room
                    rename_i hsure
                    cases hx
                    by_cases hle : len + m ≤ cap
                    · have hf2 : len * C.sz e + vs.length ≤ cur.size := by rw [← hcs]; exact hfit hle
                      have hset := set_block i (w' := w.setRow (φ β).1 (overV cur (len * C.sz e) vs)) (b' := ⟨gn + 1, false, e, C.sz e, b.cells.take (len * C.sz e) ++ new, b.frz⟩) (k := (φ β).1) (n := (φ β).2) (cur := overV cur (len * C.sz e) vs) hb
                        rfl rfl rfl (by simp) (fun j _ hj => setRow_other w _ j _ (hj hvirt')) (.inl ⟨hvirt', rfl⟩) (by rw [← hbe]; exact setRow_heap w _ cur _ _ _ hw) (by rw [size_overV hf2, hs])
                        (by rw [size_overV hf2]; simp; rw [hlen]; rw [hrel.1, hlen] at hf2; omega) (overV_rel_end hr hrel hf2 hbl) rfl (by simp [hgen]) (fun h0 => by simp [hgen] at h0)
                        (fun _ j hj => by rw [cell_of_row _ _ _ _ _ _ (setRow_heap w _ cur _ _ _ hw), cell_of_row w _ _ cur _ _ hw, get_overV hf2, if_neg (by omega)]) (fun _ => Nat.le_refl _)
                      exact ⟨_, _, _, hroom hle, hset.1, hset.2, .own _ _ _ _ _ _ ⟨gn + 1, false, e, C.sz e, b.cells.take (len * C.sz e) ++ new, b.frz⟩ (by simp [hlt]) (Nat.le_refl _) hle hcm (fun _ => ⟨_, rfl⟩) (fun _ h0 => by cases h0) (fun _ _ => ⟨by simp, fun _ => by simp only [if_true]; rw [hcs, hs]⟩)⟩
                    · have htake := take_rel hr hl hbl
                      have hall := htake.append hrel
                      have hol : (cur.toList.take (len * C.sz e)).length = len * ei.size := by
                        rw [hes]
                        simp
                        omega
                      have hrun := run_append_grow (P := P) w t ty e ei z hut hei hez ⟨(φ β).1, 0, none⟩ len cap (cur.toList.take (len * C.sz e)) hol (fun j v hv => by
                          rw [Addr.add_lit, Nat.zero_add, cell_of_row w _ _ cur _ _ hw]
                          rw [List.getElem?_take] at hv
                          split at hv
                          · simpa using hv
                          · cases hv) a m cp vs hvl hc (by omega) (by simp only [maxLen] at hbound; omega) (growslice_fits (by omega) (by rw [heb]; exact hbytes))
                      have hcap : len + m ≤ grownCap w (len + m) cap e := grownCap_ge w (len + m) cap e
                      have hcm' : grownCap w (len + m) cap e ≤ maxLen := grownCap_le_maxLen w (len + m) cap e hbound
                      have hrow : ((cur.toList.take (len * C.sz e)).toArray ++ vs.toArray ++ Builtin.zeroCells z.cells (grownCap w (len + m) cap e - (len + m))) = (cur.toList.take (len * C.sz e) ++ vs ++ (Builtin.zeroCells z.cells (grownCap w (len + m) cap e - (len + m))).toList).toArray := by
                        apply Array.ext'
                        simp
                      rw [hrow] at hrun
                      have hsize : (cur.toList.take (len * C.sz e) ++ vs ++ (Builtin.zeroCells z.cells (grownCap w (len + m) cap e - (len + m))).toList).toArray.size = grownCap w (len + m) cap e * C.sz e := by
                        rw [List.size_toArray, List.length_append, List.length_append, hol, hvl, hes, Array.length_toList, size_zeroCells, hzsz, ← Nat.add_mul, ← Nat.add_mul]
                        congr 1
                        omega
                      have hgr := grownBy_made w (.cells (cur.toList.take (len * C.sz e) ++ vs ++ (Builtin.zeroCells z.cells (grownCap w (len + m) cap e - (len + m))).toList).toArray e)
                      obtain ⟨i1, e1⟩ := set_block i (b' := ⟨gn + 1, false, e, C.sz e, b.cells.take (len * C.sz e) ++ new, b.frz⟩) (k := w.heap.size) hb hgr.os hgr.tape hgr.output hgr.size (fun j hj _ => hgr.block j hj (by simp)) (.inr (Nat.le_refl _))
                        (made_at w _) hsize (by
                          have h1 : (b.cells.take (len * C.sz e) ++ new).length = (len + m) * C.sz e := by rw [List.length_append, List.length_take, hlen, Nat.min_eq_left hbl, Nat.add_mul]
                          rw [hsize, h1]
                          exact Nat.mul_le_mul_right _ hcap) hall.behind rfl (by simp [hgen]) (fun h0 => by simp [hgen] at h0)
                        (fun _ j _ => World.cell?_of_block (hgr.block _ (i.lt hb hvirt') (by simp))) (fun _ => Nat.le_refl _)
                      refine ⟨_, _, _, hrun, i1, e1, .own _ _ _ _ _ _ ⟨gn + 1, false, e, C.sz e, b.cells.take (len * C.sz e) ++ new, b.frz⟩ (by simp [hlt]) (Nat.le_refl _) hcap hcm' (fun _ => ⟨_, rfl⟩) (fun _ h0 => by cases h0) (fun _ _ => ⟨by simp, fun _ => by simp⟩)⟩
                · cases hx
          · cases hx
        · cases hx
      · -- nothing is appended to a slice that is never written again
        rename_i n cells
        split at hx
        · rename_i hm0
          cases hx
          subst hm0
          have hp := rb.vec_inv
          have hv : ∃ adb cap, ub = .slice adb n cap ∧ n ≤ cap := by
            cases hp with
            | vec0 a c => exact ⟨a, c, rfl, Nat.zero_le _⟩
            | vec b o n' c _ vs hS hnc => exact ⟨_, c, rfl, hnc⟩
          obtain ⟨adb, cap, rfl, hnc⟩ := hv
          exact ⟨_, w, φ, run_append_zero hut hei adb ad n cap cp hnc, i, .refl _ _ _, rb⟩
        · cases hx
      · cases hx
    · cases hx
  · cases hx

theorem get_set_dead {β γ : Nat} {b c : Blk} (hb : h[β]? = some b) (hc : (h.set β (deadB b))[γ]? = some c) : (γ = β ∧ c = deadB b) ∨ (γ ≠ β ∧ h[γ]? = some c) := by
  have hl := (List.getElem?_eq_some_iff.1 hb).1
  by_cases e : γ = β
  · subst e
    rw [List.getElem?_set_self hl] at hc
    exact .inl ⟨rfl, by simpa using hc.symm⟩
  · rw [List.getElem?_set_ne (Ne.symm e)] at hc
    exact .inr ⟨e, hc⟩


theorem run_convert_mark (w : World) (t e : TypeId) (bl n c : Nat) (cur : Array Value) (el : TypeId) (ht : P.underlying t = some (.slice e)) (he : P.underlying e = some (.int .u8)) (hw : w.heap[bl]? = some (.cells cur el (0, 0))) :
    ∃ w', (convert t t (.slice (some ⟨bl, 0, none⟩) n c)).run P w = .ok (.slice (some ⟨bl, 0, none⟩) n c) w' ∧ w'.os = w.os ∧ w'.tape = w.tape ∧ w'.output = w.output ∧ w'.heap.size = w.heap.size ∧ (∀ k, k ≠ bl → w'.heap[k]? = w.heap[k]?) ∧ ∃ m, w'.heap[bl]? = some (.cells cur el m) := by
  have hsh : w.shape? bl = some (el, cur.size) := by
    unfold World.shape?
    rw [hw]
  have hlt : bl < w.heap.size := (Array.getElem?_eq_some_iff.1 hw).1
  refine ⟨w.freeze ⟨bl, cur.size, none⟩ 1, ?_, ?_, ?_, ?_, ?_, fun k hk => ?_, ?_⟩
  · simp [convert, run_underlying ht, run_underlying he, markStringish, hsh]
  · unfold World.freeze; split <;> rfl
  · unfold World.freeze; split <;> rfl
  · unfold World.freeze; split <;> rfl
  · unfold World.freeze; rw [if_neg (by decide)]; simp
  · unfold World.freeze; rw [if_neg (by decide)]
    simp only [Array.getElem?_modify]
    rw [if_neg (fun h => hk h.symm)]
  · unfold World.freeze; rw [if_neg (by decide)]
    simp only [Array.getElem?_modify, if_true, hw, Option.map_some]
    exact ⟨_, rfl⟩

/-- A block is given up while the model marks its own. -/
theorem mark_pic {β : Nat} {b : Blk} {w' : World} (i : Pic G B h φ w) (hb : h[β]? = some b) (hbv : b.virt = false) (h1 : w'.os = w.os) (h2 : w'.tape = w.tape) (h3 : w'.output = w.output) (h4 : w'.heap.size = w.heap.size) (h5 : ∀ k, k ≠ (φ β).1 → w'.heap[k]? = w.heap[k]?) (hcell : ∀ k j, w'.cell? ⟨k, j, none⟩ = w.cell? ⟨k, j, none⟩) :
    Pic G B (h.set β (deadB b)) φ w' ∧ Ev h φ w (h.set β (deadB b)) φ w' := by
  have ev : Ev h φ w (h.set β (deadB b)) φ w' := by
    refine ⟨h1, h2, h3, by omega, fun k hk => ⟨h5 k fun e => hk.2 β b hb hbv e.symm, by rw [h4]; exact hk.1, fun γ c hc hv => ?_⟩, fun k j hk => ⟨hcell k j, by rw [h4]; exact hk.1, fun γ c hc hv => ?_⟩, by simp, fun γ c c' k1 k2 => ?_⟩
    · rcases get_set_dead hb hc with ⟨_, rfl⟩ | ⟨_, hc'⟩
      · cases hv
      · exact hk.2 γ c hc' hv
    · rcases get_set_dead hb hc with ⟨_, rfl⟩ | ⟨_, hc'⟩
      · cases hv
      · exact hk.2 γ c hc' hv
    · rcases get_set_dead hb k2 with ⟨rfl, rfl⟩ | ⟨_, k2'⟩
      · rw [hb] at k1
        cases k1
        exact ⟨by simp [deadB], fun e => by simp [deadB] at e⟩
      · rw [k1] at k2'
        cases k2'
        exact ⟨Nat.le_refl _, fun _ => ⟨rfl, rfl, rfl⟩⟩
  refine ⟨⟨fun γ c hc hv => ?_, fun γ γ' c c' hc hc' hv hv' he => ?_, fun γ c hc hv => ?_, fun γ c hc hv => ?_, by rw [h4]; exact i.room, fun g => ev.prel (i.glob g)⟩, ev⟩
  · rcases get_set_dead hb hc with ⟨_, rfl⟩ | ⟨hne, hc'⟩
    · cases hv
    · obtain ⟨cur, k1, k2, k3, k4⟩ := i.blk γ c hc' hv
      exact ⟨cur, (h5 _ fun e => hne (i.inj γ β c b hc' hb hv hbv e)).trans k1, k2, k3, fun j v x a d => ⟨(k4 j v x a d).1, ev.rel (k4 j v x a d).2⟩⟩
  · rcases get_set_dead hb hc with ⟨_, rfl⟩ | ⟨_, k1⟩
    · cases hv
    · rcases get_set_dead hb hc' with ⟨_, rfl⟩ | ⟨_, k2⟩
      · cases hv'
      · exact i.inj γ γ' c c' k1 k2 hv hv' he
  · rcases get_set_dead hb hc with ⟨_, rfl⟩ | ⟨_, hc'⟩
    · cases hv
    · exact i.base γ c hc' hv
  · rcases get_set_dead hb hc with ⟨_, rfl⟩ | ⟨_, hc'⟩
    · rfl
    · exact i.virt γ c hc' hv

/-- An operation of the model that may turn the world: what it yields is the picture's, and the world is as the picture says. -/
def OkX (P : Program) (G : Nat → AV) (B : Nat) (h : Heap) (φ : Map) (w : World) (s : Sem Next) (x : AV) (h' : Heap) : Prop :=
  ∃ nx v w' φ', s.run P w = .ok nx w' ∧ (nx = .value v ∨ (nx = .skip ∧ v = undef)) ∧ Pic G B h' φ' w' ∧ Ev h φ w h' φ' w' ∧ Rel h' φ' w' v x

theorem OkE.next {s : Sem Value} {x : AV} {h' : Heap} (hv : OkE P G B h φ w s x h') : OkX P G B h φ w (do pure (.value (← s))) x h' := by
  obtain ⟨v, w', φ', h1, h2, h3, h4⟩ := hv
  exact ⟨_, v, w', φ', by simp [h1], .inl rfl, h2, h3, h4⟩

theorem effA_ok (i : Pic G B h φ w) (g : Good P C) {ρc : Operand → Value} {ρ : Operand → AV} (hρ : ∀ x, Rel h φ w (ρc x) (ρ x)) {o : Oper} {x : AV} {h' : Heap} (hp : effA C ρ h o.op = some (x, h')) :
    OkX P G B h φ w (execOp ρc o) x h' := by
  obtain ⟨dst, op, type, pos, after, guard⟩ := o
  simp only at hp
  unfold effA at hp
  split at hp
  · rename_i t
    split at hp
    · rename_i hk
      obtain ⟨ti, z, hi, hz, hs, _, hzr, hzl⟩ := zero_rel (h := h) (φ := φ) (w := w) g hk
      obtain ⟨v, w', φ', h1, h2, h3, h4⟩ := newVarA_ok (P := P) i hzr hp
      refine ⟨_, v, w', φ', ?_, .inl rfl, h2, h3, h4⟩
      have e1 : (Instr.alloc t true (.tuple #[])).run P w = .ok v w' := by
        simp only [Instr.alloc, zeroValue, typeInfo, Sem.run_bind, run_program, hi, hz, Sem.run_pure, Result.andThen_ok, newVar] at h1 ⊢
        exact h1
      simp [execOp, e1]
    · cases hp
  · rename_i t y
    split at hp
    · rename_i hst
      obtain ⟨hsz, hcs⟩ := (hρ y).cellsOf hst
      obtain ⟨v, w', φ', h1, h2, h3, h4⟩ := newVarA_ok (P := P) (cur := (ρc y).cells) i ⟨by simpa using hsz, fun j u x a b => hcs j u x (by simpa using a) b⟩ hp
      refine ⟨_, v, w', φ', ?_, .inl rfl, h2, h3, h4⟩
      have e1 : (Instr.box t (ρc y)).run P w = .ok v w' := by
        simp only [Instr.box, newVar]
        exact h1
      simp [execOp, e1]
    · cases hp
  · rename_i t len parts
    split at hp
    · rename_i e hu
      obtain ⟨hue, hke⟩ := und_slice g hu
      split at hp
      · rename_i hb
        split at hp
        · rename_i cells hfill
          split at hp
          · rename_i hcl
            cases hp
            obtain ⟨ei, z, hi, hz, hs, _, hzr, hzl⟩ := zero_rel (h := h) (φ := φ) (w := w) g hke
            have hzsz : z.cells.size = C.sz e := by have := hzr.1; simp at this; omega
            have hzs := zeros_rel (n := len) hzr
            rw [hzsz] at hzs
            obtain ⟨h1, h2⟩ := parts_rel hρ parts
            obtain ⟨cur, hf, hrel⟩ := fillA_rel (h := h) (φ := φ) (w := w) _ (fun i => some (i * C.sz e, C.sz e)) (fun j p hp => by
              split at hp
              · exact hp
              · cases hp) _ (parts.map fun (i, x) => (i, ρc x)).toList _ cells _ hzs (by simp) (fun j p p' a b => h2 j p p' a (by simpa using b)) hfill
            have hcs : cur.size = len * C.sz e := by have := hrel.1; simp at this; omega
            obtain ⟨hrun, φ', i1, e1, _, r1⟩ := newRow_ok (P := P) (t := e) (esz := C.sz e) (n := len) (m := len) i hrel
            refine ⟨_, _, _, φ', ?_, .inl rfl, i1, e1, r1 (Nat.le_refl _) hcl.2 (by rw [hcs])⟩
            have hne : ¬ (16777216 < len * C.sz e) := by omega
            have ebs : (Instr.buildSlice t len (parts.map fun (i, x) => (i, ρc x))).run P w = .ok (.slice (some ⟨w.heap.size, 0, none⟩) len len) (w.alloc (.cells cur e)) := by
              by_cases h0 : len * C.sz e = 0
              · have hl0 : len = 0 := by
                  rcases Nat.mul_eq_zero.1 h0 with h | h <;> omega
                have hf' : Instr.fill (fun i => some (i * C.sz e, C.sz e)) ((Array.range (len * C.sz e)).map ((#[] : Array Value)[· % (#[] : Array Value).size]!)) (parts.map fun (i, x) => (i, ρc x)).toList = some cur := by
                  rw [← hf]
                  congr 1
                  apply Array.ext <;> simp [h0]
                simp only [Instr.buildSlice, Sem.run_bind, run_und hue, Result.andThen_ok, run_sizeOf g hke]
                simp [h0] at hf' ⊢
                simp [hf', hrun]
              · have hf' : Instr.fill (fun i => some (i * C.sz e, C.sz e)) ((Array.range (len * C.sz e)).map (z.cells[· % z.cells.size]!)) (parts.map fun (i, x) => (i, ρc x)).toList = some cur := by
                  rw [← hf, hzsz]
                simp only [Instr.buildSlice, Sem.run_bind, run_und hue, Result.andThen_ok, run_sizeOf g hke]
                simp [hne, h0, zeroValue, typeInfo, hi, hz] at hf' ⊢
                simp [hf', hrun]
            simp [execOp, ebs]
          · cases hp
        · cases hp
      · cases hp
    · cases hp
  · rename_i t l c
    split at hp
    · rename_i e k n k' m hu hl hc
      obtain ⟨hue, hke⟩ := und_slice g hu
      split at hp
      · rename_i hb
        obtain ⟨rfl, h0, hby, hmx, hpos, hzl⟩ := hb
        cases hp
        have hv := (hl ▸ hρ l : Rel h φ w (ρc l) _).int_inv
        have hv2 := (hc ▸ hρ c : Rel h φ w (ρc c) _).int_inv
        obtain ⟨ei, z, hi, hz, hs, heb, hzr, _⟩ := zero_rel (h := h) (φ := φ) (w := w) g hke
        have hzsz : z.cells.size = C.sz e := by have := hzr.1; simp at this; omega
        have hzs := zeros_rel (n := n.toNat) hzr
        have hrun := run_make (P := P) w t e ei z hue hi hz k k' n n h0 (Int.le_refl _) (by rw [heb]; exact hby) (by simp only [maxLen] at hmx; omega)
        have hrow : (Array.range (n.toNat * z.cells.size)).map (z.cells[· % z.cells.size]!) = madeCells z.cells (n.toNat * ei.size) := by
          unfold madeCells
          rw [hzsz, hs]
        rw [hrow] at hzs
        obtain ⟨_, φ', i1, e1, _, r1⟩ := newRow_ok (P := P) (t := e) (esz := C.sz e) (n := n.toNat) (m := n.toNat) i hzs
        refine ⟨_, _, _, φ', ?_, .inl rfl, i1, e1, r1 (Nat.le_refl _) (by omega) (by rw [size_madeCells, hs])⟩
        simp only [execOp, hv, hv2, Sem.run_bind, hrun, Result.andThen_ok, Sem.run_pure]
      · cases hp
    · cases hp
  · rename_i t p y
    split at hp
    · rename_i hst
      obtain ⟨hst, hlen, hk⟩ := hst
      obtain ⟨h1, hw, heq⟩ := Option.map_eq_some_iff.1 hp
      cases heq
      obtain ⟨hsz, hcs⟩ := (hρ y).cellsOf hst
      obtain ⟨a, w', hv, hrun, i1, e1⟩ := writeAt_ok (P := P) (vs := (ρc y).cells.toList) i (hρ p) ⟨by simpa using hsz, fun j u x a b => hcs j u x (by simpa using a) b⟩ hw
      refine ⟨.skip, undef, w', φ, ?_, .inr ⟨rfl, rfl⟩, i1, e1, .any_of _⟩
      have hne : (ρc y).cells.size = C.sz t := by omega
      simp [execOp, Instr.storeAt, hv, Instr.sureAddr, storeVar, run_sizeOf g hk, hne, hrun]
    · cases hp
  · rename_i s d y
    split at hp
    · rename_i e β gn len hs hy
      split at hp
      · rename_i hc
        obtain ⟨rfl, hee⟩ := hc
        split at hp
        · rename_i b hb
          split at hp
          · rename_i hc
            obtain ⟨hg, hv, hle, hall⟩ := hc
            cases hp
            have ry : Rel h φ w (ρc y) (.own β gn 0 len) := hy ▸ hρ y
            obtain ⟨ad, cap, b', hval, hb', hg2, hlc, hcm, had, hn, hvv⟩ := ry.own_inv
            rw [hb] at hb'
            cases hb'
            obtain ⟨rfl, _⟩ := hvv hg.symm hv
            obtain ⟨cur, hw, hsz, hl, hr⟩ := i.blk β b hb hv
            obtain ⟨w', q1, q2, q3, q4, q5, q6, m, q7⟩ := run_convert_mark (P := P) w s e (φ β).1 len cap cur b.elem (und_slice g hs).1 (und_int g hee) hw
            obtain ⟨i', e'⟩ := mark_pic i hb hv q2 q3 q4 q5 q6 (fun k j => by
              by_cases hk : k = (φ β).1
              · subst hk
                rw [cell_of_row _ _ _ _ _ _ q7, cell_of_row w _ _ cur _ _ hw]
              · exact World.cell?_of_block (q6 k hk))
            refine ⟨_, .slice (some ⟨(φ β).1, 0, none⟩) len cap, w', φ, (by simp only [execOp, hval, Sem.run_bind, q1, Result.andThen_ok, Sem.run_pure]), .inl rfl, i', e', .pure ?_⟩
            have hlt : (φ β).1 < w'.heap.size := (Array.getElem?_eq_some_iff.1 q7).1
            refine .vec (φ β).1 0 len cap _ (cur.toList.take len) (fun m hm => ⟨hlt, fun γ c hγ hcv he => ?_⟩) hlc (by simp; omega) (fun j u hu => ?_) (fun j u z hu hz => ?_)
            · rcases get_set_dead hb hγ with ⟨_, rfl⟩ | ⟨hne, hγ'⟩
              · cases hcv
              · exact absurd (i.inj γ β c b hγ' hb hcv hv he) hne
            · rw [List.getElem?_take] at hu
              split at hu
              · rename_i hj
                have hu' : cur[j]? = some u := by simpa using hu
                have hjc : j < b.cells.length := by omega
                refine ⟨?_, (hr j u b.cells[j] hu' (List.getElem?_eq_getElem hjc)).1⟩
                rw [Nat.zero_add, cell_of_row w' _ _ cur _ _ q7]
                exact hu'
              · cases hu
            · rw [List.getElem?_take] at hu hz
              split at hu
              · rename_i hj
                rw [if_pos hj] at hz
                have hz' := List.all_eq_true.1 hall z (List.mem_of_getElem? hz)
                have hrel := (hr j u z (by simpa using hu) hz).2
                cases z with
                | int k n =>
                  have := hrel.int_inv
                  subst this
                  exact .int _ _
                | _ => cases hz'
              · cases hu
          · cases hp
        · cases hp
      · cases hp
    · cases hp
  · rename_i c
    obtain ⟨callee, args, argTypes⟩ := c
    split at hp
    · rename_i hc
      simp only at hc
      subst hc
      split at hp
      · rename_i b y t u ha ht
        simp only at ha ht
        have ha' : args = #[b, y] := by cases args; simpa using ha
        have ht' : argTypes = #[t, u] := by cases argTypes; simpa using ht
        subst ha' ht'
        split at hp
        · rename_i e hu
          split at hp
          · rename_i htu
            subst htu
            obtain ⟨v, w', φ', h1, h2, h3, h4⟩ := appendA_ok (ty := type) i g hu (hρ b) (hρ y) hp
            exact ⟨_, v, w', φ', by simp [execOp, resolve, invoke, builtin, h1], .inl rfl, h2, h3, h4⟩
          · cases hp
        · cases hp
      · cases hp
    · cases hp
  · cases hp

end
end Go.Ab
