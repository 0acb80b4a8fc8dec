/-
  MEMORY: WHAT AN OPERATION READS OR WRITES IN THE PICTURE, IT READS OR WRITES IN THE MODEL. Conditions: 'Good': the table of types is the program's.
-/
import Derived.Test.YtfcbamfgejfleaaDoorAbsPureE
namespace Go.Ab
section
variable {P : Program} {C : Cfg} {G : Nat → AV} {B : Nat} {h : Heap} {φ : Map} {w : World}

/-- A block of the picture takes on new cells (in its place, or in a new one). -/
theorem set_block (i : Pic G B h φ w) {w' : World} {β : Nat} {b b' : Blk} {k n : Nat} {cur : Array Value} (hb : h[β]? = some b)
    (hos : w'.os = w.os) (ht : w'.tape = w.tape) (hout : w'.output = w.output) (hsz : w.heap.size ≤ w'.heap.size)
    (hoth : ∀ j, j < w.heap.size → (b.virt = false → j ≠ (φ β).1) → w'.heap[j]? = w.heap[j]?)
    (hk : (b.virt = false ∧ k = (φ β).1) ∨ w.heap.size ≤ k) (hw : w'.heap[k]? = some (.cells cur b'.elem (0, 0))) (hn : cur.size = n) (hl : b'.cells.length ≤ cur.size)
    (hr : ∀ (j : Nat) v x, cur[j]? = some v → b'.cells[j]? = some x → v.oneCell' = true ∧ Rel h φ w v x) (hv' : b'.virt = false)
    (hgen : b.gen ≤ b'.gen) (hsame : b.gen = b'.gen → (k, n) = φ β ∧ b.virt = false ∧ b'.esz = b.esz)
    (hfz : b.virt = false → ∀ j, j < b.frz → w'.cell? ⟨(φ β).1, j, none⟩ = w.cell? ⟨(φ β).1, j, none⟩) (hfm : b.virt = false → b.frz ≤ b'.frz) :
    Pic G B (h.set β b') (fun γ => if γ = β then (k, n) else φ γ) w' ∧ Ev h φ w (h.set β b') (fun γ => if γ = β then (k, n) else φ γ) w' := by
  have hlt : β < h.length := (List.getElem?_eq_some_iff.1 hb).1
  have look : ∀ {γ : Nat} {c : Blk}, (h.set β b')[γ]? = some c → (γ ≠ β ∧ h[γ]? = some c) ∨ (γ = β ∧ c = b') := by
    intro γ c hc
    by_cases hγ : γ = β
    · subst hγ
      rw [List.getElem?_set_self hlt] at hc
      exact .inr ⟨rfl, (Option.some.inj hc).symm⟩
    · rw [List.getElem?_set_ne (Ne.symm hγ)] at hc
      exact .inl ⟨hγ, hc⟩
  have hkB : B ≤ k := by
    rcases hk with ⟨h1, h2⟩ | h1
    · rw [h2]; exact i.base β b hb h1
    · exact Nat.le_trans i.room h1
  have other : ∀ {γ : Nat} {c : Blk}, γ ≠ β → h[γ]? = some c → c.virt = false → (φ γ).1 ≠ k ∧ w'.heap[(φ γ).1]? = w.heap[(φ γ).1]? := by
    intro γ c hγ hc hcv
    have hl := i.lt hc hcv
    refine ⟨?_, hoth _ hl fun hbv he => hγ (i.inj γ β c b hc hb hcv hbv he)⟩
    rcases hk with ⟨h1, h2⟩ | h1
    · rw [h2]
      exact fun he => hγ (i.inj γ β c b hc hb hcv h1 he)
    · omega
  have ev : Ev h φ w (h.set β b') (fun γ => if γ = β then (k, n) else φ γ) w' := by
    refine ⟨hos, ht, hout, hsz, fun j hj => ?_, fun j m hj => ⟨?_, Nat.lt_of_lt_of_le hj.1 hsz, fun γ c hc hcv he => ?_⟩, by simp, fun γ c c' h1 h2 => ?_⟩
    · have hne : b.virt = false → j ≠ (φ β).1 := fun hbv he => hj.2 β b hb hbv he.symm
      refine ⟨hoth j hj.1 hne, Nat.lt_of_lt_of_le hj.1 hsz, fun γ c hc hcv => ?_⟩
      rcases look hc with ⟨hγ, hc'⟩ | ⟨rfl, rfl⟩
      · simp only [hγ, if_false]
        exact hj.2 γ c hc' hcv
      · simp only [if_true]
        rcases hk with ⟨h1, h2⟩ | h1
        · rw [h2]; exact fun he => hne h1 he.symm
        · have := hj.1; omega
    · by_cases hb1 : b.virt = false ∧ j = (φ β).1
      · obtain ⟨hbv, rfl⟩ := hb1
        exact hfz hbv m (hj.2 β b hb hbv rfl)
      · exact World.cell?_of_block (hoth j hj.1 fun hbv he => hb1 ⟨hbv, he⟩)
    · rcases look hc with ⟨hγ, hc'⟩ | ⟨rfl, rfl⟩
      · simp only [hγ, if_false] at he
        exact hj.2 γ c hc' hcv he
      · simp only [if_true] at he
        rcases hk with ⟨h1, h2⟩ | h1
        · exact Nat.lt_of_lt_of_le (hj.2 γ b hb h1 (by rw [← h2]; exact he)) (hfm h1)
        · have := hj.1; omega
    · rcases look h2 with ⟨hγ, hc'⟩ | ⟨rfl, rfl⟩
      · rw [h1] at hc'
        cases hc'
        simp [hγ]
      · rw [hb] at h1
        cases h1
        refine ⟨hgen, fun he => ?_⟩
        obtain ⟨h3, h4, h5⟩ := hsame he
        simp only [if_true]
        exact ⟨h3, by rw [hv', h4], h5⟩
  refine ⟨⟨fun γ c hc hcv => ?_, fun γ γ' c c' hc hc' hcv hcv' he => ?_, fun γ c hc hcv => ?_, fun γ c hc hcv => ?_, Nat.le_trans i.room hsz, fun g => ev.prel (i.glob g)⟩, ev⟩
  · rcases look hc with ⟨hγ, hc'⟩ | ⟨rfl, rfl⟩
    · simp only [hγ, if_false]
      obtain ⟨cr, h1, h2, h3, h4⟩ := i.blk γ c hc' hcv
      exact ⟨cr, (other hγ hc' hcv).2.trans h1, h2, h3, fun j v x a d => ⟨(h4 j v x a d).1, ev.rel (h4 j v x a d).2⟩⟩
    · simp only [if_true]
      exact ⟨cur, hw, hn, hl, fun j v x a d => ⟨(hr j v x a d).1, ev.rel (hr j v x a d).2⟩⟩
  · rcases look hc with ⟨h1, n1⟩ | ⟨rfl, rfl⟩ <;> rcases look hc' with ⟨h2, n2⟩ | ⟨rfl, rfl⟩
    · simp only [h1, h2, if_false] at he
      exact i.inj γ γ' c c' n1 n2 hcv hcv' he
    · simp only [h1, if_false, if_true] at he
      exact absurd he (other h1 n1 hcv).1
    · simp only [h2, if_false, if_true] at he
      exact absurd he.symm (other h2 n2 hcv').1
    · rfl
  · rcases look hc with ⟨hγ, hc'⟩ | ⟨rfl, rfl⟩
    · simp only [hγ, if_false]
      exact i.base γ c hc' hcv
    · simp only [if_true]
      exact hkB
  · rcases look hc with ⟨hγ, hc'⟩ | ⟨rfl, rfl⟩
    · exact i.virt γ c hc' hcv
    · rw [hv'] at hcv; cases hcv

/-- Cells that are read. -/
theorem readAt_ok (i : Pic G B h φ w) {u : Value} {p : AV} {n : Nat} {cells : List AV} (ru : Rel h φ w u p) (hx : readAt h p n = some cells) :
    ∃ bl o vs, u = .pointer (some ⟨bl, o, none⟩) ∧ (∀ (j : Nat) v, vs[j]? = some v → w.cell? ⟨bl, o + j, none⟩ = some v) ∧ CellsRel h φ w vs cells ∧ cells.length = n := by
  unfold readAt at hx
  split at hx
  · rename_i β g off
    split at hx
    · rename_i b hb
      split at hx
      · rename_i hc
        obtain ⟨h1, h2, h3⟩ := hc
        cases hx
        obtain ⟨bl, b', rfl, hb', hg, hv⟩ := ru.ptr_inv
        rw [hb] at hb'
        cases hb'
        obtain rfl := hv h1.symm h2
        obtain ⟨cur, hw, hs, hl, hr⟩ := i.blk β b hb h2
        have hlc : (cur.toList.drop off).length ≥ n := by simp; omega
        refine ⟨_, off, (cur.toList.drop off).take n, rfl, fun j v hv => ?_, ⟨by simp; omega, fun j v x hv hx => ?_⟩, by simp; omega⟩
        · rw [List.getElem?_take, List.getElem?_drop] at hv
          split at hv
          · rw [cell_of_row w _ _ cur _ _ hw]
            simpa using hv
          · cases hv
        · rw [List.getElem?_take, List.getElem?_drop] at hv hx
          split at hv
          · rename_i hlt
            rw [if_pos hlt] at hx
            exact hr _ v x (by simpa using hv) hx
          · cases hv
      · cases hx
    · cases hx
  · rename_i cs off
    split at hx
    · rename_i hc
      cases hx
      have hp := ru.cptr_inv
      cases hp with
      | cptr b o _ _ vs hS hlen hcv hr =>
        refine ⟨b, o + off, (vs.drop off).take n, rfl, fun j v hv => ?_, ⟨by simp; omega, fun j v x hv hx => ?_⟩, by simp; omega⟩
        · rw [List.getElem?_take, List.getElem?_drop] at hv
          split at hv
          · rw [Nat.add_assoc]
            exact (hcv _ v hv).1
          · cases hv
        · rw [List.getElem?_take, List.getElem?_drop] at hv hx
          split at hv
          · rename_i hlt
            rw [if_pos hlt] at hx
            exact ⟨(hcv _ v hv).2, .pure (hr _ v x hv hx)⟩
          · cases hv
    · cases hx
  · cases hx

/-- The cells of a slice. -/
theorem rd_ok (i : Pic G B h φ w) {u : Value} {p : AV} {esz m : Nat} {cells : List AV} (ru : Rel h φ w u p) (hx : rd h esz p = some cells) (hm : lenOf p = some m) :
    ∃ ad cap vs, u = .slice ad m cap ∧ CellsRel h φ w vs cells ∧ (∀ a, ad = some a → ∀ (j : Nat) v, vs[j]? = some v → w.cell? (a.add j) = some v) ∧ (ad = none → vs = []) := by
  unfold rd at hx
  split at hx
  · cases ru.nils_inv; cases hx; cases hm
    exact ⟨none, 0, [], rfl, ⟨rfl, fun j v x hv => by simp at hv⟩, fun a ha => by (cases ha), fun _ => rfl⟩
  · cases hx; cases hm
    have hp := ru.vec_inv
    cases hp with
    | vec0 a c => exact ⟨a, c, [], rfl, ⟨rfl, fun j v x hv => by simp at hv⟩, fun a ha j v hv => by simp at hv, fun _ => rfl⟩
    | vec b o n c _ vs hS hnc hlen hc hr =>
      refine ⟨_, c, vs, rfl, ⟨hlen, fun j v x hv hx => ⟨(hc j v hv).2, .pure (hr j v x hv hx)⟩⟩, fun a ha j v hv => ?_, fun h0 => by cases h0⟩
      cases ha
      rw [Addr.add_lit]
      exact (hc j v hv).1
  · rename_i β g off len
    cases hm
    obtain ⟨ad, cap, bk, rfl, hbk, hg, hlc, hcm, had, hn, hv⟩ := ru.own_inv
    rw [hbk] at hx
    simp only at hx
    split at hx
    · rename_i hgen
      split at hx
      · rename_i hvirt
        split at hx
        · rename_i hl0
          cases hx
          subst hl0
          obtain ⟨rfl, rfl⟩ := hn hgen.symm hvirt
          exact ⟨none, 0, [], rfl, ⟨rfl, fun j v x hv => by simp at hv⟩, fun a ha => by (cases ha), fun _ => rfl⟩
        · cases hx
      · rename_i hvirt
        split at hx
        · rename_i hc
          cases hx
          obtain ⟨rfl, _⟩ := hv hgen.symm (by simpa using hvirt)
          obtain ⟨cur, hw, hs, hl, hr⟩ := i.blk β bk hbk (by simpa using hvirt)
          refine ⟨_, cap, (cur.toList.drop off).take (m * esz), rfl, ⟨by simp; omega, fun j v x hv hx => ?_⟩, fun a ha j v hv => ?_, fun h0 => by cases h0⟩
          · rw [List.getElem?_take, List.getElem?_drop] at hv hx
            split at hv
            · rename_i hlt
              rw [if_pos hlt] at hx
              exact hr _ v x (by simpa using hv) hx
            · cases hv
          · cases ha
            rw [Addr.add_lit, cell_of_row w _ _ cur _ _ hw]
            rw [List.getElem?_take, List.getElem?_drop] at hv
            split at hv
            · simpa using hv
            · cases hv
        · cases hx
    · cases hx
  · cases hx

/-- An operation of the model that may turn the world: its value is the picture's, and the world is as the picture says. -/
def OkE (P : Program) (G : Nat → AV) (B : Nat) (h : Heap) (φ : Map) (w : World) (s : Sem Value) (x : AV) (h' : Heap) : Prop :=
  ∃ v w' φ', s.run P w = .ok v w' ∧ Pic G B h' φ' w' ∧ Ev h φ w h' φ' w' ∧ Rel h' φ' w' v x

theorem virts_ok : ∀ (offs : List Nat) (h h' : Heap) (cs cs' : List AV) (vs : List Value), Pic G B h φ w → CellsRel h φ w vs cs → virts C offs h cs = some (h', cs') →
    Pic G B h' φ w ∧ Ev h φ w h' φ w ∧ CellsRel h' φ w vs cs'
  | [], h, h', cs, cs', vs, i, c, hx => by
    simp only [virts, Option.some.injEq, Prod.mk.injEq] at hx
    obtain ⟨rfl, rfl⟩ := hx
    exact ⟨i, .refl _ _ _, c⟩
  | off :: rest, h, h', cs, cs', vs, i, c, hx => by
    simp only [virts] at hx
    split at hx
    · rename_i hn
      obtain ⟨i1, e1⟩ := push_virt i
      have hv : ∃ v, vs[off]? = some v := by
        have h1 := (List.getElem?_eq_some_iff.1 hn).1
        rw [← c.1] at h1
        exact ⟨_, List.getElem?_eq_getElem h1⟩
      obtain ⟨v, hv⟩ := hv
      have hnil := (c.2 off v _ hv hn).2.nils_inv
      subst hnil
      have c1 : CellsRel (h ++ [⟨0, true, 0, 0, [], 0⟩]) φ w vs (cs.set off (.own h.length 0 0 0)) := by
        refine ⟨by simp [c.1], fun j u x hu hx => ?_⟩
        by_cases hj : j = off
        · subst hj
          have hlt := (List.getElem?_eq_some_iff.1 hn).1
          rw [List.getElem?_set_self hlt] at hx
          cases hx
          rw [hv] at hu
          cases hu
          exact ⟨rfl, .own h.length 0 0 0 0 none ⟨0, true, 0, 0, [], 0⟩ (by simp) (Nat.le_refl _) (Nat.le_refl _) (Nat.zero_le _) (fun h0 => by omega) (fun _ _ => ⟨rfl, rfl⟩) (fun _ h0 => by cases h0)⟩
        · rw [List.getElem?_set_ne (Ne.symm hj)] at hx
          exact ⟨(c.2 j u x hu hx).1, e1.rel (c.2 j u x hu hx).2⟩
      obtain ⟨i2, e2, c2⟩ := virts_ok rest _ h' _ cs' vs i1 c1 hx
      exact ⟨i2, e1.trans e2, c2⟩
    · exact virts_ok rest h h' cs cs' vs i c hx
    · cases hx

theorem alloc_new (w : World) (o : Obj) : (w.alloc o).heap[w.heap.size]? = some o := heap_alloc_new w o

/-- A new row of cells. -/
theorem newRow_ok (i : Pic G B h φ w) {t esz n m : Nat} {cells : List AV} {cur : Array Value} (c : CellsRel h φ w cur.toList cells) :
    (newRow t cur).run P w = .ok ⟨w.heap.size, 0, none⟩ (w.alloc (.cells cur t)) ∧ ∃ φ', Pic G B (h ++ [⟨0, false, t, esz, cells, 0⟩]) φ' (w.alloc (.cells cur t)) ∧ Ev h φ w (h ++ [⟨0, false, t, esz, cells, 0⟩]) φ' (w.alloc (.cells cur t)) ∧
      Rel (h ++ [⟨0, false, t, esz, cells, 0⟩]) φ' (w.alloc (.cells cur t)) (.pointer (some ⟨w.heap.size, 0, none⟩)) (.ptr h.length 0 0) ∧
      (n ≤ m → m ≤ maxLen → m * esz = cur.size → Rel (h ++ [⟨0, false, t, esz, cells, 0⟩]) φ' (w.alloc (.cells cur t)) (.slice (some ⟨w.heap.size, 0, none⟩) n m) (.own h.length 0 0 n)) := by
  have hl : cells.length = cur.size := by have := c.1; simp at this; omega
  obtain ⟨i1, e1⟩ := push_block i (esz := esz) (cells := cells) (World.grownBy_alloc w (.cells cur t) none) w.heap.size (Nat.le_refl _) (alloc_new w _) (by omega) (fun j v x hv hx => c.2 j v x (by simpa using hv) hx)
  refine ⟨by simp [newRow], _, i1, e1, .ptr _ _ _ _ _ (by simp; rfl) (Nat.le_refl _) (fun _ _ => by simp), fun h1 h2 h3 => ?_⟩
  exact .own _ _ _ _ m _ ⟨0, false, t, esz, cells, 0⟩ (by simp) (Nat.le_refl _) h1 h2 (fun _ => ⟨_, rfl⟩) (fun _ h0 => by cases h0) (fun _ _ => by simp [h3])

theorem newVarA_ok (i : Pic G B h φ w) {t : TypeId} {cs : List AV} {x : AV} {h' : Heap} {cur : Array Value} (c : CellsRel h φ w cur.toList cs) (hx : newVarA C t h cs = some (x, h')) :
    OkE P G B h φ w (do pure (.pointer (some (← newRow t cur)))) x h' := by
  unfold newVarA at hx
  split at hx
  · split at hx
    · rename_i h1 cs1 hv
      cases hx
      obtain ⟨i1, e1, c1⟩ := virts_ok _ _ _ _ _ _ i c hv
      obtain ⟨hrun, φ', i2, e2, r2, _⟩ := newRow_ok (P := P) (t := t) (esz := C.sz t) (n := 0) (m := 0) i1 c1
      exact ⟨_, _, φ', by simp [hrun], i2, e1.trans e2, r2⟩
    · cases hx
  · cases hx

theorem flat_get (z : List AV) : ∀ (n j : Nat), (List.replicate n z).flatten[j]? = if j < n * z.length then z[j % z.length]? else none
  | 0, j => by simp
  | n + 1, j => by
    rw [List.replicate_succ, List.flatten_cons]
    by_cases hj : j < z.length
    · rw [List.getElem?_append_left hj, if_pos (by rw [Nat.succ_mul]; omega), Nat.mod_eq_of_lt hj]
    · rw [List.getElem?_append_right (by omega), flat_get z n (j - z.length)]
      have e : j % z.length = (j - z.length) % z.length := Nat.mod_eq_sub_mod (by omega)
      rw [e, Nat.succ_mul]
      by_cases h1 : j - z.length < n * z.length
      · rw [if_pos h1, if_pos (by omega)]
      · rw [if_neg h1, if_neg (by omega)]

theorem flat_len (z : List AV) (n : Nat) : (List.replicate n z).flatten.length = n * z.length := by simp

/-- Zero cells, over and over. -/
theorem zeros_rel {zc : Array Value} {z : List AV} {n : Nat} (c : CellsRel h φ w zc.toList z) : CellsRel h φ w ((Array.range (n * zc.size)).map (zc[· % zc.size]!)).toList (List.replicate n z).flatten := by
  have hz : zc.size = z.length := by have := c.1; simpa using this
  refine ⟨by simp [hz], fun j v x hv hx => ?_⟩
  rw [flat_get] at hx
  split at hx
  · rename_i hj
    have hpos : 0 < z.length := by
      rcases Nat.eq_zero_or_pos z.length with h0 | h0
      · rw [h0] at hj; omega
      · exact h0
    have hm : j % z.length < z.length := Nat.mod_lt _ hpos
    refine c.2 (j % z.length) v x ?_ hx
    simp only [Array.toList_map, List.getElem?_map, Array.getElem?_toList] at hv
    have hr : (Array.range (n * zc.size))[j]? = some j := by simp [hz, hj]
    rw [hr] at hv
    simp only [Option.map_some, Option.some.injEq] at hv
    rw [hz] at hv
    have hm' : j % z.length < zc.size := by omega
    rw [getElem!_pos zc _ hm'] at hv
    rw [← hv]
    simp [hm']
  · cases hx

end
end Go.Ab
