/-
  A NEW BLOCK MAY BE LAID WHERE THE PICTURE HAS KEPT A PLACE FOR IT. Conditions: none; this text proves nothing about a program by itself.
-/
import Derived.Test.YtfcbamfgejfleaaDoorAbsLoopD
namespace Go.Ab
section
variable {P : Program} {C : Cfg} {G : Nat → AV} {B : Nat} {h : Heap} {φ φ' : Map} {w w' : World}

/-- The block 'blk' at the place 'β'. -/
def laid (h : Heap) (β : Nat) (b blk : Blk) : Heap := h.set β { blk with gen := b.gen + 1 }
def laidMap (h : Heap) (φ' : Map) (β : Nat) : Map := fun γ => if γ = β then φ' h.length else φ' γ

theorem look_laid {β : Nat} {b blk : Blk} (hb : h[β]? = some b) {γ : Nat} {c : Blk} (hc : (laid h β b blk)[γ]? = some c) : (γ ≠ β ∧ h[γ]? = some c) ∨ (γ = β ∧ c = { blk with gen := b.gen + 1 }) := by
  have hl := (List.getElem?_eq_some_iff.1 hb).1
  unfold laid at hc
  by_cases e : γ = β
  · subst e
    rw [List.getElem?_set_self hl] at hc
    exact .inr ⟨rfl, (Option.some.inj hc).symm⟩
  · rw [List.getElem?_set_ne (Ne.symm e)] at hc
    exact .inl ⟨e, hc⟩

theorem look_new {blk : Blk} {γ : Nat} {c : Blk} (hc : h[γ]? = some c) : (h ++ [blk])[γ]? = some c := by
  rw [List.getElem?_append_left (List.getElem?_eq_some_iff.1 hc).1]
  exact hc

theorem free_laid {β : Nat} {b blk : Blk} (hb : h[β]? = some b) (hv : blk.virt = false) {k : Nat} (hk : Free (h ++ [blk]) φ' w' k) : Free (laid h β b blk) (laidMap h φ' β) w' k := by
  refine ⟨hk.1, fun γ c hc hcv => ?_⟩
  rcases look_laid hb hc with ⟨e, hc'⟩ | ⟨rfl, rfl⟩
  · simp only [laidMap, e, if_false]
    exact hk.2 γ c (look_new hc') hcv
  · simp only [laidMap, if_true]
    exact hk.2 h.length blk (by simp) hv
theorem stable_laid {β : Nat} {b blk : Blk} (hb : h[β]? = some b) (hv : blk.virt = false) {k j : Nat} (hk : Stable (h ++ [blk]) φ' w' k j) : Stable (laid h β b blk) (laidMap h φ' β) w' k j := by
  refine ⟨hk.1, fun γ c hc hcv => ?_⟩
  rcases look_laid hb hc with ⟨e, hc'⟩ | ⟨rfl, rfl⟩
  · simp only [laidMap, e, if_false]
    exact hk.2 γ c (look_new hc') hcv
  · simp only [laidMap, if_true]
    exact hk.2 h.length blk (by simp) hv

theorem rel_laid {β : Nat} {b blk : Blk} (hb : h[β]? = some b) (hbv : b.virt = true) (hv : blk.virt = false) {v : Value} {x : AV} (r : Rel (h ++ [blk]) φ' w' v x) : Refs h.length x → Rel (laid h β b blk) (laidMap h φ' β) w' v x := by
  have hl := (List.getElem?_eq_some_iff.1 hb).1
  have at_ : (laid h β b blk)[β]? = some { blk with gen := b.gen + 1 } := by unfold laid; rw [List.getElem?_set_self hl]
  have ne_ : ∀ {γ : Nat} {c : Blk}, γ ≠ β → γ < h.length → (h ++ [blk])[γ]? = some c → (laid h β b blk)[γ]? = some c := by
    intro γ c e hγ hc
    unfold laid
    rw [List.getElem?_set_ne (Ne.symm e)]
    rw [List.getElem?_append_left hγ] at hc
    exact hc
  induction r with
  | pure hp => exact fun _ => .pure (hp.mono fun k j hk => ⟨rfl, stable_laid hb hv hk⟩)
  | ptr γ g off bl c hc hg hcv =>
    intro hx
    have hγ : γ < h.length := by cases hx; assumption
    by_cases e : γ = β
    · subst e
      have hcb : c = b := by
        rw [List.getElem?_append_left hγ, hb] at hc
        exact (Option.some.inj hc).symm
      subst hcb
      exact .ptr γ g off bl _ at_ (by simp only; omega) (fun he => by simp only at he; omega)
    · exact .ptr γ g off bl c (ne_ e hγ hc) hg (fun h1 h2 => by simp only [laidMap, e, if_false]; exact hcv h1 h2)
  | own γ g off len cap ad c hc hg hlc hcm had hn hcv =>
    intro hx
    have hγ : γ < h.length := by cases hx; assumption
    by_cases e : γ = β
    · subst e
      have hcb : c = b := by
        rw [List.getElem?_append_left hγ, hb] at hc
        exact (Option.some.inj hc).symm
      subst hcb
      exact .own γ g off len cap ad _ at_ (by simp only; omega) hlc hcm had (fun he => by simp only at he; omega) (fun he => by simp only at he; omega)
    · exact .own γ g off len cap ad c (ne_ e hγ hc) hg hlc hcm had hn (fun h1 h2 => by simp only [laidMap, e, if_false]; exact hcv h1 h2)
  | fn f a c xs ys ha hc _ _ iha ihc =>
    intro hx
    cases hx with
    | fn _ _ _ h1 h2 => exact .fn f a c xs ys ha hc (fun j v x k1 k2 => iha j v x k1 k2 (h1 x (List.mem_of_getElem? k2))) (fun j v x k1 k2 => ihc j v x k1 k2 (h2 x (List.mem_of_getElem? k2)))
  | iface t v x _ ih =>
    intro hx
    cases hx with
    | iface _ _ h1 => exact .iface t v x (ih h1)
  | agg a xs ha h1 _ ih =>
    intro hx
    cases hx with
    | agg _ h2 => exact .agg a xs ha h1 fun j v x k1 k2 => ih j v x k1 k2 (h2 x (List.mem_of_getElem? k2))
  | tup a xs ha _ ih =>
    intro hx
    cases hx with
    | tup _ h2 => exact .tup a xs ha fun j v x k1 k2 => ih j v x k1 k2 (h2 x (List.mem_of_getElem? k2))

theorem moveLast {β : Nat} {b blk : Blk} (i0 : Pic G B h φ w) (i : Pic G B (h ++ [blk]) φ' w') (e : Ev h φ w (h ++ [blk]) φ' w') (hb : h[β]? = some b) (hbv : b.virt = true) (hv : blk.virt = false) (hc : ∀ x ∈ blk.cells, Refs h.length x) :
    Pic G B (laid h β b blk) (laidMap h φ' β) w' ∧ Ev h φ w (laid h β b blk) (laidMap h φ' β) w' := by
  have hnew : (h ++ [blk])[h.length]? = some blk := by simp
  have ev : Ev h φ w (laid h β b blk) (laidMap h φ' β) w' := by
    refine ⟨e.os, e.tape, e.output, e.size, fun k hk => ⟨(e.keep k hk).1, free_laid hb hv (e.keep k hk).2⟩, fun k j hk => ⟨(e.cells k j hk).1, stable_laid hb hv (e.cells k j hk).2⟩, by simp [laid], fun γ c c' h1 h2 => ?_⟩
    rcases look_laid hb h2 with ⟨hne, h2'⟩ | ⟨rfl, rfl⟩
    · rw [h1] at h2'
      cases h2'
      have := e.gens γ c c h1 (look_new h1)
      refine ⟨Nat.le_refl _, fun _ => ⟨?_, rfl, rfl⟩⟩
      simp only [laidMap, hne, if_false]
      exact (this.2 rfl).1
    · rw [hb] at h1
      cases h1
      exact ⟨by simp only; omega, fun he => by simp only at he; omega⟩
  refine ⟨⟨fun γ c hγ hcv => ?_, fun γ γ' c c' h1 h2 v1 v2 he => ?_, fun γ c hγ hcv => ?_, fun γ c hγ hcv => ?_, i.room, fun g => (i.glob g).mono fun k j hk => ⟨rfl, stable_laid hb hv hk⟩⟩, ev⟩
  · rcases look_laid hb hγ with ⟨hne, hγ'⟩ | ⟨rfl, rfl⟩
    · obtain ⟨cur0, _, _, k3, k4⟩ := i0.blk γ c hγ' hcv
      obtain ⟨cur, q1, q2, q3, q4⟩ := i.blk γ c (look_new hγ') hcv
      simp only [laidMap, hne, if_false]
      refine ⟨cur, q1, q2, q3, fun j v x a1 a2 => ⟨(q4 j v x a1 a2).1, ?_⟩⟩
      have hj : j < cur0.size := Nat.lt_of_lt_of_le (List.getElem?_eq_some_iff.1 a2).1 k3
      exact rel_laid hb hbv hv (q4 j v x a1 a2).2 (Refs.of_rel (k4 j cur0[j] x (Array.getElem?_eq_getElem hj) a2).2)
    · obtain ⟨cur, q1, q2, q3, q4⟩ := i.blk h.length blk hnew hv
      simp only [laidMap, if_true]
      exact ⟨cur, q1, q2, q3, fun j v x a1 a2 => ⟨(q4 j v x a1 a2).1, rel_laid hb hbv hv (q4 j v x a1 a2).2 (hc x (List.mem_of_getElem? a2))⟩⟩
  · rcases look_laid hb h1 with ⟨n1, k1⟩ | ⟨rfl, rfl⟩ <;> rcases look_laid hb h2 with ⟨n2, k2⟩ | ⟨rfl, rfl⟩
    · simp only [laidMap, n1, n2, if_false] at he
      exact i.inj γ γ' c c' (look_new k1) (look_new k2) v1 v2 he
    · simp only [laidMap, n1, if_false, if_true] at he
      have := i.inj γ h.length c blk (look_new k1) hnew v1 hv he
      have := (List.getElem?_eq_some_iff.1 k1).1
      omega
    · simp only [laidMap, n2, if_false, if_true] at he
      have := i.inj h.length γ' blk c' hnew (look_new k2) hv v2 he
      have := (List.getElem?_eq_some_iff.1 k2).1
      omega
    · rfl
  · rcases look_laid hb hγ with ⟨hne, hγ'⟩ | ⟨rfl, rfl⟩
    · simp only [laidMap, hne, if_false]
      exact i.base γ c (look_new hγ') hcv
    · simp only [laidMap, if_true]
      exact i.base h.length blk hnew hv
  · rcases look_laid hb hγ with ⟨hne, hγ'⟩ | ⟨rfl, rfl⟩
    · exact i.virt γ c (look_new hγ') hcv
    · simp only at hcv
      rw [hv] at hcv
      cases hcv

/-- An operation that makes one block: whether a pointer or a slice is handed back; how long the slice is; the block. -/
def mkA (C : Cfg) (ρ : Operand → AV) (o : Op) : Option (Bool × Nat × Blk) :=
  match o with
  | .alloc t => match C.virt t with
    | [] => if (C.ut t).known = true ∧ (C.ti t).zero.length = C.sz t then some (true, 0, ⟨0, false, t, C.sz t, (C.ti t).zero, 0⟩) else none
    | _ => none
  | .box t x => match C.virt t with
    | [] => if (ρ x).storable = true ∧ (ρ x).cellsOf.length = C.sz t then some (true, 0, ⟨0, false, t, C.sz t, (ρ x).cellsOf, 0⟩) else none
    | _ => none
  | .buildSlice t len parts => match C.ut t with
    | .slice e => if len * C.sz e ≤ 16777216 ∧ 0 < C.sz e then (match fillA (fun i => if i < len then some (i * C.sz e, C.sz e) else none) ((List.replicate len (C.ti e).zero).flatten) (parts.toList.map fun p => (p.1, ρ p.2)) with
        | some cells => if cells.length = len * C.sz e ∧ len ≤ maxLen then some (false, len, ⟨0, false, e, C.sz e, cells, 0⟩) else none
        | none => none) else none
    | _ => none
  | .makeSlice t l c => match C.ut t, ρ l, ρ c with
    | .slice e, .int _ n, .int _ m => if n = m ∧ 0 ≤ n ∧ (C.ti e).bytes * n ≤ 281474976710656 ∧ n ≤ (maxLen : Int) ∧ 0 < C.sz e ∧ (C.ti e).zero.length = C.sz e then
        some (false, n.toNat, ⟨0, false, e, C.sz e, (List.replicate n.toNat (C.ti e).zero).flatten, 0⟩) else none
    | _, _, _ => none
  | _ => none

theorem mkA_eff {ρ : Operand → AV} {o : Op} {p : Bool} {n : Nat} {blk : Blk} (hm : mkA C ρ o = some (p, n, blk)) : effA C ρ h o = some (if p then .ptr h.length 0 0 else .own h.length 0 0 n, h ++ [blk]) ∧ blk.virt = false ∧ blk.gen = 0 := by
  unfold mkA at hm
  split at hm
  · rename_i t
    split at hm
    · rename_i hv
      split at hm
      · rename_i hc
        cases hm
        simp only [effA, hc.1, if_true, newVarA, hc.2, hv, virts, and_self]
      · cases hm
    · cases hm
  · rename_i t x
    split at hm
    · rename_i hv
      split at hm
      · rename_i hc
        cases hm
        simp only [effA, hc.1, if_true, newVarA, hc.2, hv, virts, and_self]
      · cases hm
    · cases hm
  · rename_i t len parts
    split at hm
    · rename_i e hu
      split at hm
      · rename_i hc
        split at hm
        · rename_i cells hf
          split at hm
          · rename_i hl
            cases hm
            refine ⟨?_, rfl, rfl⟩
            simp only [effA, hu, if_pos hc, hf, if_pos hl, Bool.false_eq_true, if_false]
          · cases hm
        · cases hm
      · cases hm
    · cases hm
  · rename_i t l c
    split at hm
    · rename_i e k n k' m hu hl hc
      split at hm
      · rename_i hb
        cases hm
        refine ⟨?_, rfl, rfl⟩
        simp only [effA, hu, hl, hc, if_pos hb, Bool.false_eq_true, if_false]
      · cases hm
    · cases hm
  · cases hm

/-- Such an operation, with the block laid at a place that was kept. -/
def atA (C : Cfg) (ρ : Operand → AV) (h : Heap) (β : Nat) (o : Op) : Option (AV × Heap) :=
  match h[β]? with
  | some b => match b.virt with
    | true => match mkA C ρ o with
      | some (p, n, blk) => match blk.cells.all (refsOk h.length 4) with
        | true => some (if p then .ptr β (b.gen + 1) 0 else .own β (b.gen + 1) 0 n, laid h β b blk)
        | false => none
      | none => none
    | false => none
  | none => none

theorem refsOk_refs {n : Nat} : ∀ (d : Nat) (x : AV), refsOk n d x = true → Refs n x
  | 0, x, hx => by simp [refsOk] at hx
  | d + 1, x, hx => by
    cases x with
    | ptr β g off => simp only [refsOk, decide_eq_true_eq] at hx; exact .ptr _ _ _ hx
    | own β g off l => simp only [refsOk, decide_eq_true_eq] at hx; exact .own _ _ _ _ hx
    | fn f a c =>
      simp only [refsOk, Bool.and_eq_true] at hx
      exact .fn f _ _ (fun y hy => refsOk_refs d y (List.all_eq_true.1 hx.1 y hy)) (fun y hy => refsOk_refs d y (List.all_eq_true.1 hx.2 y hy))
    | iface t v => exact .iface t _ (refsOk_refs d v (by simpa [refsOk] using hx))
    | agg xs => exact .agg _ fun y hy => refsOk_refs d y (List.all_eq_true.1 (by simpa only [refsOk] using hx) y hy)
    | tup xs => exact .tup _ fun y hy => refsOk_refs d y (List.all_eq_true.1 (by simpa only [refsOk] using hx) y hy)
    | any => exact .any
    | bool b => exact .bool _
    | int k n => exact .int _ _
    | str s => exact .str _
    | nilp => exact .nilp
    | nils => exact .nils
    | nilf => exact .nilf
    | nili => exact .nili
    | vec n cs => exact .vec _ _
    | cptr cs o => exact .cptr _ _

theorem atA_ok (i : Pic G B h φ w) (g : Good P C) {ρc : Operand → Value} {ρ : Operand → AV} (hρ : ∀ x, Rel h φ w (ρc x) (ρ x)) {o : Oper} {β : Nat} {y : AV} {h2 : Heap} (he : atA C ρ h β o.op = some (y, h2)) : OkX P G B h φ w (execOp ρc o) y h2 := by
  unfold atA at he
  split at he
  · rename_i b hb
    split at he
    · rename_i hbv
      split at he
      · rename_i p n blk hm
        split at he
        · rename_i hcells
          cases he
          obtain ⟨hf, hv, hgen⟩ := mkA_eff (h := h) hm
          obtain ⟨nx, v, w', φ', q1, q2, q3, q4, q5⟩ := effA_ok i g hρ hf
          obtain ⟨m1, m2⟩ := moveLast i q3 q4 hb hbv hv (fun z hz => refsOk_refs 4 z (List.all_eq_true.1 hcells z hz))
          have hl := (List.getElem?_eq_some_iff.1 hb).1
          have at_ : (laid h β b blk)[β]? = some { blk with gen := b.gen + 1 } := by unfold laid; rw [List.getElem?_set_self hl]
          have hnew : (h ++ [blk])[h.length]? = some blk := by simp
          cases p with
          | true =>
            rw [if_pos rfl] at q5
            rw [if_pos rfl]
            obtain ⟨bl, c, rfl, hc, hg2, hcv⟩ := q5.ptr_inv
            rw [hnew] at hc
            cases hc
            refine ⟨nx, _, w', laidMap h φ' β, q1, q2, m1, m2, .ptr β _ 0 bl _ at_ (Nat.le_refl _) (fun _ _ => ?_)⟩
            simp only [laidMap, if_true]
            exact hcv hgen.symm hv
          | false =>
            rw [if_neg (by decide)] at q5
            rw [if_neg (by decide)]
            obtain ⟨ad, cap, c, rfl, hc, hg2, hlc, hcm, had, hn, hcv⟩ := q5.own_inv
            rw [hnew] at hc
            cases hc
            refine ⟨nx, _, w', laidMap h φ' β, q1, q2, m1, m2, .own β _ 0 _ cap ad _ at_ (Nat.le_refl _) hlc hcm had (fun _ h0 => by simp only at h0; rw [hv] at h0; cases h0) (fun _ _ => ?_)⟩
            simp only [laidMap, if_true]
            have hq := hcv hgen.symm hv
            exact ⟨hq.1, fun _ => hq.2 rfl⟩
        · cases he
      · cases he
    · cases he
  · cases he
end
end Go.Ab
