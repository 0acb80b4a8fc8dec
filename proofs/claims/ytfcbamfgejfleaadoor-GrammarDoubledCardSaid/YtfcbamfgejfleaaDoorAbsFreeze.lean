/-
  WHAT A CALL HAS MADE SO FAR IS NEVER WRITTEN AGAIN: it turns into plain values; and: a call with plain arguments, whatever heap its caller has. Conditions: none.
-/
import Derived.Test.YtfcbamfgejfleaaDoorAbsEval
namespace Go.Ab
section
variable {P : Program} {C : Cfg} {G : Nat → AV} {B : Nat} {h : Heap} {φ : Map} {w : World}

/-- The blocks from number 'n' on are given up. -/
def deadFrom (n : Nat) (h : Heap) : Heap := h.take n ++ (h.drop n).map deadB

theorem deadFrom_len (n : Nat) (h : Heap) : (deadFrom n h).length = h.length := by
  simp [deadFrom]
  omega

theorem look_dead {n β : Nat} {c : Blk} (hc : (deadFrom n h)[β]? = some c) : (β < n ∧ h[β]? = some c) ∨ (n ≤ β ∧ ∃ b, h[β]? = some b ∧ c = deadB b) := by
  unfold deadFrom at hc
  by_cases hb : β < n
  · left
    refine ⟨hb, ?_⟩
    by_cases hl : β < h.length
    · rw [List.getElem?_append_left (by simp; omega), List.getElem?_take, if_pos hb] at hc
      exact hc
    · rw [List.getElem?_eq_none (by simp; omega)] at hc
      cases hc
  · right
    refine ⟨by omega, ?_⟩
    by_cases hl : n ≤ h.length
    · rw [List.getElem?_append_right (by simp; omega)] at hc
      simp only [List.length_take, Nat.min_eq_left hl, List.getElem?_map, List.getElem?_drop] at hc
      rw [show n + (β - n) = β from by omega] at hc
      cases hx : h[β]? with
      | none => rw [hx] at hc; cases hc
      | some b => rw [hx] at hc; exact ⟨b, rfl, (Option.some.inj hc).symm⟩
    · rw [List.getElem?_eq_none (by simp; omega)] at hc
      cases hc

theorem dead_look {n β : Nat} {b : Blk} (hb : h[β]? = some b) : (deadFrom n h)[β]? = some (if β < n then b else deadB b) := by
  have hl := (List.getElem?_eq_some_iff.1 hb).1
  unfold deadFrom
  by_cases hn : β < n
  · rw [if_pos hn, List.getElem?_append_left (by simp; omega), List.getElem?_take, if_pos hn]
    exact hb
  · rw [if_neg hn, List.getElem?_append_right (by simp; omega)]
    have hl2 : n ≤ h.length := by omega
    simp only [List.length_take, Nat.min_eq_left hl2, List.getElem?_map, List.getElem?_drop]
    rw [show n + (β - n) = β from by omega, hb]
    rfl

theorem dead_pic (n : Nat) (i : Pic G B h φ w) : Pic G B (deadFrom n h) φ w ∧ Ev h φ w (deadFrom n h) φ w := by
  have ev : Ev h φ w (deadFrom n h) φ w := by
    refine ⟨rfl, rfl, rfl, Nat.le_refl _, fun k hk => ⟨rfl, hk.1, fun β b hb hv => ?_⟩, fun k j hk => ⟨rfl, hk.1, fun β b hb hv => ?_⟩, by rw [deadFrom_len]; exact Nat.le_refl _, fun β b b' h1 h2 => ?_⟩
    · rcases look_dead hb with ⟨_, h'⟩ | ⟨_, b', _, rfl⟩
      · exact hk.2 β b h' hv
      · cases hv
    · rcases look_dead hb with ⟨_, h'⟩ | ⟨_, b', _, rfl⟩
      · exact hk.2 β b h' hv
      · cases hv
    · rw [dead_look h1] at h2
      split at h2
      · cases h2
        exact ⟨Nat.le_refl _, fun _ => ⟨rfl, rfl, rfl⟩⟩
      · cases h2
        exact ⟨by simp [deadB], fun e => by simp [deadB] at e⟩
  refine ⟨⟨fun β b hb hv => ?_, fun β β' b b' hb hb' hv hv' he => ?_, fun β b hb hv => ?_, fun β b hb hv => ?_, i.room, fun g => ev.prel (i.glob g)⟩, ev⟩
  · rcases look_dead hb with ⟨_, h'⟩ | ⟨_, b', _, rfl⟩
    · obtain ⟨cur, h1, h2, h3, h4⟩ := i.blk β b h' hv
      exact ⟨cur, h1, h2, h3, fun j v x a d => ⟨(h4 j v x a d).1, ev.rel (h4 j v x a d).2⟩⟩
    · cases hv
  · rcases look_dead hb with ⟨_, h1⟩ | ⟨_, c, _, rfl⟩
    · rcases look_dead hb' with ⟨_, h2⟩ | ⟨_, c, _, rfl⟩
      · exact i.inj β β' b b' h1 h2 hv hv' he
      · cases hv'
    · cases hv
  · rcases look_dead hb with ⟨_, h'⟩ | ⟨_, b', _, rfl⟩
    · exact i.base β b h' hv
    · cases hv
  · rcases look_dead hb with ⟨_, h'⟩ | ⟨_, b', _, rfl⟩
    · exact i.virt β b h' hv
    · rfl

theorem stable_dead {n k j : Nat} (hk : Stable (h.take n) φ w k j) : Stable (deadFrom n h) φ w k j := by
  refine ⟨hk.1, fun β b hb hv => ?_⟩
  rcases look_dead hb with ⟨hn, h'⟩ | ⟨_, b', _, rfl⟩
  · exact hk.2 β b (get_take h' hn) hv
  · cases hv

/-- A value as a plain one: what it leads to from number 'n' on is never written again. -/
def frzS (n : Nat) (h : Heap) (x : AV) : Option AV :=
  match x with
  | .agg xs => (optMap (frzP n h 6) xs).map .agg
  | .tup xs => (optMap (frzP n h 6) xs).map .tup
  | .ptr β g off => match h[β]? with
    | some b => if b.gen = g ∧ b.virt = false ∧ n ≤ β then (optMap (frzP n h 6) b.cells).map (fun cs => .cptr cs off) else none
    | none => none
  | x => frzP n h 6 x

theorem frzS_rel (i : Pic G B h φ w) (n : Nat) {v : Value} {x y : AV} (hx : frzS n h x = some y) (r : Rel h φ w v x) : Rel (deadFrom n h) φ w v y := by
  have low : ∀ {v : Value} {x y : AV}, frzP n h 6 x = some y → Rel h φ w v x → PRel w (Stable (deadFrom n h) φ w) v y := fun h1 h2 => (frzP_rel i n 6 _ _ _ h1 h2).mono fun k j hk => ⟨rfl, stable_dead hk⟩
  unfold frzS at hx
  split at hx
  · rename_i xs
    obtain ⟨ys, hys, rfl⟩ := Option.map_eq_some_iff.1 hx
    obtain ⟨a, rfl, ha, h1, hr⟩ := r.agg_inv
    obtain ⟨hlen, hget⟩ := optMap_get hys
    refine .agg a ys (by rw [ha, hlen]) h1 fun j u z hu hz => ?_
    obtain ⟨x, hx1, hx2⟩ := hget j z hz
    exact .pure (low hx2 (hr j u x hu hx1))
  · rename_i xs
    obtain ⟨ys, hys, rfl⟩ := Option.map_eq_some_iff.1 hx
    obtain ⟨a, rfl, ha, hr⟩ := r.tup_inv
    obtain ⟨hlen, hget⟩ := optMap_get hys
    refine .tup a ys (by rw [ha, hlen]) fun j u z hu hz => ?_
    obtain ⟨x, hx1, hx2⟩ := hget j z hz
    exact .pure (low hx2 (hr j u x hu hx1))
  · rename_i β g off
    split at hx
    · rename_i b hb
      split at hx
      · rename_i hc
        obtain ⟨hg, hv, hn⟩ := hc
        obtain ⟨cs, hcs, rfl⟩ := Option.map_eq_some_iff.1 hx
        obtain ⟨bl, b', rfl, hb', hg2, hbl⟩ := r.ptr_inv
        rw [hb] at hb'
        cases hb'
        have := hbl hg.symm hv
        subst this
        obtain ⟨cur, hw, hsz, hl, hr⟩ := i.blk β b hb hv
        obtain ⟨hlen, hget⟩ := optMap_get hcs
        refine .pure ?_
        have e : ({ block := (φ β).1, off := off, spot := none } : Addr) = ⟨(φ β).1, 0 + off, none⟩ := by rw [Nat.zero_add]
        rw [e]
        refine .cptr (φ β).1 0 off cs (cur.toList.take b.cells.length) (fun m hm => ⟨i.lt hb hv, fun γ c hγ hcv he => ?_⟩) (by simp; omega) (fun j u hu => ?_) (fun j u z hu hz => ?_)
        · rcases look_dead hγ with ⟨hγn, hγ'⟩ | ⟨_, b', _, rfl⟩
          · have := i.inj γ β c b hγ' hb hcv hv he
            omega
          · cases hcv
        · rw [List.getElem?_take] at hu
          split at hu
          · rename_i hj
            have hu' : cur[j]? = some u := by simpa using hu
            refine ⟨by rw [Nat.zero_add, cell_of_row w _ _ cur _ _ hw]; exact hu', ?_⟩
            exact (hr j u b.cells[j] hu' (List.getElem?_eq_getElem hj)).1
          · cases hu
        · obtain ⟨x, hx1, hx2⟩ := hget j z hz
          rw [List.getElem?_take] at hu
          split at hu
          · exact low hx2 (hr j u x (by simpa using hu) hx1).2
          · cases hu
      · cases hx
    · cases hx
  · exact .pure (low hx r)

/-- The slots: let go, as they were (plain), or turned into plain values. -/
def FrzL (n : Nat) (h : Heap) : List AV → List AV → Prop
  | [], [] => True
  | y :: ys, x :: xs => (y = .any ∨ frzS n h x = some y) ∧ FrzL n h ys xs
  | _, _ => False

theorem FrzL.get {n : Nat} {h : Heap} : ∀ {ys xs : List AV}, FrzL n h ys xs → ys.length = xs.length ∧ ∀ t, ys.getD t .any = .any ∨ frzS n h (xs.getD t .any) = some (ys.getD t .any)
  | [], [], _ => ⟨rfl, fun t => .inl rfl⟩
  | y :: ys, x :: xs, hf => by
    obtain ⟨h1, h2⟩ := hf
    obtain ⟨k1, k2⟩ := FrzL.get h2
    refine ⟨by simp [k1], fun t => ?_⟩
    match t with
    | 0 => simpa using h1
    | t + 1 => simpa using k2 t
  | [], _ :: _, hf => hf.elim
  | _ :: _, [], hf => hf.elim

theorem RunA.freeze {c : Code} {sl sl' : List AV} {Q : Exit → St → Prop} (n : Nat) (h' : Heap) (hh : deadFrom n h = h') (hs : FrzL n h sl' sl) (r : RunA P C c ⟨sl', h'⟩ Q) : RunA P C c ⟨sl, h⟩ Q := by
  subst hh
  intro B φ w a i s
  obtain ⟨i', ev⟩ := dead_pic n i
  obtain ⟨k1, k2⟩ := hs.get
  refine wp_mono (r B φ w a i' ⟨by rw [k1]; exact s.size, fun t => ?_, s.nodef⟩) fun e a' w' ⟨st', φ', h1, h2, h3, h4⟩ => ⟨st', φ', h1, ev.trans h2, h3, h4⟩
  rcases k2 t with h | h
  · rw [h]; exact .any_of _
  · exact frzS_rel i n h (s.rel t)

/-! ### Calls with plain arguments -/

theorem rel_nil {v : Value} {x : AV} (r : Rel h φ w v x) : Refs 0 x → Rel [] φ w v x := by
  have hst : ∀ k j, Stable h φ w k j → Stable [] φ w k j := fun k j hk => ⟨hk.1, fun β b hb => by simp at hb⟩
  induction r with
  | pure hp => exact fun _ => .pure (hp.mono fun k j hk => ⟨rfl, hst k j hk⟩)
  | ptr β g off bl b hb hg hv => intro hx; cases hx with | ptr _ _ _ hl => omega
  | own β g off len cap ad b hb hg hlc hcm had hn hv => intro hx; cases hx with | own _ _ _ _ hl => omega
  | fn f a c xs ys ha hc _ _ iha ihc =>
    intro hx
    cases hx with
    | fn _ _ _ h1 h2 => exact .fn f a c xs ys ha hc (fun j v x k1 k2 => iha j v x k1 k2 (h1 x (List.mem_of_getElem? k2))) (fun j v x k1 k2 => ihc j v x k1 k2 (h2 x (List.mem_of_getElem? k2)))
  | iface t v x _ ih =>
    intro hx
    cases hx with
    | iface _ _ h1 => exact .iface t v x (ih h1)
  | agg a xs ha h1 _ ih =>
    intro hx
    cases hx with
    | agg _ h2 => exact .agg a xs ha h1 fun j v x k1 k2 => ih j v x k1 k2 (h2 x (List.mem_of_getElem? k2))
  | tup a xs ha _ ih =>
    intro hx
    cases hx with
    | tup _ h2 => exact .tup a xs ha fun j v x k1 k2 => ih j v x k1 k2 (h2 x (List.mem_of_getElem? k2))

/-- What is kept of a result: numbers, texts. -/
def scal : AV → AV
  | .bool b => .bool b
  | .int k n => .int k n
  | .str s => .str s
  | .tup xs => .tup (xs.map fun x => match x with
    | .bool b => .bool b
    | .int k n => .int k n
    | .str s => .str s
    | _ => .any)
  | _ => .any

theorem scal_rel {h1 h2 : Heap} {φ1 φ2 : Map} {w : World} {v : Value} {x : AV} (r : Rel h1 φ1 w v x) : Rel h2 φ2 w v (scal x) := by
  unfold scal
  split
  · cases r.bool_inv; exact .bool_of _
  · cases r.int_inv; exact .int_of _ _
  · cases r.str_inv; exact .str_of _
  · rename_i xs
    obtain ⟨a, rfl, ha, hr⟩ := r.tup_inv
    refine .tup a _ (by simp [ha]) fun j u z hu hz => ?_
    rw [List.getElem?_map] at hz
    cases hx : xs[j]? with
    | none => rw [hx] at hz; cases hz
    | some x =>
      rw [hx] at hz
      simp only [Option.map_some, Option.some.injEq] at hz
      subst hz
      have := hr j u x hu hx
      split
      · cases this.bool_inv; exact .bool_of _
      · cases this.int_inv; exact .int_of _ _
      · cases this.str_inv; exact .str_of _
      · exact .any_of _
  · exact .any_of _

theorem CallA.frameP {f : FuncId} {args : List AV} {x : AV} (ha : args.all (refsOk 0 9) = true) (r : CallA P C f args [] fun y _ => y = x) (h : Heap) : CallA P C f args h fun y h' => y = scal x ∧ h' = h := by
  intro B φ w cargs i hs hr
  have hst : ∀ k, k < w.heap.size → Free [] φ w k := fun k hk => ⟨hk, fun β b hb => by simp at hb⟩
  have i0 : Pic C.glob w.heap.size [] φ w := ⟨fun β b hb => by simp at hb, fun β β' b b' hb => by simp at hb, fun β b hb => by simp at hb, fun β b hb => by simp at hb, Nat.le_refl _, fun g => (i.glob g).mono fun k j hk => ⟨rfl, (hst k hk.1).stable j⟩⟩
  refine (r w.heap.size φ w cargs i0 hs (fun j v x h1 h2 => rel_nil (hr j v x h1 h2) (refsOk_refs 9 x (List.all_eq_true.1 ha x (List.mem_of_getElem? h2))))).mono fun e w' hp => ?_
  obtain ⟨v, y, h', φ', rfl, h1, h2, h3, rfl⟩ := hp
  have hk : ∀ k, k < w.heap.size → w'.heap[k]? = w.heap[k]? := fun k hk => (h2.keep k (hst k hk)).1
  have ev : Ev h φ w h φ w' := ⟨h2.os, h2.tape, h2.output, h2.size, fun k hs => ⟨hk k hs.1, Nat.lt_of_lt_of_le hs.1 h2.size, hs.2⟩, fun k j hs => ⟨World.cell?_of_block (hk k hs.1), Nat.lt_of_lt_of_le hs.1 h2.size, hs.2⟩, Nat.le_refl _, fun β b b' e1 e2 => by rw [e1] at e2; cases e2; exact ⟨Nat.le_refl _, fun _ => ⟨rfl, rfl, rfl⟩⟩⟩
  refine ⟨v, _, h, φ, rfl, ⟨fun β b hb hv => ?_, i.inj, i.base, i.virt, Nat.le_trans i.room h2.size, fun g => ev.prel (i.glob g)⟩, ev, scal_rel h3, rfl, rfl⟩
  obtain ⟨cur, q1, q2, q3, q4⟩ := i.blk β b hb hv
  exact ⟨cur, (hk _ (Array.getElem?_eq_some_iff.1 q1).1).trans q1, q2, q3, fun j v x a d => ⟨(q4 j v x a d).1, ev.rel (q4 j v x a d).2⟩⟩
end
end Go.Ab
