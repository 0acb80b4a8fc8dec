/-
  A SLICE OF ONE'S OWN, SEEN AS A PLAIN LIST WHILE IT STAYS ONE'S OWN: its cells are never written again, but it may be appended to; and: what is lent to a call that hands back numbers alone. Conditions: none.
-/
import Derived.Test.YtfcbamfgejfleaaDoorAbsFreeze
namespace Go.Ab
section
variable {P : Program} {C : Cfg} {G : Nat → AV} {B : Nat} {h : Heap} {φ : Map} {w : World}

/-- The block, its first cells never written again. -/
def keepB (b : Blk) (k : Nat) : Blk := { b with frz := max b.frz k }

theorem get_keep {β γ k : Nat} {b c : Blk} (hb : h[β]? = some b) (hc : (h.set β (keepB b k))[γ]? = some c) : (γ = β ∧ c = keepB b k) ∨ (γ ≠ β ∧ h[γ]? = some c) := by
  have hl := (List.getElem?_eq_some_iff.1 hb).1
  by_cases e : γ = β
  · subst e
    rw [List.getElem?_set_self hl] at hc
    exact .inl ⟨rfl, by simpa using hc.symm⟩
  · rw [List.getElem?_set_ne (Ne.symm e)] at hc
    exact .inr ⟨e, hc⟩

theorem keep_blk {β : Nat} {b : Blk} (k : Nat) (i : Pic G B h φ w) (hb : h[β]? = some b) : Pic G B (h.set β (keepB b k)) φ w ∧ Ev h φ w (h.set β (keepB b k)) φ w := by
  have ev : Ev h φ w (h.set β (keepB b k)) φ w := by
    refine ⟨rfl, rfl, rfl, Nat.le_refl _, fun j hj => ⟨rfl, hj.1, fun γ c hc hv => ?_⟩, fun j m hj => ⟨rfl, hj.1, fun γ c hc hv he => ?_⟩, by simp, fun γ c c' h1 h2 => ?_⟩
    · rcases get_keep hb hc with ⟨rfl, rfl⟩ | ⟨_, hc'⟩
      · exact hj.2 _ b hb hv
      · exact hj.2 γ c hc' hv
    · rcases get_keep hb hc with ⟨rfl, rfl⟩ | ⟨_, hc'⟩
      · exact Nat.lt_of_lt_of_le (hj.2 _ b hb hv he) (Nat.le_max_left _ _)
      · exact hj.2 γ c hc' hv he
    · rcases get_keep hb h2 with ⟨rfl, rfl⟩ | ⟨_, h2'⟩
      · rw [hb] at h1
        cases h1
        exact ⟨Nat.le_refl _, fun _ => ⟨rfl, rfl, rfl⟩⟩
      · rw [h1] at h2'
        cases h2'
        exact ⟨Nat.le_refl _, fun _ => ⟨rfl, rfl, rfl⟩⟩
  refine ⟨⟨fun γ c hc hv => ?_, fun γ γ' c c' hc hc' hv hv' he => ?_, fun γ c hc hv => ?_, fun γ c hc hv => ?_, i.room, fun g => ev.prel (i.glob g)⟩, ev⟩
  · rcases get_keep hb hc with ⟨rfl, rfl⟩ | ⟨_, hc'⟩
    · obtain ⟨cur, h1, h2, h3, h4⟩ := i.blk _ b hb hv
      exact ⟨cur, h1, h2, h3, fun j v x a d => ⟨(h4 j v x a d).1, ev.rel (h4 j v x a d).2⟩⟩
    · obtain ⟨cur, h1, h2, h3, h4⟩ := i.blk γ c hc' hv
      exact ⟨cur, h1, h2, h3, fun j v x a d => ⟨(h4 j v x a d).1, ev.rel (h4 j v x a d).2⟩⟩
  · rcases get_keep hb hc with ⟨rfl, rfl⟩ | ⟨n1, k1⟩ <;> rcases get_keep hb hc' with ⟨rfl, rfl⟩ | ⟨n2, k2⟩
    · rfl
    · exact i.inj _ _ b c' hb k2 hv hv' he
    · exact i.inj _ _ c b k1 hb hv hv' he
    · exact i.inj _ _ c c' k1 k2 hv hv' he
  · rcases get_keep hb hc with ⟨rfl, rfl⟩ | ⟨_, hc'⟩
    · exact i.base _ b hb hv
    · exact i.base γ c hc' hv
  · rcases get_keep hb hc with ⟨rfl, rfl⟩ | ⟨_, hc'⟩
    · exact i.virt _ b hb hv
    · exact i.virt γ c hc' hv

/-- The slice as a plain list. -/
theorem view_rel {β g off len : Nat} {b : Blk} {cs : List AV} {v : Value} (i : Pic G B h φ w) (hb : h[β]? = some b) (hg : b.gen = g) (hv : b.virt = false) (hle : off + len * b.esz ≤ b.cells.length)
    (hc : optMap sealC ((b.cells.drop off).take (len * b.esz)) = some cs) (r : Rel h φ w v (.own β g off len)) : Rel (h.set β (keepB b (off + len * b.esz))) φ w v (.vec len cs) := by
  obtain ⟨hlen, hget⟩ := optMap_get hc
  obtain ⟨ad, cap, b', rfl, hb', hg2, hlc, hcm, had, hn, hvv⟩ := r.own_inv
  rw [hb] at hb'
  cases hb'
  obtain ⟨rfl, _⟩ := hvv hg.symm hv
  obtain ⟨cur, hw, hs, hl, hr⟩ := i.blk β b hb hv
  obtain ⟨i', ev⟩ := keep_blk (off + len * b.esz) i hb
  have hlen' : cs.length = len * b.esz := by rw [hlen]; simp; omega
  have hvl : ((cur.toList.drop off).take (len * b.esz)).length = len * b.esz := by simp; omega
  refine .pure (.vec (φ β).1 off len cap cs ((cur.toList.drop off).take (len * b.esz)) (fun m hm => ⟨i.lt hb hv, fun γ c hγ hcv he => ?_⟩) hlc (by rw [hlen']; simp; omega) (fun j u hu => ?_) (fun j u z hu hz => ?_))
  · rcases get_keep hb hγ with ⟨rfl, rfl⟩ | ⟨hne, h1⟩
    · rw [hvl] at hm
      exact Nat.lt_of_lt_of_le (by omega) (Nat.le_max_right _ _)
    · exact absurd (i.inj γ β c b h1 hb hcv hv he) hne
  · rw [List.getElem?_take, List.getElem?_drop] at hu
    split at hu
    · rename_i hj
      have hu' : cur[off + j]? = some u := by simpa using hu
      refine ⟨by rw [cell_of_row w _ _ cur _ _ hw]; exact hu', ?_⟩
      have hjc : off + j < b.cells.length := by omega
      exact (hr (off + j) u b.cells[off + j] hu' (List.getElem?_eq_getElem hjc)).1
    · cases hu
  · obtain ⟨x, hx1, hx2⟩ := hget j z hz
    rw [List.getElem?_take, List.getElem?_drop] at hu hx1
    split at hu
    · rename_i hj
      rw [if_pos hj] at hx1
      exact ev.prel (sealC_rel hx2 (hr (off + j) u x (by simpa using hu) hx1).2)
    · cases hu

/-- A slice of one's own is handed to a callee as a plain list. -/
theorem CallA.viewArg {f : FuncId} {args args' : List AV} {Q : AV → Heap → Prop} {β off len : Nat} {b : Blk} {cs : List AV} (hb : h[β]? = some b) (hv : b.virt = false) (hle : off + len * b.esz ≤ b.cells.length)
    (hc : optMap sealC ((b.cells.drop off).take (len * b.esz)) = some cs) (ha : SealA β b.gen off len cs args' args) (r : CallA P C f args' (h.set β (keepB b (off + len * b.esz))) Q) : CallA P C f args h Q := by
  intro B φ w cargs i hs hr
  obtain ⟨i', ev⟩ := keep_blk (off + len * b.esz) i hb
  obtain ⟨k1, k2⟩ := ha.get
  refine (r B φ w cargs i' (by rw [k1]; exact hs) fun j v y h1 h2 => ?_).mono fun e w' ⟨v, x, h', φ', q1, q2, q3, q4, q5⟩ => ⟨v, x, h', φ', q1, q2, ev.trans q3, q4, q5⟩
  have hj : j < args.length := by rw [← k1]; exact (List.getElem?_eq_some_iff.1 h2).1
  have hx : args[j]? = some args[j] := List.getElem?_eq_getElem hj
  rcases k2 j y _ h2 hx with rfl | ⟨e1, rfl⟩
  · exact ev.rel (hr j v _ h1 hx)
  · exact view_rel i hb rfl hv hle hc (e1 ▸ hr j v _ h1 hx)

/-- The slots, some of which see the slice as a plain list. -/
theorem RunA.view {c : Code} {sl sl' : List AV} {Q : Exit → St → Prop} {β off len : Nat} {b : Blk} {cs : List AV} (hb : h[β]? = some b) (hv : b.virt = false) (hle : off + len * b.esz ≤ b.cells.length)
    (hc : optMap sealC ((b.cells.drop off).take (len * b.esz)) = some cs) (ha : SealA β b.gen off len cs sl' sl) (r : RunA P C c ⟨sl', h.set β (keepB b (off + len * b.esz))⟩ Q) : RunA P C c ⟨sl, h⟩ Q := by
  intro B φ w a i s
  obtain ⟨i', ev⟩ := keep_blk (off + len * b.esz) i hb
  obtain ⟨k1, k2⟩ := ha.get
  refine wp_mono (r B φ w a i' ⟨by rw [k1]; exact s.size, fun t => ?_, s.nodef⟩) fun e a' w' ⟨st', φ', h1, h2, h3, h4⟩ => ⟨st', φ', h1, ev.trans h2, h3, h4⟩
  show Rel _ φ w _ (sl'.getD t .any)
  by_cases ht : t < sl.length
  · have e1 : sl'.getD t .any = sl'[t]'(by omega) := by simp [List.getD, show t < sl'.length from by omega]
    have e2 : sl.getD t .any = sl[t] := by simp [List.getD, ht]
    have hr := s.rel t
    simp only [e2] at hr
    rw [e1]
    rcases k2 t _ _ (List.getElem?_eq_getElem (by omega)) (List.getElem?_eq_getElem ht) with h | ⟨e3, e4⟩
    · rw [h]; exact ev.rel hr
    · rw [e4]
      rw [e3] at hr
      exact view_rel i hb rfl hv hle hc hr
  · have e1 : sl'.getD t .any = .any := by
      rw [List.getD_eq_getElem?_getD, List.getElem?_eq_none (by omega)]
      rfl
    rw [e1]
    exact .any_of _

/-! ### What is lent -/

/-- The arguments as plain values, all that the caller has is hidden. -/
theorem CallA.borrow {f : FuncId} {args args' : List AV} {x : AV} (ha : FrzL 0 h args' args) (r : CallA P C f args' (deadFrom 0 h) fun y _ => y = x) : CallA P C f args h fun y k => y = scal x ∧ k = h := by
  intro B φ w cargs i hs hr
  obtain ⟨i', _⟩ := dead_pic 0 i
  obtain ⟨k1, k2⟩ := ha.get
  refine (r B φ w cargs i' (by rw [k1]; exact hs) fun j v y h1 h2 => ?_).mono fun e w' hp => ?_
  · have hj : j < args.length := by rw [← k1]; exact (List.getElem?_eq_some_iff.1 h2).1
    have e1 : args'.getD j .any = y := by simp [List.getD, h2]
    have e2 : args.getD j .any = args[j] := by simp [List.getD, hj]
    rcases k2 j with h | h
    · rw [e1] at h
      rw [h]; exact .any_of _
    · rw [e1, e2] at h
      exact frzS_rel i 0 h (hr j v _ h1 (List.getElem?_eq_getElem hj))
  · obtain ⟨v, y, h', φ', rfl, h1, h2, h3, rfl⟩ := hp
    have hfree : ∀ k, k < w.heap.size → Free (deadFrom 0 h) φ w k := fun k hk => ⟨hk, fun β b hb hv => by
      rcases look_dead hb with ⟨hn, _⟩ | ⟨_, b', _, rfl⟩
      · omega
      · cases hv⟩
    have hk : ∀ k, k < w.heap.size → w'.heap[k]? = w.heap[k]? := fun k hk => (h2.keep k (hfree k hk)).1
    have ev : Ev h φ w h φ w' := ⟨h2.os, h2.tape, h2.output, h2.size, fun k hs => ⟨hk k hs.1, Nat.lt_of_lt_of_le hs.1 h2.size, hs.2⟩, fun k j hs => ⟨World.cell?_of_block (hk k hs.1), Nat.lt_of_lt_of_le hs.1 h2.size, hs.2⟩, Nat.le_refl _, fun β b b' e1 e2 => by rw [e1] at e2; cases e2; exact ⟨Nat.le_refl _, fun _ => ⟨rfl, rfl, rfl⟩⟩⟩
    refine ⟨v, _, h, φ, rfl, ⟨fun β b hb hv => ?_, i.inj, i.base, i.virt, Nat.le_trans i.room h2.size, fun g => ev.prel (i.glob g)⟩, ev, scal_rel h3, rfl, rfl⟩
    obtain ⟨cur, q1, q2, q3, q4⟩ := i.blk β b hb hv
    exact ⟨cur, (hk _ (Array.getElem?_eq_some_iff.1 q1).1).trans q1, q2, q3, fun j v x a d => ⟨(q4 j v x a d).1, ev.rel (q4 j v x a d).2⟩⟩
end
end Go.Ab
