/-
  WHEN A WORLD OF THE MODEL IS AS THE PICTURE SAYS; and that this lasts. Conditions: none; this text proves nothing about a program by itself.
-/
import Derived.Test.YtfcbamfgejfleaaDoorAbs
namespace Go.Ab

/-- Where the picture's blocks lie: the block of the model, its cells. -/
abbrev Map := Nat → Nat × Nat

/-- A block of the model that none of the picture's blocks is. -/
def Free (h : Heap) (φ : Map) (w : World) (k : Nat) : Prop :=
  k < w.heap.size ∧ ∀ (β : Nat) (b : Blk), h[β]? = some b → b.virt = false → (φ β).1 ≠ k

/-- A cell of the model that is never written again. -/
def Stable (h : Heap) (φ : Map) (w : World) (k j : Nat) : Prop :=
  k < w.heap.size ∧ ∀ (β : Nat) (b : Blk), h[β]? = some b → b.virt = false → (φ β).1 = k → j < b.frz

theorem Free.stable {h : Heap} {φ : Map} {w : World} {k : Nat} (hf : Free h φ w k) (j : Nat) : Stable h φ w k j := ⟨hf.1, fun β b hb hv he => absurd he (hf.2 β b hb hv)⟩

/-- A value of the model is the value of the picture, and whatever memory it leads to is never written again. -/
inductive PRel (w : World) (S : Nat → Nat → Prop) : Value → AV → Prop
  | any (v : Value) : PRel w S v .any
  | bool (b : Bool) : PRel w S (.bool b) (.bool b)
  | int (k : IntKind) (n : Int) : PRel w S (.int k n) (.int k n)
  | str (s : ByteArray) : PRel w S (.string s) (.str s)
  | nilp : PRel w S (.pointer none) .nilp
  | nils : PRel w S (.slice none 0 0) .nils
  | nilf : PRel w S .nilFunc .nilf
  | nili : PRel w S .nilIface .nili
  | func (f : Fn) : PRel w S (.func f #[] #[]) (.fn f [] [])
  | vec0 (a : Option Addr) (c : Nat) : PRel w S (.slice a 0 c) (.vec 0 [])
  | vec (b o n c : Nat) (cells : List AV) (vs : List Value) (hS : ∀ j, j < vs.length → S b (o + j)) (hnc : n ≤ c) (hlen : vs.length = cells.length)
      (hc : ∀ j v, vs[j]? = some v → w.cell? ⟨b, o + j, none⟩ = some v ∧ v.oneCell' = true)
      (hr : ∀ (j : Nat) v x, vs[j]? = some v → cells[j]? = some x → PRel w S v x) : PRel w S (.slice (some ⟨b, o, none⟩) n c) (.vec n cells)
  | cptr (b o off : Nat) (cells : List AV) (vs : List Value) (hS : ∀ j, j < vs.length → S b (o + j)) (hlen : vs.length = cells.length)
      (hc : ∀ j v, vs[j]? = some v → w.cell? ⟨b, o + j, none⟩ = some v ∧ v.oneCell' = true)
      (hr : ∀ (j : Nat) v x, vs[j]? = some v → cells[j]? = some x → PRel w S v x) : PRel w S (.pointer (some ⟨b, o + off, none⟩)) (.cptr cells off)

theorem PRel.mono {w w' : World} {S S' : Nat → Nat → Prop} (hk : ∀ k j, S k j → w'.cell? ⟨k, j, none⟩ = w.cell? ⟨k, j, none⟩ ∧ S' k j) {v : Value} {x : AV} (hp : PRel w S v x) : PRel w' S' v x := by
  induction hp with
  | any v => exact .any v
  | bool b => exact .bool b
  | int k n => exact .int k n
  | str s => exact .str s
  | nilp => exact .nilp
  | nils => exact .nils
  | nilf => exact .nilf
  | nili => exact .nili
  | func f => exact .func f
  | vec0 a c => exact .vec0 a c
  | vec b o n c cells vs hS hnc hlen hc hr ih =>
    exact .vec b o n c cells vs (fun j hj => (hk b _ (hS j hj)).2) hnc hlen (fun j v hv => ⟨(hk b _ (hS j (List.getElem?_eq_some_iff.1 hv).1)).1.trans (hc j v hv).1, (hc j v hv).2⟩) ih
  | cptr b o off cells vs hS hlen hc hr ih =>
    exact .cptr b o off cells vs (fun j hj => (hk b _ (hS j hj)).2) hlen (fun j v hv => ⟨(hk b _ (hS j (List.getElem?_eq_some_iff.1 hv).1)).1.trans (hc j v hv).1, (hc j v hv).2⟩) ih

/-- A value of the model is the value of the picture. -/
inductive Rel (h : Heap) (φ : Map) (w : World) : Value → AV → Prop
  | pure {v : Value} {x : AV} (hp : PRel w (Stable h φ w) v x) : Rel h φ w v x
  | ptr (β g off bl : Nat) (b : Blk) (hb : h[β]? = some b) (hg : g ≤ b.gen) (hv : g = b.gen → b.virt = false → bl = (φ β).1) : Rel h φ w (.pointer (some ⟨bl, off, none⟩)) (.ptr β g off)
  | own (β g off len cap : Nat) (ad : Option Addr) (b : Blk) (hb : h[β]? = some b) (hg : g ≤ b.gen) (hlc : len ≤ cap) (hcm : cap ≤ maxLen) (had : 0 < len → ∃ bl, ad = some ⟨bl, off, none⟩)
      (hn : g = b.gen → b.virt = true → ad = none ∧ cap = 0)
      (hv : g = b.gen → b.virt = false → ad = some ⟨(φ β).1, off, none⟩ ∧ (off = 0 → cap * b.esz = (φ β).2)) : Rel h φ w (.slice ad len cap) (.own β g off len)
  | fn (f : Fn) (a c : Array Value) (xs ys : List AV) (ha : a.size = xs.length) (hc : c.size = ys.length)
      (hra : ∀ (j : Nat) v x, a[j]? = some v → xs[j]? = some x → Rel h φ w v x) (hrc : ∀ (j : Nat) v x, c[j]? = some v → ys[j]? = some x → Rel h φ w v x) : Rel h φ w (.func f a c) (.fn f xs ys)
  | iface (t : TypeId) (v : Value) (x : AV) (hr : Rel h φ w v x) : Rel h φ w (.iface t v) (.iface t x)
  | agg (a : Array Value) (xs : List AV) (ha : a.size = xs.length) (h1 : ∀ (j : Nat) v, a[j]? = some v → v.oneCell' = true)
      (hr : ∀ (j : Nat) v x, a[j]? = some v → xs[j]? = some x → Rel h φ w v x) : Rel h φ w (.agg a) (.agg xs)
  | tup (a : Array Value) (xs : List AV) (ha : a.size = xs.length)
      (hr : ∀ (j : Nat) v x, a[j]? = some v → xs[j]? = some x → Rel h φ w v x) : Rel h φ w (.tuple a) (.tup xs)

/-- The world is as the picture says; the picture's blocks are blocks from 'B' on. -/
structure Pic (G : Nat → AV) (B : Nat) (h : Heap) (φ : Map) (w : World) : Prop where
  blk : ∀ (β : Nat) (b : Blk), h[β]? = some b → b.virt = false → ∃ cur, w.heap[(φ β).1]? = some (.cells cur b.elem (0, 0)) ∧ cur.size = (φ β).2 ∧ b.cells.length ≤ cur.size ∧
    (∀ (j : Nat) v x, cur[j]? = some v → b.cells[j]? = some x → v.oneCell' = true ∧ Rel h φ w v x)
  inj : ∀ (β β' : Nat) (b b' : Blk), h[β]? = some b → h[β']? = some b' → b.virt = false → b'.virt = false → (φ β).1 = (φ β').1 → β = β'
  base : ∀ (β : Nat) (b : Blk), h[β]? = some b → b.virt = false → B ≤ (φ β).1
  virt : ∀ (β : Nat) (b : Blk), h[β]? = some b → b.virt = true → b.cells = []
  room : B ≤ w.heap.size
  glob : ∀ g, PRel w (Stable h φ w) (.pointer (some ⟨g, 0, none⟩)) (G g)

/-- What a call may do to the world and to the picture. -/
structure Ev (h : Heap) (φ : Map) (w : World) (h' : Heap) (φ' : Map) (w' : World) : Prop where
  os : w'.os = w.os
  tape : w'.tape = w.tape
  output : w'.output = w.output
  size : w.heap.size ≤ w'.heap.size
  keep : ∀ k, Free h φ w k → w'.heap[k]? = w.heap[k]? ∧ Free h' φ' w' k
  cells : ∀ k j, Stable h φ w k j → w'.cell? ⟨k, j, none⟩ = w.cell? ⟨k, j, none⟩ ∧ Stable h' φ' w' k j
  hsize : h.length ≤ h'.length
  gens : ∀ (β : Nat) (b b' : Blk), h[β]? = some b → h'[β]? = some b' → b.gen ≤ b'.gen ∧ (b.gen = b'.gen → φ' β = φ β ∧ b'.virt = b.virt ∧ b'.esz = b.esz)

theorem Ev.refl (h : Heap) (φ : Map) (w : World) : Ev h φ w h φ w :=
  ⟨rfl, rfl, rfl, Nat.le_refl _, fun _ hk => ⟨rfl, hk⟩, fun _ _ hk => ⟨rfl, hk⟩, Nat.le_refl _, fun β b b' h1 h2 => by rw [h1] at h2; cases h2; exact ⟨Nat.le_refl _, fun _ => ⟨rfl, rfl, rfl⟩⟩⟩

theorem Ev.trans {h h' h'' : Heap} {φ φ' φ'' : Map} {w w' w'' : World} (a : Ev h φ w h' φ' w') (b : Ev h' φ' w' h'' φ'' w'') : Ev h φ w h'' φ'' w'' := by
  refine ⟨b.os.trans a.os, b.tape.trans a.tape, b.output.trans a.output, Nat.le_trans a.size b.size, fun k hk => ?_, fun k j hk => ?_, Nat.le_trans a.hsize b.hsize, fun β x z hx hz => ?_⟩
  · obtain ⟨h1, h2⟩ := a.keep k hk
    obtain ⟨h3, h4⟩ := b.keep k h2
    exact ⟨h3.trans h1, h4⟩
  · obtain ⟨h1, h2⟩ := a.cells k j hk
    obtain ⟨h3, h4⟩ := b.cells k j h2
    exact ⟨h3.trans h1, h4⟩
  · have hlt : β < h'.length := Nat.lt_of_lt_of_le (List.getElem?_eq_some_iff.1 hx).1 a.hsize
    have hy : h'[β]? = some h'[β] := List.getElem?_eq_getElem hlt
    obtain ⟨g1, e1⟩ := a.gens β x _ hx hy
    obtain ⟨g2, e2⟩ := b.gens β _ z hy hz
    refine ⟨Nat.le_trans g1 g2, fun hg => ?_⟩
    obtain ⟨p1, p2, p3⟩ := e1 (by omega)
    obtain ⟨q1, q2, q3⟩ := e2 (by omega)
    exact ⟨q1.trans p1, q2.trans p2, q3.trans p3⟩

theorem Ev.prel {h h' : Heap} {φ φ' : Map} {w w' : World} (a : Ev h φ w h' φ' w') {v : Value} {x : AV} (hp : PRel w (Stable h φ w) v x) : PRel w' (Stable h' φ' w') v x :=
  hp.mono a.cells

theorem Ev.rel {h h' : Heap} {φ φ' : Map} {w w' : World} (a : Ev h φ w h' φ' w') {v : Value} {x : AV} (hp : Rel h φ w v x) : Rel h' φ' w' v x := by
  induction hp with
  | pure hp => exact .pure (a.prel hp)
  | ptr β g off bl b hb hg hv =>
    have hlt : β < h'.length := Nat.lt_of_lt_of_le (List.getElem?_eq_some_iff.1 hb).1 a.hsize
    have hy : h'[β]? = some h'[β] := List.getElem?_eq_getElem hlt
    obtain ⟨g1, e1⟩ := a.gens β b _ hb hy
    refine .ptr β g off bl _ hy (Nat.le_trans hg g1) fun he hvv => ?_
    obtain ⟨p1, p2, _⟩ := e1 (by omega)
    rw [p1]
    exact hv (by omega) (by rw [← p2]; exact hvv)
  | own β g off len cap ad b hb hg hlc hcm had hn hv =>
    have hlt : β < h'.length := Nat.lt_of_lt_of_le (List.getElem?_eq_some_iff.1 hb).1 a.hsize
    have hy : h'[β]? = some h'[β] := List.getElem?_eq_getElem hlt
    obtain ⟨g1, e1⟩ := a.gens β b _ hb hy
    refine .own β g off len cap ad _ hy (Nat.le_trans hg g1) hlc hcm had (fun he hvv => ?_) fun he hvv => ?_
    · obtain ⟨p1, p2, _⟩ := e1 (by omega)
      exact hn (by omega) (by rw [← p2]; exact hvv)
    · obtain ⟨p1, p2, p3⟩ := e1 (by omega)
      rw [p1, p3]
      exact hv (by omega) (by rw [← p2]; exact hvv)
  | fn f a' c xs ys ha hc _ _ iha ihc => exact .fn f a' c xs ys ha hc iha ihc
  | iface t v x _ ih => exact .iface t v x ih
  | agg a' xs ha h1 _ ih => exact .agg a' xs ha h1 ih
  | tup a' xs ha _ ih => exact .tup a' xs ha ih

/-- The world alone has turned, by new blocks and draws. -/
theorem Ev.of_grown {h : Heap} {φ : Map} {w w' : World} (hg : w.grownBy w' none) : Ev h φ w h φ w' :=
  ⟨hg.os, hg.tape, hg.output, hg.size, fun k hk => ⟨hg.block k hk.1 (by simp), Nat.lt_of_lt_of_le hk.1 hg.size, hk.2⟩, fun k j hk => ⟨World.cell?_of_block (hg.block k hk.1 (by simp)), Nat.lt_of_lt_of_le hk.1 hg.size, hk.2⟩, Nat.le_refl _,
    fun β b b' h1 h2 => by rw [h1] at h2; cases h2; exact ⟨Nat.le_refl _, fun _ => ⟨rfl, rfl, rfl⟩⟩⟩

theorem Pic.lt {G : Nat → AV} {B : Nat} {h : Heap} {φ : Map} {w : World} (i : Pic G B h φ w) {β : Nat} {b : Blk} (hb : h[β]? = some b) (hv : b.virt = false) : (φ β).1 < w.heap.size := by
  obtain ⟨cur, hc, _⟩ := i.blk β b hb hv
  exact (Array.getElem?_eq_some_iff.1 hc).1

theorem Pic.of_grown {G : Nat → AV} {B : Nat} {h : Heap} {φ : Map} {w w' : World} (i : Pic G B h φ w) (hg : w.grownBy w' none) : Pic G B h φ w' := by
  have ev : Ev h φ w h φ w' := Ev.of_grown hg
  refine ⟨fun β b hb hv => ?_, i.inj, i.base, i.virt, Nat.le_trans i.room hg.size, fun g => ev.prel (i.glob g)⟩
  obtain ⟨cur, h1, h2, h3, h4⟩ := i.blk β b hb hv
  exact ⟨cur, (hg.block _ (Array.getElem?_eq_some_iff.1 h1).1 (by simp)).trans h1, h2, h3, fun j v x a c => ⟨(h4 j v x a c).1, ev.rel (h4 j v x a c).2⟩⟩

/-- A new block of the model and of the picture. -/
theorem push_block {G : Nat → AV} {B : Nat} {h : Heap} {φ : Map} {w w' : World} (i : Pic G B h φ w) {t esz : Nat} {cells : List AV} {cur : Array Value}
    (hg : w.grownBy w' none) (k : Nat) (hk : w.heap.size ≤ k) (hw : w'.heap[k]? = some (.cells cur t (0, 0))) (hl : cells.length ≤ cur.size)
    (hr : ∀ (j : Nat) v x, cur[j]? = some v → cells[j]? = some x → v.oneCell' = true ∧ Rel h φ w v x) :
    Pic G B (h ++ [⟨0, false, t, esz, cells, 0⟩]) (fun β => if β = h.length then (k, cur.size) else φ β) w' ∧
    Ev h φ w (h ++ [⟨0, false, t, esz, cells, 0⟩]) (fun β => if β = h.length then (k, cur.size) else φ β) w' := by
  have hne : ∀ {β : Nat} {b : Blk}, h[β]? = some b → β ≠ h.length := fun hb he => by
    have := (List.getElem?_eq_some_iff.1 hb).1
    omega
  have look : ∀ {β : Nat} {b : Blk}, (h ++ [(⟨0, false, t, esz, cells, 0⟩ : Blk)])[β]? = some b → (h[β]? = some b ∧ β ≠ h.length) ∨ (β = h.length ∧ b = ⟨0, false, t, esz, cells, 0⟩) := by
    intro β b hb
    rcases Nat.lt_trichotomy β h.length with hl | he | hl
    · rw [List.getElem?_append_left hl] at hb
      exact .inl ⟨hb, by omega⟩
    · subst he
      simp at hb
      exact .inr ⟨rfl, hb.symm⟩
    · rw [List.getElem?_eq_none (by simp; omega)] at hb
      cases hb
  have ev : Ev h φ w (h ++ [⟨0, false, t, esz, cells, 0⟩]) (fun β => if β = h.length then (k, cur.size) else φ β) w' := by
    refine ⟨hg.os, hg.tape, hg.output, hg.size, fun j hj => ⟨hg.block j hj.1 (by simp), Nat.lt_of_lt_of_le hj.1 hg.size, fun β b hb hv => ?_⟩, fun j m hj => ⟨World.cell?_of_block (hg.block j hj.1 (by simp)), Nat.lt_of_lt_of_le hj.1 hg.size, fun β b hb hv => ?_⟩, by simp, fun β b b' h1 h2 => ?_⟩
    · rcases look hb with ⟨hb', hn⟩ | ⟨rfl, rfl⟩
      · simp only [hn, if_false]
        exact hj.2 β b hb' hv
      · have := hj.1
        simp only [if_true]
        omega
    · rcases look hb with ⟨hb', hn⟩ | ⟨rfl, rfl⟩
      · simp only [hn, if_false]
        exact hj.2 β b hb' hv
      · have := hj.1
        simp only [if_true]
        omega
    · rcases look h2 with ⟨hb', hn⟩ | ⟨rfl, rfl⟩
      · rw [h1] at hb'
        cases hb'
        exact ⟨Nat.le_refl _, fun _ => by simp [hn]⟩
      · exact absurd rfl (hne h1)
  refine ⟨⟨fun β b hb hv => ?_, fun β β' b b' hb hb' hv hv' he => ?_, fun β b hb hv => ?_, fun β b hb hv => ?_, Nat.le_trans i.room hg.size, fun g => ev.prel (i.glob g)⟩, ev⟩
  · rcases look hb with ⟨hb', hn⟩ | ⟨rfl, rfl⟩
    · simp only [hn, if_false]
      obtain ⟨c, h1, h2, h3, h4⟩ := i.blk β b hb' hv
      exact ⟨c, (hg.block _ (Array.getElem?_eq_some_iff.1 h1).1 (by simp)).trans h1, h2, h3, fun j v x a c => ⟨(h4 j v x a c).1, ev.rel (h4 j v x a c).2⟩⟩
    · simp only [if_true]
      exact ⟨cur, hw, rfl, hl, fun j v x a c => ⟨(hr j v x a c).1, ev.rel (hr j v x a c).2⟩⟩
  · rcases look hb with ⟨h1, n1⟩ | ⟨rfl, rfl⟩ <;> rcases look hb' with ⟨h2, n2⟩ | ⟨rfl, rfl⟩
    · simp only [n1, n2, if_false] at he
      exact i.inj β β' b b' h1 h2 hv hv' he
    · simp only [n1, if_false, if_true] at he
      have := i.lt h1 hv
      omega
    · simp only [n2, if_false, if_true] at he
      have := i.lt h2 hv'
      omega
    · rfl
  · rcases look hb with ⟨hb', hn⟩ | ⟨rfl, rfl⟩
    · simp only [hn, if_false]
      exact i.base β b hb' hv
    · simp only [if_true]
      exact Nat.le_trans i.room hk
  · rcases look hb with ⟨hb', hn⟩ | ⟨rfl, rfl⟩
    · exact i.virt β b hb' hv
    · cases hv

/-- A new block of the picture alone. -/
theorem push_virt {G : Nat → AV} {B : Nat} {h : Heap} {φ : Map} {w : World} (i : Pic G B h φ w) :
    Pic G B (h ++ [⟨0, true, 0, 0, [], 0⟩]) φ w ∧ Ev h φ w (h ++ [⟨0, true, 0, 0, [], 0⟩]) φ w := by
  have look : ∀ {β : Nat} {b : Blk}, (h ++ [(⟨0, true, 0, 0, [], 0⟩ : Blk)])[β]? = some b → (h[β]? = some b) ∨ (β = h.length ∧ b = ⟨0, true, 0, 0, [], 0⟩) := by
    intro β b hb
    rcases Nat.lt_trichotomy β h.length with hl | he | hl
    · rw [List.getElem?_append_left hl] at hb
      exact .inl hb
    · subst he
      simp at hb
      exact .inr ⟨rfl, hb.symm⟩
    · rw [List.getElem?_eq_none (by simp; omega)] at hb
      cases hb
  have ev : Ev h φ w (h ++ [⟨0, true, 0, 0, [], 0⟩]) φ w := by
    refine ⟨rfl, rfl, rfl, Nat.le_refl _, fun j hj => ⟨rfl, hj.1, fun β b hb hv => ?_⟩, fun j m hj => ⟨rfl, hj.1, fun β b hb hv => ?_⟩, by simp, fun β b b' h1 h2 => ?_⟩
    · rcases look hb with hb' | ⟨rfl, rfl⟩
      · exact hj.2 β b hb' hv
      · cases hv
    · rcases look hb with hb' | ⟨rfl, rfl⟩
      · exact hj.2 β b hb' hv
      · cases hv
    · rcases look h2 with hb' | ⟨rfl, rfl⟩
      · rw [h1] at hb'
        cases hb'
        exact ⟨Nat.le_refl _, fun _ => ⟨rfl, rfl, rfl⟩⟩
      · have := (List.getElem?_eq_some_iff.1 h1).1
        omega
  refine ⟨⟨fun β b hb hv => ?_, fun β β' b b' hb hb' hv hv' he => ?_, fun β b hb hv => ?_, fun β b hb hv => ?_, i.room, fun g => ev.prel (i.glob g)⟩, ev⟩
  · rcases look hb with hb' | ⟨rfl, rfl⟩
    · obtain ⟨c, h1, h2, h3, h4⟩ := i.blk β b hb' hv
      exact ⟨c, h1, h2, h3, fun j v x a c => ⟨(h4 j v x a c).1, ev.rel (h4 j v x a c).2⟩⟩
    · cases hv
  · rcases look hb with h1 | ⟨rfl, rfl⟩ <;> rcases look hb' with h2 | ⟨rfl, rfl⟩
    · exact i.inj β β' b b' h1 h2 hv hv' he
    · cases hv'
    · cases hv
    · rfl
  · rcases look hb with hb' | ⟨rfl, rfl⟩
    · exact i.base β b hb' hv
    · cases hv
  · rcases look hb with hb' | ⟨rfl, rfl⟩
    · exact i.virt β b hb' hv
    · rfl

end Go.Ab
