/-
  WHAT AN OPERATION ON VALUES DOES IN THE PICTURE, IT DOES IN THE MODEL. Conditions: 'Good': the table of types is the program's.
-/
import Derived.Test.YtfcbamfgejfleaaDoorAbsOps
namespace Go.Ab

theorem grownBy_refl (w : World) : w.grownBy w none := ⟨rfl, rfl, rfl, Nat.le_refl _, fun _ _ _ => rfl⟩
theorem grownBy_drew (w : World) : w.grownBy w.drew none := ⟨rfl, rfl, rfl, Nat.le_refl _, fun _ _ _ => rfl⟩
theorem grownBy_trans {a b c : World} (x : a.grownBy b none) (y : b.grownBy c none) : a.grownBy c none :=
  ⟨y.os.trans x.os, y.tape.trans x.tape, y.output.trans x.output, Nat.le_trans x.size y.size, fun k hk hn => (y.block k (Nat.lt_of_lt_of_le hk x.size) hn).trans (x.block k hk hn)⟩

/-- The model yields a value that is the picture's; the world has at most new blocks. -/
def OkV (P : Program) (h : Heap) (φ : Map) (w : World) (s : Sem Value) (x : AV) : Prop :=
  ∃ v w', s.run P w = .ok v w' ∧ w.grownBy w' none ∧ Rel h φ w' v x

theorem OkV.same {P : Program} {h : Heap} {φ : Map} {w : World} {s : Sem Value} {x : AV} {v : Value} (hs : s.run P w = .ok v w) (r : Rel h φ w v x) : OkV P h φ w s x :=
  ⟨v, w, hs, grownBy_refl w, r⟩

/-- A list of cells is a list of the picture's. -/
def CellsRel (h : Heap) (φ : Map) (w : World) (cs : List Value) (xs : List AV) : Prop :=
  cs.length = xs.length ∧ ∀ (j : Nat) v x, cs[j]? = some v → xs[j]? = some x → v.oneCell' = true ∧ Rel h φ w v x

section
variable {P : Program} {C : Cfg} {h : Heap} {φ : Map} {w : World}

theorem Good.known (g : Good P C) {t : TypeId} (hk : (C.ut t).known = true) : ∃ i z, P.info? t = some i ∧ i.zero = some z ∧ i.size = C.sz t ∧ i.bytes = (C.ti t).bytes ∧ z.cells.toList.map emb = (C.ti t).zero ∧ (C.ti t).zero.length = C.sz t ∧ ∀ v ∈ z.cells.toList, v.oneCell' = true :=
  (g.ty t).info hk

theorem run_sizeOf (g : Good P C) {t : TypeId} (hk : (C.ut t).known = true) (w : World) : (sizeOf t).run P w = .ok (C.sz t) w := by
  obtain ⟨i, z, hi, hz, hs, _⟩ := g.known hk
  simp [sizeOf, typeInfo, hi, hs]

theorem run_und {t : TypeId} {d : TypeDesc} (hu : P.underlying t = some d) (w : World) : (underlying t).run P w = .ok d w := run_underlying hu w

theorem und_strct (g : Good P C) {t : TypeId} {fields : List (Nat × TypeId)} {eq : Bool} (hu : C.ut t = .strct fields eq) : ∃ fs : Array Field, P.underlying t = some (.struct fs) ∧ fs.toList.map (fun f => (f.offset, f.type)) = fields ∧ (∀ f ∈ fields, (C.ut f.2).known = true ∧ f.1 + C.sz f.2 ≤ C.sz t) ∧
        (eq = true → P.stoodInHeld t = false ∧ P.eqGuardType P.depth t = false ∧ ∀ f ∈ fs.toList, f.name ≠ "_") := by
  have := (g.ty t).und
  rw [hu] at this
  exact this
theorem und_slice (g : Good P C) {t e : TypeId} (hu : C.ut t = .slice e) : P.underlying t = some (.slice e) ∧ (C.ut e).known = true := by
  have := (g.ty t).und
  rw [hu] at this
  exact this
theorem und_arr (g : Good P C) {t e : TypeId} {n : Nat} (hu : C.ut t = .arr n e) : P.underlying t = some (.array n e) ∧ (C.ut e).known = true ∧ n * C.sz e = C.sz t := by
  have := (g.ty t).und
  rw [hu] at this
  exact this
theorem und_str (g : Good P C) {t : TypeId} (hu : C.ut t = .str) : P.underlying t = some .string := by
  have := (g.ty t).und
  rw [hu] at this
  exact this
theorem und_int (g : Good P C) {t : TypeId} {k : IntKind} (hu : C.ut t = .int k) : P.underlying t = some (.int k) := by
  have := (g.ty t).und
  rw [hu] at this
  exact this
theorem und_bool (g : Good P C) {t : TypeId} (hu : C.ut t = .bool) : P.underlying t = some .bool := by
  have := (g.ty t).und
  rw [hu] at this
  exact this

/-- A type that is known has an underlying type; it is a struct or an array if the picture says so. -/
theorem run_isAgg (g : Good P C) {t : TypeId} (hk : (C.ut t).known = true) (w : World) : (isAgg t).run P w = .ok (C.ut t).isAgg w := by
  have hu := (g.ty t).und
  revert hu hk
  cases C.ut t with
  | other => intro hk; cases hk
  | int k => intro _ hu; simp [isAgg, run_und hu, UD.isAgg]
  | bool => intro _ hu; simp [isAgg, run_und hu, UD.isAgg]
  | str => intro _ hu; simp [isAgg, run_und hu, UD.isAgg]
  | slice e => intro _ hu; simp [isAgg, run_und hu.1, UD.isAgg]
  | arr n e => intro _ hu; simp [isAgg, run_und hu.1, UD.isAgg]
  | strct fs eq => intro _ hu; obtain ⟨_, hu, _⟩ := hu; simp [isAgg, run_und hu, UD.isAgg]
  | ptr e => intro _ hu; simp [isAgg, run_und hu, UD.isAgg]
  | iface => intro _ hu; obtain ⟨_, hu⟩ := hu; simp [isAgg, run_und hu, UD.isAgg]
  | func => intro _ hu; obtain ⟨_, _, _, hu⟩ := hu; simp [isAgg, run_und hu, UD.isAgg]

/-! ### Aggregates -/

theorem toList_zipIdx_set (l : List Value) : ∀ (k off : Nat) (cs : Array Value), (l.zipIdx k).foldl (fun (cs : Array Value) (p : Value × Nat) => cs.setIfInBounds (off + p.2) p.1) cs = (l.zipIdx k).foldl (fun (cs : Array Value) (p : Value × Nat) => cs.setIfInBounds (off + p.2) p.1) cs := fun _ _ _ => rfl

theorem size_sets (l : List Value) : ∀ (k off : Nat) (cs : Array Value), ((l.zipIdx k).foldl (fun (cs : Array Value) (p : Value × Nat) => cs.setIfInBounds (off + p.2) p.1) cs).size = cs.size := by
  induction l with
  | nil => intro k off cs; rfl
  | cons v l ih => intro k off cs; simp only [List.zipIdx_cons, List.foldl_cons]; rw [ih]; simp

theorem get_sets (l : List Value) : ∀ (k off : Nat) (cs : Array Value) (j : Nat), off + k + l.length ≤ cs.size →
    ((l.zipIdx k).foldl (fun (cs : Array Value) (p : Value × Nat) => cs.setIfInBounds (off + p.2) p.1) cs)[j]? = if off + k ≤ j ∧ j < off + k + l.length then l[j - (off + k)]? else cs[j]? := by
  induction l with
  | nil => intro k off cs j _; simp; intro h1 h2; omega
  | cons v l ih =>
    intro k off cs j hl
    simp only [List.zipIdx_cons, List.foldl_cons]
    simp only [List.length_cons] at hl
    rw [ih (k + 1) off _ j (by simp; omega)]
    by_cases h1 : off + (k + 1) ≤ j ∧ j < off + (k + 1) + l.length
    · rw [if_pos h1, if_pos (by simp; omega)]
      rw [show j - (off + k) = (j - (off + (k + 1))) + 1 from by omega, List.getElem?_cons_succ]
    · rw [if_neg h1]
      by_cases h2 : j = off + k
      · subst h2
        rw [if_pos (by simp)]
        have : off + k < cs.size := by omega
        simp [this]
      · rw [if_neg (by simp; omega), Array.getElem?_setIfInBounds_ne (by omega)]

theorem length_over (cells : List AV) (off : Nat) (new : List AV) (hl : off + new.length ≤ cells.length) : (over cells off new).length = cells.length := by
  simp [over]; omega

theorem get_over (cells : List AV) (off : Nat) (new : List AV) (j : Nat) (hl : off + new.length ≤ cells.length) :
    (over cells off new)[j]? = if off ≤ j ∧ j < off + new.length then new[j - off]? else cells[j]? := by
  unfold over
  by_cases h1 : j < off
  · rw [if_neg (by omega), List.append_assoc, List.getElem?_append_left (by simp; omega), List.getElem?_take_of_lt h1]
  · by_cases h2 : j < off + new.length
    · rw [if_pos (by omega), List.getElem?_append_left (by simp; omega), List.getElem?_append_right (by simp; omega)]
      congr 1
      simp
      omega
    · rw [if_neg (by omega), List.getElem?_append_right (by simp; omega), List.getElem?_drop]
      congr 1
      simp
      omega

theorem CellsRel.over {cs : List Value} {xs : List AV} {new : List AV} {v : Array Value} {off : Nat} (c : CellsRel h φ w cs xs) (n : CellsRel h φ w v.toList new) (hl : off + new.length ≤ xs.length) :
    CellsRel h φ w ((v.zipIdx.foldl (fun (cs : Array Value) (p : Value × Nat) => cs.setIfInBounds (off + p.2) p.1) cs.toArray)).toList (over xs off new) := by
  have hv : v.zipIdx.foldl (fun (cs : Array Value) (p : Value × Nat) => cs.setIfInBounds (off + p.2) p.1) cs.toArray = (v.toList.zipIdx 0).foldl (fun (cs : Array Value) (p : Value × Nat) => cs.setIfInBounds (off + p.2) p.1) cs.toArray := by
    rw [← Array.foldl_toList]
    congr 1
    simp [Array.toList_zipIdx]
  rw [hv]
  have hsz : off + 0 + v.toList.length ≤ cs.toArray.size := by rw [n.1]; simp [c.1]; omega
  refine ⟨by rw [Array.length_toList, size_sets, length_over _ _ _ hl]; simpa using c.1, fun j u x hu hx => ?_⟩
  rw [Array.getElem?_toList, get_sets _ _ _ _ _ hsz] at hu
  rw [get_over _ _ _ _ hl] at hx
  rw [n.1] at hu
  by_cases hj : off ≤ j ∧ j < off + new.length
  · rw [if_pos (by omega)] at hu
    rw [if_pos hj] at hx
    simp only [Nat.add_zero] at hu
    exact n.2 _ _ _ hu hx
  · rw [if_neg (by omega)] at hu
    rw [if_neg hj] at hx
    exact c.2 j u x (by simpa using hu) hx

/-- Parts laid into an aggregate. -/
theorem fillA_rel (place : Nat → Option (Nat × Nat)) (place' : Nat → Option (Nat × Nat)) (hp : ∀ i p, place i = some p → place' i = some p) :
    ∀ (parts : List (Nat × AV)) (parts' : List (Nat × Value)) (xs ys : List AV) (cs : List Value), CellsRel h φ w cs xs → parts'.length = parts.length →
      (∀ (j : Nat) p p', parts[j]? = some p → parts'[j]? = some p' → p'.1 = p.1 ∧ Rel h φ w p'.2 p.2) → fillA place xs parts = some ys →
      ∃ cs' : Array Value, Instr.fill place' cs.toArray parts' = some cs' ∧ CellsRel h φ w cs'.toList ys
  | [], [], xs, ys, cs, hc, _, _, hf => by
    simp only [fillA, Option.some.injEq] at hf
    subst hf
    exact ⟨cs.toArray, rfl, by simpa using hc⟩
  | [], _ :: _, _, _, _, _, hl, _, _ => by simp at hl
  | _ :: _, [], _, _, _, _, hl, _, _ => by simp at hl
  | (i, x) :: parts, (i', v) :: parts', xs, ys, cs, hc, hl, hr, hf => by
    obtain ⟨rfl, hrv⟩ : i' = i ∧ Rel h φ w v x := hr 0 _ _ rfl rfl
    simp only [fillA] at hf
    cases hpl : place i' with
    | none => simp [hpl] at hf
    | some p =>
      obtain ⟨off, size⟩ := p
      simp only [hpl] at hf
      split at hf
      · rename_i hcond
        obtain ⟨h1, h2, h3⟩ := hcond
        obtain ⟨hsz, hcells⟩ := hrv.cellsOf h3
        have hn : CellsRel h φ w v.cells.toList x.cellsOf := ⟨by simpa using hsz, fun j u y hu hy => hcells j u y (by simpa using hu) hy⟩
        have hover := hc.over (off := off) hn (by omega)
        obtain ⟨cs', hfill, hrel⟩ := fillA_rel place place' hp parts parts' _ ys _ hover (by simpa using hl) (fun j p p' a b => hr (j + 1) p p' a b) hf
        refine ⟨cs', ?_, hrel⟩
        simp only [Instr.fill, hp _ _ hpl]
        rw [if_neg]
        · simpa using hfill
        · have := hc.1
          simp
          omega
      · cases hf

theorem zero_rel (g : Good P C) {t : TypeId} (hk : (C.ut t).known = true) : ∃ i z, P.info? t = some i ∧ i.zero = some z ∧ i.size = C.sz t ∧ i.bytes = (C.ti t).bytes ∧ CellsRel h φ w z.cells.toList (C.ti t).zero ∧ (C.ti t).zero.length = C.sz t := by
  obtain ⟨i, z, hi, hz, hs, hb, he, hl, h1⟩ := g.known hk
  refine ⟨i, z, hi, hz, hs, hb, ⟨by rw [← he]; simp, fun j v x hv hx => ?_⟩, hl⟩
  rw [← he] at hx
  simp [hv] at hx
  subst hx
  exact ⟨h1 v (List.mem_of_getElem? hv), .pure (emb_rel _ _ _)⟩

theorem mapM_places (g : Good P C) : ∀ (fs : List Field), (∀ f ∈ fs, (C.ut f.type).known = true) →
    fs.mapM (fun f => (P.info? f.type).map fun i => (f.offset, i.size)) = some (fs.map fun f => (f.offset, C.sz f.type))
  | [], _ => rfl
  | f :: fs, hk => by
    obtain ⟨i, z, hi, _, hs, _⟩ := g.known (hk f (by simp))
    simp only [List.mapM_cons, hi, Option.map_some, hs, Option.bind_eq_bind, Option.bind_some, mapM_places g fs (fun x hx => hk x (by simp [hx])), Option.pure_def, List.map_cons]

theorem CellsRel.agg {cs : Array Value} {xs : List AV} (c : CellsRel h φ w cs.toList xs) : Rel h φ w (.agg cs) (.agg xs) := by
  refine .agg cs xs (by simpa using c.1) (fun j v hv => ?_) (fun j v x hv hx => (c.2 j v x (by simpa using hv) hx).2)
  have hj : j < xs.length := by
    have := (Array.getElem?_eq_some_iff.1 hv).1
    have := c.1
    simp at this
    omega
  exact (c.2 j v xs[j] (by simpa using hv) (List.getElem?_eq_getElem hj)).1

theorem build_ok (g : Good P C) {t : TypeId} {parts : List (Nat × AV)} {parts' : Array (Nat × Value)} {x : AV} (hl : parts'.size = parts.length)
    (hr : ∀ (j : Nat) p p', parts[j]? = some p → parts'[j]? = some p' → p'.1 = p.1 ∧ Rel h φ w p'.2 p.2) (hb : buildA C t parts = some x) : OkV P h φ w (Instr.build t parts') x := by
  unfold buildA at hb
  split at hb
  · rename_i fields eq hu
    obtain ⟨fs, hfu, hff, hfk, _⟩ := und_strct g hu
    obtain ⟨i, z, hi, hz, hs, _, hzr, _⟩ := zero_rel (h := h) (φ := φ) (w := w) g (t := t) (by rw [hu]; rfl)
    obtain ⟨ys, hys, rfl⟩ := Option.map_eq_some_iff.1 hb
    have hpl := mapM_places g fs.toList (fun f hf => (hfk (f.offset, f.type) (by rw [← hff]; exact List.mem_map.2 ⟨f, hf, rfl⟩)).1)
    obtain ⟨cs', h1, h2⟩ := fillA_rel (h := h) (φ := φ) (w := w) _ (fun j => (fs.toList.map fun f => (f.offset, C.sz f.type)).toArray[j]?) (fun j p hp => by
      rw [← hff] at hp
      simpa using hp) parts parts'.toList _ ys _ hzr (by simpa using hl) (fun j p p' a b => hr j p p' a (by simpa using b)) hys
    exact .same (run_build w t parts' cs' (by simp only [Program.built, hi, hfu, hz, hpl]; simpa using h1)) h2.agg
  · rename_i n e hu
    obtain ⟨hfu, hek, _⟩ := und_arr g hu
    obtain ⟨i, z, hi, hz, hs, _, hzr, _⟩ := zero_rel (h := h) (φ := φ) (w := w) g (t := t) (by rw [hu]; rfl)
    obtain ⟨ie, ze, hie, _, hse, _⟩ := g.known hek
    obtain ⟨ys, hys, rfl⟩ := Option.map_eq_some_iff.1 hb
    obtain ⟨cs', h1, h2⟩ := fillA_rel (h := h) (φ := φ) (w := w) _ (fun i => some (i * ie.size, ie.size)) (fun j p hp => by
      split at hp
      · rw [hse]; exact hp
      · cases hp) parts parts'.toList _ ys _ hzr (by simpa using hl) (fun j p p' a b => hr j p p' a (by simpa using b)) hys
    exact .same (run_build w t parts' cs' (by simp only [Program.built, hi, hfu, hz, hie]; simpa using h1)) h2.agg
  · cases hb

theorem part_ok (g : Good P C) {t : TypeId} {cs : Array Value} {xs : List AV} {off : Nat} {x : AV} (hsz : cs.size = xs.length) (h1 : ∀ (j : Nat) v, cs[j]? = some v → v.oneCell' = true)
    (hr : ∀ (j : Nat) v y, cs[j]? = some v → xs[j]? = some y → Rel h φ w v y) (hp : partA C t xs off = some x) : OkV P h φ w (part t cs off) x := by
  by_cases hagg : (C.ut t).isAgg = true
  · have hk : (C.ut t).known = true := by revert hagg; cases C.ut t <;> simp [UD.isAgg, UD.known]
    have hp' : off + C.sz t ≤ xs.length ∧ .agg ((xs.drop off).take (C.sz t)) = x := by
      unfold partA at hp
      revert hp hagg
      cases C.ut t <;> simp [UD.isAgg]
    obtain ⟨hle, rfl⟩ := hp'
    refine .same (v := .agg (cs.extract off (off + C.sz t))) (by simp [part, run_isAgg g hk, hagg, run_sizeOf g hk]) (.agg _ _ (by simp; omega) (fun j v hv => ?_) (fun j v y hv hy => ?_))
    · rw [Array.getElem?_extract] at hv
      split at hv
      · exact h1 _ v hv
      · cases hv
    · rw [Array.getElem?_extract] at hv
      split at hv
      · rename_i hlt
        rw [List.getElem?_take, List.getElem?_drop] at hy
        split at hy
        · exact hr _ v y hv hy
        · cases hy
      · cases hv
  · have hk : (C.ut t).known = true := by
      unfold partA at hp
      revert hp
      cases C.ut t <;> simp [UD.known]
    have hp' : xs[off]? = some x := by
      unfold partA at hp
      revert hp hagg
      cases C.ut t <;> simp [UD.isAgg]
    have hlt : off < cs.size := by rw [hsz]; exact (List.getElem?_eq_some_iff.1 hp').1
    have hv : cs[off]? = some cs[off] := Array.getElem?_eq_getElem hlt
    exact .same (v := cs[off]) (by simp [part, run_isAgg g hk, hagg, hv]) (hr _ _ _ hv hp')

end
end Go.Ab
