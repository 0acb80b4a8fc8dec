/-
  WHAT AN OPERATION ON VALUES DOES IN THE PICTURE, IT DOES IN THE MODEL (the statement). Conditions: 'Good': the table of types is the program's.
-/
import Derived.Test.YtfcbamfgejfleaaDoorAbsPureD
namespace Go.Ab
section
variable {P : Program} {C : Cfg} {h : Heap} {φ : Map} {w : World}

/-- An operation of the model yields a value that is the picture's. -/
def OkN (P : Program) (h : Heap) (φ : Map) (w : World) (s : Sem Next) (x : AV) : Prop :=
  ∃ v w', s.run P w = .ok (.value v) w' ∧ w.grownBy w' none ∧ Rel h φ w' v x

theorem OkV.next {s : Sem Value} {x : AV} (hv : OkV P h φ w s x) : OkN P h φ w (do pure (.value (← s))) x := by
  obtain ⟨v, w', h1, h2, h3⟩ := hv
  exact ⟨v, w', by simp [h1], h2, h3⟩

theorem addOff_ok {x z : AV} {u : Value} {n : Nat} (hx : addOff x n = some z) (ru : Rel h φ w u x) : ∃ bl o, u = .pointer (some ⟨bl, o, none⟩) ∧ Rel h φ w (.pointer (some ⟨bl, o + n, none⟩)) z := by
  cases x <;> simp only [addOff, reduceCtorEq, Option.some.injEq] at hx
  · subst hx
    obtain ⟨bl, b, rfl, hb, hg, hv⟩ := ru.ptr_inv
    exact ⟨bl, _, rfl, .ptr _ _ _ _ _ hb hg hv⟩
  · subst hx
    have hp := ru.cptr_inv
    cases hp with
    | cptr b o off cells vs hS hlen hc hr =>
      exact ⟨b, _, rfl, by rw [Nat.add_assoc]; exact .pure (.cptr b o _ _ vs hS hlen hc hr)⟩

theorem optMap_rel {ρc : Operand → Value} {ρ : Operand → AV} (hρ : ∀ x, Rel h φ w (ρc x) (ρ x)) (o : Option Operand) : OptRel h φ w (o.map ρc) (o.map ρ) := by
  cases o with
  | none => exact .inl ⟨rfl, rfl⟩
  | some x => exact .inr ⟨_, _, rfl, rfl, hρ x⟩

theorem list_rel {ρc : Operand → Value} {ρ : Operand → AV} (hρ : ∀ x, Rel h φ w (ρc x) (ρ x)) (l : Array Operand) : (l.map ρc).size = (l.toList.map ρ).length ∧ ∀ (j : Nat) v x, (l.map ρc)[j]? = some v → (l.toList.map ρ)[j]? = some x → Rel h φ w v x := by
  refine ⟨by simp, fun j v x hv hx => ?_⟩
  simp only [Array.getElem?_map, List.getElem?_map, Array.getElem?_toList] at hv hx
  cases hj : l[j]? with
  | none => simp [hj] at hv
  | some o =>
    simp only [hj, Option.map_some, Option.some.injEq] at hv hx
    subst hv hx
    exact hρ o

theorem parts_rel {ρc : Operand → Value} {ρ : Operand → AV} (hρ : ∀ x, Rel h φ w (ρc x) (ρ x)) (l : Array (Nat × Operand)) : (l.map fun (i, x) => (i, ρc x)).size = (l.toList.map fun p => (p.1, ρ p.2)).length ∧
    ∀ (j : Nat) (p : Nat × AV) (p' : Nat × Value), (l.toList.map fun p => (p.1, ρ p.2))[j]? = some p → (l.map fun (i, x) => (i, ρc x))[j]? = some p' → p'.1 = p.1 ∧ Rel h φ w p'.2 p.2 := by
  refine ⟨by simp, fun j p p' hp hp' => ?_⟩
  simp only [Array.getElem?_map, List.getElem?_map, Array.getElem?_toList] at hp hp'
  cases hj : l[j]? with
  | none => simp [hj] at hp
  | some o =>
    simp only [hj, Option.map_some, Option.some.injEq] at hp hp'
    subst hp hp'
    exact ⟨rfl, hρ o.2⟩

theorem stringToBytes_ok {G : Nat → AV} {B : Nat} (i : Pic G B h φ w) (g : Good P C) {s d e : TypeId} {b : ByteArray} (hs : C.ut s = .str) (hd : C.ut d = .slice e) (he : C.ut e = .int .u8) : OkV P h φ w (convert s d (.string b)) (.vec b.size (b.toList.map fun c => .int .u8 c.toNat)) := by
  have hrun := run_bytes_of_string (P := P) w s d e b (und_str g hs) (und_slice g hd).1 (und_int g he)
  have hcap : b.size ≤ grownCap w b.size 0 e := grownCap_ge w b.size 0 e
  have hg : w.grownBy (w.drew.alloc (.cells (bytesRow b (grownCap w b.size 0 e)) e ((bytesRow b (grownCap w b.size 0 e)).size, (bytesRow b (grownCap w b.size 0 e)).size + 1))) none :=
    grownBy_trans (grownBy_drew w) (World.grownBy_alloc _ _ _)
  refine ⟨_, _, hrun, hg, .pure ?_⟩
  have hsz : b.toList.length = b.size := by rw [ByteArray.toList_eq]; rfl
  refine .vec w.heap.size 0 b.size _ _ (b.toList.map fun c => Value.int .u8 c.toNat) (fun m hm => ⟨by simp, fun β bk hb hv he => ?_⟩) hcap (by simp) (fun j v hv => ?_) (fun j v x hv hx => ?_)
  · have := i.lt hb hv
    omega
  · rw [Nat.zero_add, show w.heap.size = w.drew.heap.size from rfl, World.cell?_alloc_mark]
    have hj : j < b.data.size := by
      have := (List.getElem?_eq_some_iff.1 hv).1
      simp at this
      rw [hsz] at this
      exact this
    rw [bytesRow_at b _ j hj]
    simp only [List.getElem?_map, ByteArray.toList_eq] at hv
    simp only [Array.getElem?_toList, Array.getElem?_eq_getElem hj, Option.map_some, Option.some.injEq] at hv
    subst hv
    exact ⟨rfl, rfl⟩
  · simp only [List.getElem?_map] at hv hx
    cases hj : b.toList[j]? with
    | none => simp [hj] at hv
    | some c =>
      simp [hj] at hv hx
      subst hv hx
      exact .int _ _


theorem index_own {β gn off len : Nat} {e t : TypeId} {u : Value} {n : Int} (g : Good P C) (hu : C.ut t = .slice e) (ru : Rel h φ w u (.own β gn off len)) (k : IntKind) (h0 : 0 ≤ n) (h1 : n < (len : Int)) :
    OkV P h φ w (Instr.indexAt t u (.int k n)) (.ptr β gn (off + n.toNat * C.sz e)) := by
  obtain ⟨hue, hke⟩ := und_slice g hu
  obtain ⟨ad, cap, bk, rfl, hbk, hg, hlc, hcm, had, hn, hv⟩ := ru.own_inv
  obtain ⟨bl, rfl⟩ := had (by omega)
  refine .same (v := .pointer (some ⟨bl, off + n.toNat * C.sz e, none⟩)) ?_ (.ptr _ _ _ bl bk hbk hg fun he hvv => ?_)
  · simp [Instr.indexAt, asIntOf, run_und hue, h0, h1, run_sizeOf g hke, Addr.add_lit]
  · have := (hv he hvv).1
    simp only [Option.some.injEq, Addr.mk.injEq, and_true] at this
    exact this

theorem index_vec {len : Nat} {cells : List AV} {e t : TypeId} {u : Value} {n : Int} (g : Good P C) (hu : C.ut t = .slice e) (ru : Rel h φ w u (.vec len cells)) (k : IntKind) (h0 : 0 ≤ n) (h1 : n < (len : Int)) :
    OkV P h φ w (Instr.indexAt t u (.int k n)) (.cptr cells (n.toNat * C.sz e)) := by
  obtain ⟨hue, hke⟩ := und_slice g hu
  have hp := ru.vec_inv
  cases hp with
  | vec0 a c => omega
  | vec b o n' c _ vs hS hnc hlen hc hr =>
    exact .same (v := .pointer (some ⟨b, o + n.toNat * C.sz e, none⟩)) (by simp [Instr.indexAt, asIntOf, run_und hue, h0, h1, run_sizeOf g hke, Addr.add_lit]) (.pure (.cptr b o _ _ vs hS hlen hc hr))

theorem index_arr {m : Nat} {e t : TypeId} {x z : AV} {u : Value} {n : Int} (g : Good P C) (hu : C.ut t = .arr m e) (ru : Rel h φ w u x) (k : IntKind) (h0 : 0 ≤ n) (h1 : n < (m : Int)) (hz : addOff x (n.toNat * C.sz e) = some z) :
    OkV P h φ w (Instr.indexAt t u (.int k n)) z := by
  obtain ⟨hue, hke, _⟩ := und_arr g hu
  obtain ⟨bl, o, rfl, hr⟩ := addOff_ok hz ru
  refine .same ?_ hr
  simp [Instr.indexAt, Instr.sureAddr, asIntOf, run_und hue, h0, h1, run_sizeOf g hke, Addr.add_lit]

theorem len_ok (g : Good P C) {t ty : TypeId} {x z : AV} {u : Value} (ru : Rel h φ w u x) (hz : lenA C t x = some z) : OkV P h φ w (Builtin.len_ #[t] ty #[u]) z := by
  unfold lenA at hz
  split at hz
  · rename_i s ru hu
    cases ru.str_inv; cases hz
    exact .same (by simp [Builtin.len_, run_und (und_str g hu), goInt]) (.int_of _ _)
  · rename_i e ru hu
    cases ru.nils_inv; cases hz
    exact .same (by simp [Builtin.len_, run_und (und_slice g hu).1, goInt]) (.int_of _ _)
  · rename_i e n cells ru hu
    cases hz
    have hp := ru.vec_inv
    cases hp with
    | vec0 a c => exact .same (by simp [Builtin.len_, run_und (und_slice g hu).1, goInt]) (.int_of _ _)
    | vec b o n' c _ vs => exact .same (by simp [Builtin.len_, run_und (und_slice g hu).1, goInt]) (.int_of _ _)
  · rename_i e β gn off n ru hu
    cases hz
    obtain ⟨ad, cap, bk, rfl, _⟩ := ru.own_inv
    exact .same (by simp [Builtin.len_, run_und (und_slice g hu).1, goInt]) (.int_of _ _)
  · rename_i n e hu
    cases hz
    exact .same (by simp [Builtin.len_, run_und (und_arr g hu).1, goInt]) (.int_of _ _)
  · cases hz

theorem cap_ok (g : Good P C) {t ty : TypeId} {x z : AV} {u : Value} (ru : Rel h φ w u x) (hz : capA C t x = some z) : OkV P h φ w (Builtin.cap_ #[t] ty #[u]) z := by
  unfold capA at hz
  split at hz
  · rename_i e ru hu
    cases ru.nils_inv; cases hz
    exact .same (by simp [Builtin.cap_, run_und (und_slice g hu).1, goInt]) (.int_of _ _)
  · cases hz

theorem callPureA_ok (g : Good P C) {ρc : Operand → Value} {ρ : Operand → AV} (hρ : ∀ x, Rel h φ w (ρc x) (ρ x)) {c : Call} {ty : TypeId} {x : AV} (hp : callPureA C ρ c = some x) :
    OkN P h φ w (do let d ← resolve ρc c ty; invoke d.target d.args) x := by
  obtain ⟨callee, args, argTypes⟩ := c
  unfold callPureA at hp
  split at hp
  · rename_i hc
    simp only at hc
    subst hc
    split at hp
    · rename_i y t ha ht
      simp only at ha ht
      have ha' : args = #[y] := by cases args; simpa using ha
      have ht' : argTypes = #[t] := by cases argTypes; simpa using ht
      subst ha' ht'
      obtain ⟨v, w', h1, h2, h3⟩ := len_ok g (ty := ty) (hρ y) hp
      exact ⟨v, w', by simp [resolve, invoke, builtin, h1], h2, h3⟩
    · cases hp
  · rename_i hc
    simp only at hc
    subst hc
    split at hp
    · rename_i y t ha ht
      simp only at ha ht
      have ha' : args = #[y] := by cases args; simpa using ha
      have ht' : argTypes = #[t] := by cases argTypes; simpa using ht
      subst ha' ht'
      obtain ⟨v, w', h1, h2, h3⟩ := cap_ok g (ty := ty) (hρ y) hp
      exact ⟨v, w', by simp [resolve, invoke, builtin, h1], h2, h3⟩
    · cases hp
  · rename_i hc
    simp only at hc
    subst hc
    split at hp
    · rename_i y z ha
      simp only at ha
      have ha' : args = #[y, z] := by cases args; simpa using ha
      subst ha'
      unfold minA at hp
      split at hp
      · rename_i k a k' b heq
        cases hp
        simp only [List.cons.injEq, and_true] at heq
        have r1 := (heq.1 ▸ hρ y : Rel h φ w (ρc y) (.int k a)).int_inv
        have r2 := (heq.2 ▸ hρ z : Rel h φ w (ρc z) (.int k' b)).int_inv
        refine ⟨.int k (if b < a then b else a), w, ?_, grownBy_refl w, .int_of _ _⟩
        simp [resolve, invoke, builtin, Builtin.min_, Builtin.min2, r1, r2]
      · cases hp
    · cases hp
  · rename_i hc
    simp only at hc
    subst hc
    split at hp
    · rename_i y z ha
      simp only at ha
      have ha' : args = #[y, z] := by cases args; simpa using ha
      subst ha'
      unfold maxA at hp
      split at hp
      · rename_i k a k' b heq
        cases hp
        simp only [List.cons.injEq, and_true] at heq
        have r1 := (heq.1 ▸ hρ y : Rel h φ w (ρc y) (.int k a)).int_inv
        have r2 := (heq.2 ▸ hρ z : Rel h φ w (ρc z) (.int k' b)).int_inv
        refine ⟨.int k (if b > a then b else a), w, ?_, grownBy_refl w, .int_of _ _⟩
        simp [resolve, invoke, builtin, Builtin.max_, Builtin.max2, r1, r2]
      · cases hp
    · cases hp
  · cases hp

theorem pureA_ok {G : Nat → AV} {B : Nat} (i : Pic G B h φ w) (g : Good P C) {ρc : Operand → Value} {ρ : Operand → AV} (hρ : ∀ x, Rel h φ w (ρc x) (ρ x)) {o : Oper} {x : AV} (hp : pureA C ρ o.op = some x) :
    OkN P h φ w (execOp ρc o) x := by
  obtain ⟨dst, op, type, pos, after, guard⟩ := o
  simp only at hp
  unfold pureA at hp
  split at hp
  · cases hp
    exact ⟨_, w, rfl, grownBy_refl w, hρ _⟩
  · cases hp
    exact ⟨_, w, rfl, grownBy_refl w, hρ _⟩
  · rename_i c a b
    split at hp
    · rename_i t ht
      cases hp
      have hc := (ht ▸ hρ c : Rel h φ w (ρc c) (.bool t)).bool_inv
      refine ⟨if t then ρc a else ρc b, w, by simp only [execOp, hc, asBool, Sem.run_bind, Sem.run_pure, Result.andThen_ok], grownBy_refl w, ?_⟩
      cases t <;> exact hρ _
    · cases hp
  · rename_i t parts
    obtain ⟨h1, h2⟩ := parts_rel hρ parts
    exact (build_ok g h1 h2 hp).next
  · rename_i y
    split at hp
    · rename_i β gn off hy
      cases hp
      have hr : Rel h φ w (ρc y) _ := hy ▸ hρ y
      obtain ⟨bl, b, hv, _⟩ := hr.ptr_inv
      exact ⟨_, w, by simp only [execOp, hv]; rfl, grownBy_refl w, hv ▸ hr⟩
    · rename_i cells off hy
      cases hp
      have hr : Rel h φ w (ρc y) _ := hy ▸ hρ y
      have hv : ∃ a, ρc y = .pointer (some a) := by
        have hp' := hr.cptr_inv
        generalize ρc y = v at hp'
        cases hp'
        exact ⟨_, rfl⟩
      obtain ⟨a, hv⟩ := hv
      exact ⟨_, w, by simp only [execOp, hv]; rfl, grownBy_refl w, hv ▸ hr⟩
    · rename_i f a b hy
      cases hp
      have hr : Rel h φ w (ρc y) _ := hy ▸ hρ y
      obtain ⟨a', c', hv, _⟩ := hr.fn_inv
      exact ⟨_, w, by simp only [execOp, hv]; rfl, grownBy_refl w, hv ▸ hr⟩
    · cases hp
  · rename_i op t y z yt
    exact (binA_ok g hp (hρ y) (hρ z)).next
  · rename_i op t y
    exact (unA_ok hp (hρ y)).next
  · rename_i s d y
    refine OkV.next (s := convert s d (ρc y)) ?_
    split at hp
    · rename_i k0 k k' n hs hd hy
      cases hp
      have hv := (hy ▸ hρ y : Rel h φ w (ρc y) _).int_inv
      rw [hv]
      exact .same (by simp [convert, run_und (und_int g hs), run_und (und_int g hd), Conv.intToInt]) (.int_of _ _)
    · rename_i b hs hd hy
      cases hp
      have hv := (hy ▸ hρ y : Rel h φ w (ρc y) _).str_inv
      rw [hv]
      exact .same (by simp [convert, run_und (und_str g hs), run_und (und_str g hd)]) (.str_of _)
    · rename_i e b hs hd hy
      split at hp
      · rename_i he
        cases hp
        have hv := (hy ▸ hρ y : Rel h φ w (ρc y) _).str_inv
        rw [hv]
        exact stringToBytes_ok i g hs hd he
      · cases hp
    · cases hp
  · rename_i t y
    refine OkV.next (s := Instr.makeInterface t (ρc y)) ?_
    have hu := (g.ty t).und
    split at hp
    · cases hp
    · cases hp
    · cases hp
      revert hu
      cases hut : C.ut t <;> intro hu
      case other => simp_all
      case iface => simp_all
      case int k => exact .same (by simp [Instr.makeInterface, run_und hu]) (.iface _ _ _ (hρ y))
      case bool => exact .same (by simp [Instr.makeInterface, run_und hu]) (.iface _ _ _ (hρ y))
      case str => exact .same (by simp [Instr.makeInterface, run_und hu]) (.iface _ _ _ (hρ y))
      case slice e => exact .same (by simp [Instr.makeInterface, run_und hu.1]) (.iface _ _ _ (hρ y))
      case arr n e => exact .same (by simp [Instr.makeInterface, run_und hu.1]) (.iface _ _ _ (hρ y))
      case strct fs eq => obtain ⟨_, hu, _⟩ := hu; exact .same (by simp [Instr.makeInterface, run_und hu]) (.iface _ _ _ (hρ y))
      case ptr e => exact .same (by simp [Instr.makeInterface, run_und hu]) (.iface _ _ _ (hρ y))
      case func => obtain ⟨_, _, _, hu⟩ := hu; exact .same (by simp [Instr.makeInterface, run_und hu]) (.iface _ _ _ (hρ y))
  · rename_i f first captured
    cases hp
    obtain ⟨h1, h2⟩ := list_rel hρ first
    obtain ⟨h3, h4⟩ := list_rel hρ captured
    exact ⟨_, w, rfl, grownBy_refl w, .fn _ _ _ _ _ h1 h3 h2 h4⟩
  · rename_i t y lo hi
    exact (sliceA_ok g hp (hρ y) (optMap_rel hρ lo) (optMap_rel hρ hi)).next
  · rename_i t y f
    refine OkV.next (s := Instr.fieldAt t (ρc y) f) ?_
    split at hp
    · rename_i fields eq hu
      obtain ⟨fs, hfu, hff, hfk, _⟩ := und_strct g hu
      split at hp
      · rename_i fd hfd
        split at hp
        · cases hp
        · rename_i hz
          obtain ⟨bl, o, hv, hr⟩ := addOff_ok hp (hρ y)
          have hmem : fd ∈ fields := List.mem_of_getElem? hfd
          have hff' : ∃ ff : Field, fs[f]? = some ff ∧ (ff.offset, ff.type) = fd := by
            rw [← hff] at hfd
            simpa [List.getElem?_map, Option.map_eq_some_iff] using hfd
          obtain ⟨ff, hff1, rfl⟩ := hff'
          refine .same (v := .pointer (some ⟨bl, o + ff.offset, none⟩)) ?_ hr
          rw [hv]
          simp [Instr.fieldAt, run_und hfu, hff1, Instr.sureAddr, fieldPlace, run_sizeOf g (hfk _ hmem).1, hz, Addr.add_lit]
      · cases hp
    · cases hp
  · rename_i t y f
    refine OkV.next (s := Instr.field t (ρc y) f) ?_
    split at hp
    · rename_i fields eq xs hu hy
      obtain ⟨fs, hfu, hff, hfk, _⟩ := und_strct g hu
      split at hp
      · rename_i fd hfd
        have hff' : ∃ ff : Field, fs[f]? = some ff ∧ (ff.offset, ff.type) = fd := by
          rw [← hff] at hfd
          simpa [List.getElem?_map, Option.map_eq_some_iff] using hfd
        obtain ⟨ff, hff1, rfl⟩ := hff'
        obtain ⟨cs, hv, hsz, h1, hr⟩ := (hy ▸ hρ y : Rel h φ w (ρc y) _).agg_inv
        obtain ⟨v, hrun, hrel⟩ := part_run g hsz h1 hr hp
        refine .same (v := v) ?_ hrel
        rw [hv]
        simp [Instr.field, run_und hfu, hff1, asAgg, hrun]
      · cases hp
    · cases hp
  · rename_i t y ix
    refine OkV.next (s := Instr.indexAt t (ρc y) (ρc ix)) ?_
    split at hp
    · rename_i e k n hu hix
      have hv := (hix ▸ hρ ix : Rel h φ w (ρc ix) _).int_inv
      rw [hv]
      split at hp
      · rename_i β gn off len hy
        split at hp
        · rename_i hc
          cases hp
          exact index_own g hu (hy ▸ hρ y) k hc.1 hc.2
        · cases hp
      · rename_i len cells hy
        split at hp
        · rename_i hc
          cases hp
          exact index_vec g hu (hy ▸ hρ y) k hc.1 hc.2
        · cases hp
      · cases hp
    · rename_i m e k n hu hix
      have hv := (hix ▸ hρ ix : Rel h φ w (ρc ix) _).int_inv
      rw [hv]
      split at hp
      · rename_i hc
        exact index_arr g hu (hρ y) k hc.1 hc.2 hp
      · cases hp
    · cases hp
  · rename_i t y ix
    refine OkV.next (s := Instr.index t (ρc y) (ρc ix)) ?_
    split at hp
    · rename_i s k n hu hy hix
      have hv := (hix ▸ hρ ix : Rel h φ w (ρc ix) _).int_inv
      have hv2 := (hy ▸ hρ y : Rel h φ w (ρc y) _).str_inv
      rw [hv, hv2]
      split at hp
      · rename_i h0
        split at hp
        · rename_i b hb
          cases hp
          exact .same (by simp [Instr.index, asIntOf, run_und (und_str g hu), h0, hb]) (.int_of _ _)
        · cases hp
      · cases hp
    · rename_i m e xs k n hu hy hix
      have hv := (hix ▸ hρ ix : Rel h φ w (ρc ix) _).int_inv
      obtain ⟨hue, hke, _⟩ := und_arr g hu
      obtain ⟨cs, hv2, hsz, h1, hr⟩ := (hy ▸ hρ y : Rel h φ w (ρc y) _).agg_inv
      rw [hv, hv2]
      split at hp
      · rename_i hc
        obtain ⟨v, hrun, hrel⟩ := part_run g hsz h1 hr hp
        exact .same (v := v) (by simp [Instr.index, asIntOf, run_und hue, hc.1, hc.2, run_sizeOf g hke, hrun]) hrel
      · cases hp
    · cases hp
  · rename_i t ix
    refine OkV.next (s := Instr.extract (ρc t) ix) ?_
    split at hp
    · rename_i xs ht
      obtain ⟨cs, hv, hsz, hr⟩ := (ht ▸ hρ t : Rel h φ w (ρc t) _).tup_inv
      have hlt : ix < cs.size := by rw [hsz]; exact (List.getElem?_eq_some_iff.1 hp).1
      have hc : cs[ix]? = some cs[ix] := Array.getElem?_eq_getElem hlt
      rw [hv]
      exact .same (v := cs[ix]) (by simp [Instr.extract, hc]) (hr _ _ _ hc hp)
    · cases hp
  · exact callPureA_ok g hρ hp
  · cases hp
end
end Go.Ab
