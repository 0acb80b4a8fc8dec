/-
  A CONFIGURATION THAT CAME IN: its depth, its stack of points. (The theorem 'open_slice_fields' is of the kit's extra-structs, to be pasted.) Conditions: none.
-/
import Derived.Test.YtfcbamfgejfleaaSameB
import Derived.Test.YtfcbamfgejfleaaAbsEnd
import Derived.Deep.Slices
import Derived.Deep.Fields
import Derived.ChangeSame
import Derived.Lib.SmallJoins
import Derived.Below
namespace Go.Proofs.Ytfcbamfgejfleaa
open Go.Ab Go.Joins Go.ChangeShapes Go.WideShapes Go.RowKit Go.Deep
set_option linter.unusedVariables false
set_option maxRecDepth 100000
section
variable {H : Type} {enc : TypeId × Value → H} {P : Program} {w : World} {base : Nat} {spare : Nat → Bool} {held : Bool}
theorem open_slice_fields {t e : TypeId} {fs : Array Field} {fuel : Nat} {cs : List Value} {x : DataW H × List MemPlace} (ht : P.underlying t = some (.slice e)) (he : P.underlying e = some (.struct fs))
    (hone : oneCellFields P fs = true) (hC : P.cellsOf e = fs.size) (h : DataW.trod enc P w base spare held fuel t cs = some x) :
    (cs = [.slice none 0 0] ∧ x = (.nil, [])) ∨
    ∃ (a : Addr) (len cap m : Nat) (D : Nat → DataW H) (Pl : Nat → List MemPlace), cs = [.slice (some a) len cap] ∧ base ≤ a.block ∧ len ≤ cap ∧ cap ≤ maxLen ∧ m = (if spare a.block then cap else len) ∧
      x = (.slice ((List.range len).map D) ((List.range (m - len)).map fun j => D (len + j)), MemPlace.row a (m * fs.size) ++ (List.range m).flatMap Pl) ∧
      ∀ i, i < m → ∃ (ys : List (DataW H × List MemPlace)) (n : Nat), D i = .agg (ys.map (·.1)) ∧ Pl i = ys.flatMap (·.2) ∧ ys.length = fs.size ∧
        ∀ (j : Nat) (f : Field), fs[j]? = some f → ∃ (v : Value) (y : DataW H × List MemPlace), w.cell? (a.add (i * fs.size + j)) = some v ∧ ys[j]? = some y ∧ DataW.trod enc P w base spare held n f.type [v] = some y := by
  rcases open_slice ht h with h0 | ⟨a, len, cap, m, n, D, Pl, hcs, hb, hl, hm, hmm, hx, hi⟩
  · exact .inl h0
  · refine .inr ⟨a, len, cap, m, D, Pl, hcs, hb, hl, hm, hmm, by rw [hC] at hx; exact hx, fun i him => ?_⟩
    obtain ⟨cs', hc, ht'⟩ := hi i him
    rw [hC] at hc
    obtain ⟨ys, n', hn', hy, hlen, hyl, hf⟩ := DataW.trod_struct he ht'
    obtain ⟨_, hcl, hat⟩ := World.cells?_some hc
    simp only [Prod.mk.injEq] at hy
    refine ⟨ys, n', hy.1, hy.2, hyl, fun j f hj => ?_⟩
    obtain ⟨ho, hk⟩ := hone_of hone j f hj
    have hjl : j < fs.size := (Array.getElem?_eq_some_iff.1 hj).1
    have hcell := hat j hjl
    have hv : cs'[j]? = some (cs'[j]'(by omega)) := List.getElem?_eq_getElem (by omega)
    have h1 := hf j f hj
    rw [ho, hk] at h1
    have hone' : (cs'.drop j).take 1 = [cs'[j]'(by omega)] := by
      rw [List.drop_eq_getElem_cons (by omega)]
      rfl
    rw [hone'] at h1
    have hys : ys[j]? = some (ys[j]'(by omega)) := List.getElem?_eq_getElem (by omega)
    refine ⟨_, _, ?_, hys, h1.trans hys⟩
    rw [← Go.Deep.add_add, hcell, hv]
end

theorem range_pts (g : Nat → Int) : ∀ n, ptA ((List.range n).map fun i => (g (2 * i), g (2 * i + 1))) = (List.range (2 * n)).map fun j => AV.int .i64 (g j)
  | 0 => rfl
  | n + 1 => by
    rw [List.range_succ, List.map_append, show 2 * (n + 1) = 2 * n + 1 + 1 from by omega, List.range_succ, List.range_succ, List.map_append, List.map_append, ← range_pts g n]
    simp [ptA]

theorem prel_pts {w : World} {x : Addr} {len cap : Nat} {g : Nat → Int} (hl : len ≤ cap) (hc : ∀ j, j < 2 * len → w.cell? (x.add j) = some (.int .i64 (g j))) :
    PRel w (fun k _ => k < w.heap.size) (.slice (some x) len cap) (.vec len ((List.range (2 * len)).map fun j => AV.int .i64 (g j))) := by
  by_cases h0 : len = 0
  · subst h0
    exact .vec0 _ _
  · have c0 := hc 0 (by omega)
    obtain ⟨b, o, s⟩ := x
    have hs : s = none := by
      cases s with
      | none => rfl
      | some k =>
        simp only [Addr.add, if_true, World.cell?] at c0
        split at c0 <;> simp at c0
    subst hs
    have hb : b < w.heap.size := by
      simp only [Addr.add, if_true, World.cell?] at c0
      split at c0
      · rename_i hh
        exact (Array.getElem?_eq_some_iff.1 hh).1
      · cases c0
    refine .vec b o len cap _ ((List.range (2 * len)).map fun j => Value.int .i64 (g j)) (fun _ _ => hb) hl (by simp) (fun j v hv => ?_) (fun j v y hv hy => ?_)
    · rw [List.getElem?_map] at hv
      obtain ⟨i, hi, rfl⟩ := Option.map_eq_some_iff.1 hv
      obtain ⟨hlt, rfl⟩ := List.getElem?_eq_some_iff.1 hi
      have hj : j < 2 * len := by simpa using hlt
      have := hc j hj
      rw [WideShapes.add_plain] at this
      rw [this]
      simp [Value.oneCell']
    · rw [List.getElem?_map] at hv hy
      obtain ⟨i, hi, rfl⟩ := Option.map_eq_some_iff.1 hv
      obtain ⟨i', hi', rfl⟩ := Option.map_eq_some_iff.1 hy
      rw [hi] at hi'
      cases hi'
      exact .int _ _

theorem rel_cfg {w : World} {x : Int} {v : Value} {l : List (Int × Int)} (h : PRel w (fun k _ => k < w.heap.size) v (vecP l)) (h1 : v.oneCell' = true) : Rel [] (fun _ => (0, 0)) w (.agg #[.int .i64 x, v]) (cfA x l) := by
  refine .agg _ _ rfl (fun j u hu => ?_) (fun j u y hu hy => ?_)
  · match j with
    | 0 => simp at hu; subst hu; rfl
    | 1 => simp at hu; subst hu; exact h1
    | j + 2 => simp at hu
  · match j with
    | 0 => simp at hu hy; subst hu hy; exact .int_of _ _
    | 1 =>
      simp at hu hy; subst hu hy
      exact .pure (h.mono fun k j hk => ⟨rfl, hk, fun β b hb => by simp at hb⟩)
    | j + 2 => simp at hu

theorem open_cfg {H : Type} {enc : TypeId × Value → H} {W : World} {base : Nat} {v : Value} {d : DataW H} {p : List MemPlace} (hv : Value.okWide Try.prog W .any base 64 v) (h : DataW.Trod enc Try.prog W 0 (fun _ => true) true 64 v d p) :
    ∃ (x : Int) (l : List (Int × Int)), Rel [] (fun _ => (0, 0)) W v (cfA x l) ∧ ((∀ n ∈ d.weights Try.prog 64, n ≤ reachBytes) → l.length * 16 ≤ 140737488351232) := by
  obtain ⟨v0, v1, y0, y1, n, rfl, rfl, rfl, t0, t1⟩ := open_agg2 Try.underlying64 (by kernel_rfl) (by kernel_rfl) hv h
  obtain ⟨x, hx, hy0, _⟩ := DataW.trod_int Try.underlying3 t0
  cases hx
  rcases open_slice_fields Try.underlying62 Try.underlying67 (by kernel_rfl) (by kernel_rfl) t1 with ⟨h1, h2⟩ | ⟨a, len, cap, m, D, Pl, h1, hb, hl, hm, hmm, hx, hi⟩
  · cases h1
    exact ⟨x, [], rel_cfg (.vec0 _ _) rfl, fun _ => by simp⟩
  · cases h1
    simp only [if_true] at hmm
    subst hmm
    have hz : ∀ j, j < 2 * len → ∃ z, W.cell? (a.add j) = some (.int .i64 z) := by
      intro j hj
      obtain ⟨ys, k, _, _, _, hf⟩ := hi (j / 2) (by omega)
      rcases Nat.mod_two_eq_zero_or_one j with hr | hr
      · obtain ⟨u, y, hc, _, ht⟩ := hf 0 _ rfl
        obtain ⟨z, hz, _⟩ := DataW.trod_int Try.underlying3 ht
        cases hz
        refine ⟨z, ?_⟩
        rw [← hc]
        congr 2
        show j = j / 2 * 2 + 0
        omega
      · obtain ⟨u, y, hc, _, ht⟩ := hf 1 _ rfl
        obtain ⟨z, hz, _⟩ := DataW.trod_int Try.underlying3 ht
        cases hz
        refine ⟨z, ?_⟩
        rw [← hc]
        congr 2
        show j = j / 2 * 2 + 1
        omega
    have hg : ∃ g : Nat → Int, ∀ j, j < 2 * len → W.cell? (a.add j) = some (.int .i64 (g j)) := by
      refine ⟨fun j => if h : j < 2 * len then Classical.choose (hz j h) else 0, fun j hj => ?_⟩
      simp only [hj, dif_pos]
      exact Classical.choose_spec (hz j hj)
    obtain ⟨g, hg⟩ := hg
    refine ⟨x, (List.range len).map fun i => (g (2 * i), g (2 * i + 1)), rel_cfg ?_ rfl, fun hw => ?_⟩
    · have := prel_pts hl hg
      rw [← range_pts] at this
      unfold vecP
      simpa using this
    · have h2 := hw ((len + (m - len)) * Try.prog.bytesOf 67) (by subst hx; subst hy0; simp [DataW.weights, DataW.weightsEach, Try.underlying64, Try.underlying62])
      rw [show Try.prog.bytesOf 67 = 16 from by kernel_rfl] at h2
      simp only [reachBytes] at h2
      simp only [List.length_map, List.length_range]
      omega

/-- A call from outside, its arguments structs. -/
theorem law_rel {f : FuncId} {args : List AV} (r : CallA Try.prog cfg f args [] (fun x h' => x = .bool true ∧ h' = [])) (w : World) (cargs : Array Value) (hs : cargs.size = args.length)
    (hr : ∀ (j : Nat) v x, cargs[j]? = some v → args[j]? = some x → Rel [] (fun _ => (0, 0)) w v x) : Calls Try.prog f cargs w fun e w' => e = .returned (.bool true) ∧ Below w.heap.size w w' := by
  have hst : ∀ k, k < w.heap.size → Free [] (fun _ => (0, 0)) w k := fun k hk => ⟨hk, fun β b hb => by simp at hb⟩
  refine (r w.heap.size (fun _ => (0, 0)) w cargs (pic_nil w _ (Nat.le_refl _) globOk) hs hr).mono fun e w' hp => ?_
  obtain ⟨v, x, h', φ', rfl, _, ev, hrel, rfl, _⟩ := hp
  rw [hrel.bool_inv]
  exact ⟨rfl, ev.os, ev.tape, ev.output, ev.size, fun k hk => (ev.keep k (hst k hk)).1⟩
end Go.Proofs.Ytfcbamfgejfleaa
