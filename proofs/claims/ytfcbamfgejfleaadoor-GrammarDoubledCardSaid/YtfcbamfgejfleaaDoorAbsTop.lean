/-
  A CALL FROM OUTSIDE, IN THE PICTURE; and a callee's blocks, given up where the caller's are as they were. Conditions: 'Good': what is known of the program is so.
-/
import Derived.Test.YtfcbamfgejfleaaDoorAbsCfg
namespace Go.Ab
open Go.RowKit

/-- The value leads to blocks below number 'n' alone. -/
inductive Refs (n : Nat) : AV → Prop
  | any : Refs n .any
  | bool (b : Bool) : Refs n (.bool b)
  | int (k : IntKind) (i : Int) : Refs n (.int k i)
  | str (s : ByteArray) : Refs n (.str s)
  | nilp : Refs n .nilp
  | nils : Refs n .nils
  | nilf : Refs n .nilf
  | nili : Refs n .nili
  | vec (m : Nat) (cs : List AV) : Refs n (.vec m cs)
  | cptr (cs : List AV) (o : Nat) : Refs n (.cptr cs o)
  | ptr (β g off : Nat) (hb : β < n) : Refs n (.ptr β g off)
  | own (β g off len : Nat) (hb : β < n) : Refs n (.own β g off len)
  | fn (f : Fn) (a c : List AV) (ha : ∀ x ∈ a, Refs n x) (hc : ∀ x ∈ c, Refs n x) : Refs n (.fn f a c)
  | iface (t : TypeId) (v : AV) (hv : Refs n v) : Refs n (.iface t v)
  | agg (xs : List AV) (hx : ∀ x ∈ xs, Refs n x) : Refs n (.agg xs)
  | tup (xs : List AV) (hx : ∀ x ∈ xs, Refs n x) : Refs n (.tup xs)

section
variable {P : Program} {C : Cfg} {G : Nat → AV} {B : Nat} {h : Heap} {φ : Map} {w : World}

theorem mem_pair {α : Type} {a : Array α} {xs : List AV} (hs : a.size = xs.length) {x : AV} (hx : x ∈ xs) : ∃ (j : Nat) (v : α), a[j]? = some v ∧ xs[j]? = some x := by
  obtain ⟨j, hj, he⟩ := List.mem_iff_getElem.1 hx
  exact ⟨j, a[j]'(by omega), Array.getElem?_eq_getElem (by omega), by rw [List.getElem?_eq_getElem hj, he]⟩

theorem Refs.of_rel {v : Value} {x : AV} (r : Rel h φ w v x) : Refs h.length x := by
  induction r with
  | pure hp => cases hp <;> constructor <;> simp
  | ptr β g off bl b hb hg hv => exact .ptr _ _ _ (List.getElem?_eq_some_iff.1 hb).1
  | own β g off len cap ad b hb _ _ _ _ _ _ => exact .own _ _ _ _ (List.getElem?_eq_some_iff.1 hb).1
  | fn f a c xs ys ha hc hra hrc iha ihc =>
    refine .fn f xs ys (fun x hx => ?_) (fun x hx => ?_)
    · obtain ⟨j, v, h1, h2⟩ := mem_pair ha hx; exact iha j v x h1 h2
    · obtain ⟨j, v, h1, h2⟩ := mem_pair hc hx; exact ihc j v x h1 h2
  | iface t v x hr ih => exact .iface t x ih
  | agg a xs ha h1 hr ih =>
    refine .agg xs fun x hx => ?_
    obtain ⟨j, v, h1, h2⟩ := mem_pair ha hx; exact ih j v x h1 h2
  | tup a xs ha hr ih =>
    refine .tup xs fun x hx => ?_
    obtain ⟨j, v, h1, h2⟩ := mem_pair ha hx; exact ih j v x h1 h2

theorem refs_rel' {n : Nat} {v : Value} {x : AV} (hx : Refs n x) (r : Rel h φ w v x) : Rel (h.take n) φ w v x := by
  induction r with
  | pure hp => exact .pure (hp.take n)
  | ptr β g off bl b hb hg hv => cases hx with | ptr _ _ _ hl => exact .ptr β g off bl b (get_take hb hl) hg hv
  | own β g off len cap ad b hb hg hlc hcm had hn hv => cases hx with | own _ _ _ _ hl => exact .own β g off len cap ad b (get_take hb hl) hg hlc hcm had hn hv
  | fn f a c xs ys ha hc hra hrc iha ihc =>
    cases hx with | fn _ _ _ h1 h2 =>
    exact .fn f a c xs ys ha hc (fun j v x k1 k2 => iha j v x k1 k2 (h1 x (List.mem_of_getElem? k2))) (fun j v x k1 k2 => ihc j v x k1 k2 (h2 x (List.mem_of_getElem? k2)))
  | iface t v x hr ih => cases hx with | iface _ _ h1 => exact .iface t v x (ih h1)
  | agg a xs ha h1 hr ih => cases hx with | agg _ h2 => exact .agg a xs ha h1 (fun j v x k1 k2 => ih j v x k1 k2 (h2 x (List.mem_of_getElem? k2)))
  | tup a xs ha hr ih => cases hx with | tup _ h2 => exact .tup a xs ha (fun j v x k1 k2 => ih j v x k1 k2 (h2 x (List.mem_of_getElem? k2)))

/-- The blocks that the call has made are given up; those that were there are as they were. -/
theorem drop_new {l : Heap} {φ' : Map} {w' : World} (i : Pic G B h φ w) (i' : Pic G B (h ++ l) φ' w') : Pic G B h φ' w' := by
  have ht : (h ++ l).take h.length = h := by simp
  have hget : ∀ {β : Nat} {b : Blk}, h[β]? = some b → (h ++ l)[β]? = some b := fun hb => by
    rw [List.getElem?_append_left (List.getElem?_eq_some_iff.1 hb).1]; exact hb
  refine ⟨fun β b hb hv => ?_, fun β β' b b' hb hb' hv hv' he => i'.inj β β' b b' (hget hb) (hget hb') hv hv' he, fun β b hb hv => i'.base β b (hget hb) hv, fun β b hb hv => i'.virt β b (hget hb) hv, i'.room, fun g => ?_⟩
  · obtain ⟨cur0, _, _, k3, k4⟩ := i.blk β b hb hv
    obtain ⟨cur, h1, h2, h3, h4⟩ := i'.blk β b (hget hb) hv
    refine ⟨cur, h1, h2, h3, fun j v x e1 e2 => ⟨(h4 j v x e1 e2).1, ?_⟩⟩
    have hj : j < cur0.size := Nat.lt_of_lt_of_le (List.getElem?_eq_some_iff.1 e2).1 k3
    have r0 := (k4 j cur0[j] x (Array.getElem?_eq_getElem hj) e2).2
    have := refs_rel' (Refs.of_rel r0) (h4 j v x e1 e2).2
    rw [ht] at this
    exact this
  · have := (i'.glob g).take h.length
    rw [ht] at this
    exact this

/-- What the callee has made becomes plain values; its blocks are given up; the caller's are as they were. -/
theorem CallA.shut {f : FuncId} {args : List AV} {R Q : AV → Heap → Prop} (r : CallA P C f args h R) (hq : ∀ x h1, R x h1 → ∃ l y, h1 = h ++ l ∧ frzT h.length h1 6 x = some y ∧ Q y h) : CallA P C f args h Q := by
  intro B φ w cargs i hs hr
  refine (r B φ w cargs i hs hr).mono fun e w' hp => ?_
  obtain ⟨v, x, h1, φ', rfl, k1, k2, k3, k4⟩ := hp
  obtain ⟨l, y, rfl, q1, q2⟩ := hq x h1 k4
  have ht : (h ++ l).take h.length = h := by simp
  have hr' := frzT_rel k1 h.length 6 v x y q1 k3
  have he := drop_ev k2 (Nat.le_refl _)
  rw [ht] at hr' he
  exact ⟨v, y, h, φ', rfl, drop_new i k1, he, hr', q2⟩

/-- Nothing that was there is known to the picture. -/
theorem pic_nil (w : World) (B : Nat) (hB : B ≤ w.heap.size) (hG : G = fun _ => .any) : Pic G B [] (fun _ => (0, 0)) w :=
  ⟨fun β b hb => by simp at hb, fun β β' b b' hb => by simp at hb, fun β b hb => by simp at hb, fun β b hb => by simp at hb, hB, fun g => by rw [hG]; exact .any _⟩

/-- A call from outside. -/
theorem CallA.top {f : FuncId} {args : List AV} (hG : C.glob = fun _ => .any) (r : CallA P C f args [] (fun x _ => x = .bool true)) (w : World) (cargs : Array Value) (hs : cargs.size = args.length)
    (hr : ∀ (j : Nat) v x, cargs[j]? = some v → args[j]? = some x → PRel w (fun k _ => k < w.heap.size) v x) : Calls P f cargs w fun e w' => e = .returned (.bool true) ∧ Below w.heap.size w w' := by
  have hst : ∀ k, k < w.heap.size → Free [] (fun _ => (0, 0)) w k := fun k hk => ⟨hk, fun β b hb => by simp at hb⟩
  refine (r w.heap.size (fun _ => (0, 0)) w cargs (pic_nil w _ (Nat.le_refl _) hG) hs fun j v x h1 h2 => .pure ((hr j v x h1 h2).mono fun k j hk => ⟨rfl, (hst k hk).stable j⟩)).mono fun e w' hp => ?_
  obtain ⟨v, x, h', φ', rfl, _, ev, hrel, rfl⟩ := hp
  rw [hrel.bool_inv]
  exact ⟨rfl, ev.os, ev.tape, ev.output, ev.size, fun k hk => (ev.keep k (hst k hk)).1⟩

/-- A list of numbers. -/
def vecI (l : List Int) : AV := .vec l.length (l.map (.int .i64))

theorem prel_nil (c : Nat) (a : Option Addr) : PRel w (fun k _ => k < w.heap.size) (.slice a 0 c) (vecI []) := .vec0 a c

theorem prel_row {x : Addr} {len cap : Nat} {zs : List Int} (hl : len ≤ cap) (hz : zs.length = cap) (hc : ∀ i, i < zs.length → w.cell? (x.add i) = some (.int .i64 (zs.getD i 0))) :
    PRel w (fun k _ => k < w.heap.size) (.slice (some x) len cap) (vecI (zs.take len)) := by
  by_cases h0 : len = 0
  · subst h0
    exact .vec0 _ _
  · have hlen : (zs.take len).length = len := by simp; omega
    have c0 := hc 0 (by omega)
    obtain ⟨b, o, s⟩ := x
    have hs : s = none := by
      cases s with
      | none => rfl
      | some k =>
        simp only [Addr.add, if_true, World.cell?] at c0
        split at c0 <;> simp at c0
    subst hs
    have hb : b < w.heap.size := by
      simp only [Addr.add, if_true, World.cell?] at c0
      split at c0
      · rename_i hh
        exact (Array.getElem?_eq_some_iff.1 hh).1
      · cases c0
    have hv : vecI (zs.take len) = .vec len ((zs.take len).map (.int .i64)) := by rw [vecI, hlen]
    rw [hv]
    refine .vec b o len cap _ ((zs.take len).map (.int .i64)) (fun _ _ => hb) hl (by simp) (fun j v hv => ?_) (fun j v y hv hy => ?_)
    · rw [List.getElem?_map, List.getElem?_take] at hv
      split at hv
      · rename_i hj
        have hjz : j < zs.length := by omega
        rw [List.getElem?_eq_getElem hjz] at hv
        simp at hv
        subst hv
        refine ⟨?_, rfl⟩
        have := hc j hjz
        rw [List.getD_eq_getElem?_getD, List.getElem?_eq_getElem hjz] at this
        rw [← show (({ block := b, off := o, spot := none } : Addr).add j) = ⟨b, o + j, none⟩ from by
          unfold Addr.add
          split
          · rename_i h; subst h; rfl
          · rfl]
        exact this
      · simp at hv
    · rw [List.getElem?_map] at hv hy
      cases hq : (zs.take len)[j]? with
      | none => rw [hq] at hv; simp at hv
      | some q =>
        rw [hq] at hv hy
        simp at hv hy
        subst hv hy
        exact .int _ _

/-! ### The picture's heap, behind what was there -/

theorem get_app (h l : Heap) (i : Nat) : (h ++ l)[h.length + i]? = l[i]? := by
  rw [List.getElem?_append_right (by omega), Nat.add_sub_cancel_left]
theorem get_app0 (h l : Heap) : (h ++ l)[h.length]? = l[0]? := by
  rw [List.getElem?_append_right (by omega), Nat.sub_self]
theorem set_app (h l : Heap) (i : Nat) (b : Blk) : (h ++ l).set (h.length + i) b = h ++ l.set i b := by
  rw [List.set_append_right _ _ (by omega), Nat.add_sub_cancel_left]
theorem set_app0 (h l : Heap) (b : Blk) : (h ++ l).set h.length b = h ++ l.set 0 b := by
  rw [List.set_append_right _ _ (by omega), Nat.sub_self]

/-- What is in the slots is let go. -/
theorem RunA.less {c : Code} {sl sl' : List AV} {Q : Exit → St → Prop} (hl : sl'.length = sl.length) (hs : ∀ t, sl'.getD t .any = sl.getD t .any ∨ sl'.getD t .any = .any) (r : RunA P C c ⟨sl', h⟩ Q) : RunA P C c ⟨sl, h⟩ Q := by
  intro B φ w a i s
  refine r B φ w a i ⟨by rw [hl]; exact s.size, fun t => ?_, s.nodef⟩
  rcases hs t with e | e
  · show Rel h φ w _ (sl'.getD t .any)
    rw [e]; exact s.rel t
  · show Rel h φ w _ (sl'.getD t .any)
    rw [e]; exact .any_of _

end
end Go.Ab
