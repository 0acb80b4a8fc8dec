/- A call from outside. -/
import Derived.Test.YtfbjlfhjkojmkaaGreatH214
import Derived.Below
import Derived.WideShapes
section
namespace Go.Ab
open Go.RowKit
def Prels (w : World) : List Value → List AV → Prop
 | [], [] => True
 | v :: vs, x :: xs => kK w (fun k _ => k < w.heap.size) v x ∧ Prels w vs xs
 | _, _ => False
theorem Prels.get {w : World} : ∀ {vs : List Value} {xs : List AV}, Prels w vs xs → vs.length = xs.length ∧ ∀ (j : Nat) v x, vs[j]? = some v → xs[j]? = some x → kK w (fun k _ => k < w.heap.size) v x
 | [], [], _ => ⟨rfl, fun j v x h => by simp at h⟩
 | v :: vs, x :: xs, h => by
  obtain ⟨k1, k2⟩ := Prels.get h.2
  refine ⟨by simp [k1], fun j u y hu hy => ?_⟩
  match j with
  | 0 => simp at hu hy; subst hu hy; exact h.1
  | j + 1 => exact k2 j u y (by simpa using hu) (by simpa using hy)
 | [], _ :: _, h => h.elim
 | _ :: _, [], h => h.elim
theorem CallA.law {P : Program} {C : Cfg} {f : FuncId} {args : List AV} (hG : C.cX = fun _ => .any) (r : CallA P C f args [] (fun x h' => x = .bool true ∧ h' = [])) (w : World) (cargs : Array Value) (hr : Prels w cargs.toList args) :
  Calls P f cargs w fun e w' => e = .returned (.bool true) ∧ Below w.heap.size w w' := by
 obtain ⟨k1, k2⟩ := Prels.get hr
 have hs1 : ∀ k, k < w.heap.size → L0 [] (fun _ => (0, 0)) w k := fun k hk => ⟨hk, fun β b hb => by simp at hb⟩
 have hs2 : ∀ k j, k < w.heap.size → cM [] (fun _ => (0, 0)) w k j := fun k j hk => ⟨hk, fun β b hb => by simp at hb⟩
 have i : Pic C.cX w.heap.size [] (fun _ => (0, 0)) w := ⟨fun β b hb => by simp at hb, fun β β' b b' hb => by simp at hb, fun β b hb => by simp at hb, fun β b hb => by simp at hb, Nat.le_refl _, fun g => by rw [hG]; exact .any _⟩
 refine (r w.heap.size (fun _ => (0, 0)) w cargs i (by simpa using k1) fun j v x h1 h2 => .pure (kK.mono (fun k j hk => ⟨rfl, hs2 k j hk⟩) (k2 j v x (by simpa using h1) h2))).mono fun e w' hp => ?_
 obtain ⟨v, x, h', φ', rfl, _, ev, hrel, rfl, _⟩ := hp
 have hv : v = .bool true := by cases hrel with | pure hp => cases hp; rfl
 subst hv
 exact ⟨rfl, ev.os, ev.tape, ev.output, ev.size, fun k hk => (ev.iW k (hs1 k hk)).1⟩
theorem prel_ints {w : World} {a : Option Addr} {len cap : Nat} {zs : List Int}
  (h : (a = none ∧ len = 0 ∧ cap = 0 ∧ zs = []) ∨ ∃ x, a = some x ∧ len ≤ cap ∧ cap ≤ maxLen ∧ zs.length = cap ∧ (∀ i, i < zs.length → w.cell? (x.add i) = some (.int .i64 (zs.getD i 0))) ∧ ∀ n ∈ zs, (Lit.int .i64 n).wf = true) :
  kK w (fun k _ => k < w.heap.size) (.slice a len cap) (.vec (zs.take len).length ((zs.take len).map (AV.int .i64))) ∧ (zs.take len).length = len ∧ True ∧ True := by
 rcases h with ⟨rfl, rfl, rfl, rfl⟩ | ⟨x, rfl, hl, h2, hz, hc, h5⟩
 ·exact ⟨.wE _ _, rfl, trivial, trivial⟩
 ·have hlen : (zs.take len).length = len := by simp; omega
  refine ⟨?_, hlen, trivial, trivial⟩
  by_cases h0 : len = 0
  ·subst h0; exact .wE _ _
  ·have c0 := hc 0 (by omega)
   obtain ⟨b, o, s⟩ := x
   have hs : s = none := by
    cases s with
    | none => rfl
    | some k => simp only [Addr.add, if_true, World.cell?] at c0; split at c0 <;> simp at c0
   subst hs
   have hb : b < w.heap.size := by
    simp only [Addr.add, if_true, World.cell?] at c0
    split at c0
    ·rename_i hh; exact (Array.getElem?_eq_some_iff.1 hh).1
    ·cases c0
   rw [hlen]
   refine .vec b o len cap _ ((zs.take len).map (Value.int .i64)) (fun _ _ => hb) hl (by simp) (fun j v hv => ?_) (fun j v y hv hy => ?_)
   ·rw [List.getElem?_map] at hv
    obtain ⟨i, hi, rfl⟩ := Option.map_eq_some_iff.1 hv
    have hj := (List.getElem?_eq_some_iff.1 hi).1
    have hj2 : j < zs.length := by simp at hj; omega
    have c1 := hc j hj2
    rw [Go.WideShapes.add_plain] at c1
    have e : zs.getD j 0 = i := by simp [List.getElem?_take] at hi; simp [List.getD, hi.2]
    exact ⟨c1.trans (by rw [e]), rfl⟩
   ·rw [List.getElem?_map] at hv hy
    obtain ⟨i, hi, rfl⟩ := Option.map_eq_some_iff.1 hv
    rw [hi] at hy
    cases hy
    exact .int _ _
end Go.Ab
end
