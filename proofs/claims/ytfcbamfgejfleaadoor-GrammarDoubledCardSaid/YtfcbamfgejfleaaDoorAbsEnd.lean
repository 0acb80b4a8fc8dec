/-
  A CALL FROM OUTSIDE, ITS ARGUMENTS ONE BY ONE. Conditions: 'Good': what is known of the program is so.
-/
import Derived.Test.YtfcbamfgejfleaaDoorAbsTop
namespace Go.Ab
open Go.RowKit

def Prels (w : World) : List Value → List AV → Prop
  | [], [] => True
  | v :: vs, x :: xs => PRel w (fun k _ => k < w.heap.size) v x ∧ Prels w vs xs
  | _, _ => False

theorem Prels.get {w : World} : ∀ {vs : List Value} {xs : List AV}, Prels w vs xs → vs.length = xs.length ∧ ∀ (j : Nat) v x, vs[j]? = some v → xs[j]? = some x → PRel w (fun k _ => k < w.heap.size) v x
  | [], [], _ => ⟨rfl, fun j v x h => by simp at h⟩
  | v :: vs, x :: xs, h => by
    obtain ⟨h1, h2⟩ := h
    obtain ⟨k1, k2⟩ := Prels.get h2
    refine ⟨by simp [k1], fun j u y hu hy => ?_⟩
    match j with
    | 0 => simp at hu hy; subst hu hy; exact h1
    | j + 1 => exact k2 j u y (by simpa using hu) (by simpa using hy)
  | [], _ :: _, h => h.elim
  | _ :: _, [], h => h.elim

/-- A law: a call from outside yields true, and nothing that was there turns. -/
theorem CallA.law {P : Program} {C : Cfg} {f : FuncId} {args : List AV} (hG : C.glob = fun _ => .any) (r : CallA P C f args [] (fun x h' => x = .bool true ∧ h' = [])) (w : World) (cargs : Array Value) (hr : Prels w cargs.toList args) :
    Calls P f cargs w fun e w' => e = .returned (.bool true) ∧ Below w.heap.size w w' := by
  obtain ⟨k1, k2⟩ := Prels.get hr
  exact CallA.top hG (r.mono fun _ _ h => h.1) w cargs (by simpa using k1) fun j v x h1 h2 => k2 j v x (by simpa using h1) h2

/-- A slice of numbers that came in. -/
theorem prel_ints {w : World} {a : Option Addr} {len cap : Nat} {zs : List Int}
    (h : (a = none ∧ len = 0 ∧ cap = 0 ∧ zs = []) ∨ ∃ x, a = some x ∧ len ≤ cap ∧ cap ≤ maxLen ∧ zs.length = cap ∧ (∀ i, i < zs.length → w.cell? (x.add i) = some (.int .i64 (zs.getD i 0))) ∧ ∀ n ∈ zs, (Lit.int .i64 n).wf = true) :
    PRel w (fun k _ => k < w.heap.size) (.slice a len cap) (vecI (zs.take len)) ∧ (zs.take len).length = len ∧ len ≤ maxLen ∧ ∀ n ∈ zs.take len, -9223372036854775808 ≤ n ∧ n < 9223372036854775808 := by
  rcases h with ⟨rfl, rfl, rfl, rfl⟩ | ⟨x, rfl, h1, h2, h3, h4, h5⟩
  · exact ⟨prel_nil _ _, rfl, by omega, by simp⟩
  · refine ⟨prel_row h1 h3 h4, by simp; omega, by omega, fun n hn => ?_⟩
    have := h5 n (List.mem_of_mem_take hn)
    simp only [Lit.wf, Bool.and_eq_true, decide_eq_true_eq] at this
    have e1 : IntKind.min .i64 = -9223372036854775808 := rfl
    have e2 : IntKind.max .i64 = 9223372036854775807 := rfl
    rw [e1, e2] at this
    omega
end Go.Ab
