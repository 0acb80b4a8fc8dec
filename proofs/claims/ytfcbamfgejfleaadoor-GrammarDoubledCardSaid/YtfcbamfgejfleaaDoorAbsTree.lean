/-
  TABLES AS TREES, for the kernel; what is known of a program, off such tables. Conditions: none.
-/
import Derived.Test.YtfcbamfgejfleaaDoorAbsMeth
namespace Go.Ab

inductive Tr (α : Type) where
  | lf (x : α)
  | nd (l r : Tr α)

def Tr.get {α : Type} : Tr α → Nat → α
  | .lf x, _ => x
  | .nd l r, n => match n % 2 with
    | 0 => l.get (n / 2)
    | _ => r.get (n / 2)

def Tr.all {α : Type} (p : α → Bool) : Tr α → Bool
  | .lf x => p x
  | .nd l r => l.all p && r.all p

theorem Tr.get_all {α : Type} {p : α → Bool} : ∀ {t : Tr α} (_ : t.all p = true) (n : Nat), p (t.get n) = true
  | .lf x, h, _ => h
  | .nd l r, h, n => by
    simp only [Tr.all, Bool.and_eq_true] at h
    simp only [Tr.get]
    split
    · exact Tr.get_all h.1 _
    · exact Tr.get_all h.2 _

/-- The entry of a tree of so many. -/
def Tr.at {α : Type} (t : Tr α) (d : α) (n : Nat) (i : Nat) : α := match Nat.blt i n with
  | true => t.get i
  | false => d

theorem Tr.at_out {α : Type} {t : Tr α} {d : α} {n i : Nat} (h : n ≤ i) : t.at d n i = d := by
  unfold Tr.at
  split
  · rename_i hb
    rw [Nat.blt_eq] at hb
    omega
  · rfl

theorem good_tree {P : Program} {C : Cfg} {n m : Nat} {tt : Tr TI} {ft : Tr (Option Func)} (hu : (List.range n).all (fun t => checkU P C t && checkI P C t) = true) (ht : C.ti = tt.at default n) (hf : C.fns = ft.at none m)
    (hfn : ∀ f, f < m → ∀ fn, ft.get f = some fn → P.funcs[f]? = some fn ∧ (fn.name == "runtime.NumGoroutine") = false)
    (hm : ∀ t name f, C.meth t name = some f → ∀ (v : Value) (w : World), (method (P.types.size + Made.depth) t v name).run P w = .ok (f, v) w ∧ (nilAhead (P.types.size + Made.depth) t v name).run P w = .ok (some false) w)
    (hx : P.follows .mixedOrders = true) : Good P C := by
  refine ⟨fun t => ?_, fun f fn h => ?_, hm, hx⟩
  · by_cases htn : t < n
    · have := List.all_eq_true.1 hu t (List.mem_range.2 htn)
      simp only [Bool.and_eq_true] at this
      exact check_ok this.1 this.2
    · have h : C.ut t = .other := by
        show (C.ti t).und = .other
        rw [ht, Tr.at_out (Nat.le_of_not_lt htn)]
        rfl
      refine ⟨by rw [h]; trivial, fun hk => ?_⟩
      rw [h] at hk
      cases hk
  · rw [hf] at h
    unfold Tr.at at h
    split at h
    · rename_i hb
      rw [Nat.blt_eq] at hb
      exact hfn f hb fn h
    · cases h
end Go.Ab
