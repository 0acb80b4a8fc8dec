/-
  METHODS THAT AN INTERFACE VALUE HOLDS: a table that the kernel holds against the program. Conditions: none.
-/
import Derived.Test.YtfcbamfgejfleaaDoorAbsCfg
namespace Go.Ab
variable {P : Program}

def checkM (P : Program) (x : TypeId × String × FuncId) : Bool :=
  match P.info? x.1 with
  | some i => match i.methods.find? (·.name == x.2.1) with
    | some m => m.path.isEmpty && (match m.func with
      | some (g, false) => Nat.beq g x.2.2
      | _ => false) && (match P.underlying x.1 with
      | some (.struct _) => true
      | _ => false)
    | none => false
  | none => false

def lookM : List (TypeId × String × FuncId) → TypeId → String → Option FuncId
  | [], _, _ => none
  | (t, n, f) :: rest, t', n' => match Nat.beq t t' with
    | true => match n == n' with
      | true => some f
      | false => lookM rest t' n'
    | false => lookM rest t' n'

theorem lookM_mem : ∀ {tab : List (TypeId × String × FuncId)} {t : TypeId} {n : String} {f : FuncId}, lookM tab t n = some f → (t, n, f) ∈ tab
  | [], _, _, _, h => by simp [lookM] at h
  | (t, n, f) :: rest, t', n', f', h => by
    simp only [lookM] at h
    split at h
    · rename_i ht
      split at h
      · rename_i hn
        cases h
        rw [Nat.eq_of_beq_eq_true ht, eq_of_beq hn]
        exact List.mem_cons_self
      · exact List.mem_cons_of_mem _ (lookM_mem h)
    · exact List.mem_cons_of_mem _ (lookM_mem h)

theorem meth_of {tab : List (TypeId × String × FuncId)} (h : tab.all (checkM P) = true) (t : TypeId) (name : String) (f : FuncId) (hl : lookM tab t name = some f) (v : Value) (w : World) :
    (method (P.types.size + Made.depth) t v name).run P w = .ok (f, v) w ∧ (nilAhead (P.types.size + Made.depth) t v name).run P w = .ok (some false) w := by
  have hc := List.all_eq_true.1 h _ (lookM_mem hl)
  unfold checkM at hc
  split at hc
  · rename_i i hi
    split at hc
    · rename_i m hm
      simp only [Bool.and_eq_true] at hc
      obtain ⟨⟨h1, h2⟩, h3⟩ := hc
      split at h2
      · rename_i g hg
        have hgf := Nat.eq_of_beq_eq_true h2
        subst hgf
        split at h3
        · rename_i fs hu
          obtain ⟨n, hn⟩ : ∃ n, P.types.size + Made.depth = n + 1 := ⟨P.types.size + 99, by simp [Made.depth]⟩
          have hp : m.path.toList = [] := by simpa using h1
          rw [hn]
          simp only at hi hm hu
          constructor
          · simp [method, typeInfo, hi, hm, hp, hg, follow, receiverAt, run_underlying hu, Place.get]
          · simp [nilAhead, typeInfo, hi, hm, hp, hg, followBlind, run_underlying hu]
        · cases h3
      · cases h2
    · cases hc
  · cases hc
end Go.Ab
