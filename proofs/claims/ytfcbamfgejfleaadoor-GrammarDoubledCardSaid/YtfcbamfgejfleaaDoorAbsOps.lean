/-
  WHAT THE OPERATIONS DO IN THE PICTURE, THEY DO IN THE MODEL: values alone. Conditions: 'Good': the table of types is the program's.
-/
import Derived.Test.YtfcbamfgejfleaaDoorAbsRel
namespace Go.Ab

/-- The table of types is the program's. -/
structure TOk (P : Program) (C : Cfg) (t : TypeId) : Prop where
  und : match C.ut t with
    | .other => True
    | .int k => P.underlying t = some (.int k)
    | .bool => P.underlying t = some .bool
    | .str => P.underlying t = some .string
    | .slice e => P.underlying t = some (.slice e) ∧ (C.ut e).known = true
    | .arr n e => P.underlying t = some (.array n e) ∧ (C.ut e).known = true ∧ n * C.sz e = C.sz t
    | .strct fields eq => ∃ fs : Array Field, P.underlying t = some (.struct fs) ∧ fs.toList.map (fun f => (f.offset, f.type)) = fields ∧ (∀ f ∈ fields, (C.ut f.2).known = true ∧ f.1 + C.sz f.2 ≤ C.sz t) ∧
        (eq = true → P.stoodInHeld t = false ∧ P.eqGuardType P.depth t = false ∧ ∀ f ∈ fs.toList, f.name ≠ "_")
    | .ptr e => P.underlying t = some (.pointer e)
    | .iface => ∃ ms, P.underlying t = some (.interface ms)
    | .func => ∃ a b c, P.underlying t = some (.func a b c)
  info : (C.ut t).known = true → ∃ i z, P.info? t = some i ∧ i.zero = some z ∧ i.size = C.sz t ∧ i.bytes = (C.ti t).bytes ∧ z.cells.toList.map emb = (C.ti t).zero ∧ (C.ti t).zero.length = C.sz t ∧ ∀ v ∈ z.cells.toList, v.oneCell' = true

/-- What is known of the program is so. -/
structure Good (P : Program) (C : Cfg) : Prop where
  ty : ∀ t, TOk P C t
  fns : ∀ f fn, C.fns f = some fn → P.funcs[f]? = some fn ∧ (fn.name == "runtime.NumGoroutine") = false
  meth : ∀ t name f, C.meth t name = some f → ∀ (v : Value) (w : World), (method (P.types.size + Made.depth) t v name).run P w = .ok (f, v) w ∧ (nilAhead (P.types.size + Made.depth) t v name).run P w = .ok (some false) w
  mixed : P.follows .mixedOrders = true

/-! ### Reading a relation backwards -/
section
variable {h : Heap} {φ : Map} {w : World} {v : Value}
theorem Rel.int_inv {k : IntKind} {n : Int} (r : Rel h φ w v (.int k n)) : v = .int k n := by cases r with | pure hp => cases hp; rfl
theorem Rel.bool_inv {b : Bool} (r : Rel h φ w v (.bool b)) : v = .bool b := by cases r with | pure hp => cases hp; rfl
theorem Rel.str_inv {s : ByteArray} (r : Rel h φ w v (.str s)) : v = .string s := by cases r with | pure hp => cases hp; rfl
theorem Rel.nilp_inv (r : Rel h φ w v .nilp) : v = .pointer none := by cases r with | pure hp => cases hp; rfl
theorem Rel.nils_inv (r : Rel h φ w v .nils) : v = .slice none 0 0 := by cases r with | pure hp => cases hp; rfl
theorem Rel.agg_inv {xs : List AV} (r : Rel h φ w v (.agg xs)) : ∃ a : Array Value, v = .agg a ∧ a.size = xs.length ∧ (∀ (j : Nat) v, a[j]? = some v → v.oneCell' = true) ∧ (∀ (j : Nat) v x, a[j]? = some v → xs[j]? = some x → Rel h φ w v x) := by
  cases r with
  | pure hp => cases hp
  | agg a _ ha h1 hr => exact ⟨a, rfl, ha, h1, hr⟩
theorem Rel.tup_inv {xs : List AV} (r : Rel h φ w v (.tup xs)) : ∃ a : Array Value, v = .tuple a ∧ a.size = xs.length ∧ (∀ (j : Nat) v x, a[j]? = some v → xs[j]? = some x → Rel h φ w v x) := by
  cases r with
  | pure hp => cases hp
  | tup a _ ha hr => exact ⟨a, rfl, ha, hr⟩
theorem Rel.vec_inv {n : Nat} {cells : List AV} (r : Rel h φ w v (.vec n cells)) : PRel w (Stable h φ w) v (.vec n cells) := by cases r with | pure hp => exact hp
theorem Rel.cptr_inv {off : Nat} {cells : List AV} (r : Rel h φ w v (.cptr cells off)) : PRel w (Stable h φ w) v (.cptr cells off) := by cases r with | pure hp => exact hp
theorem Rel.ptr_inv {β g off : Nat} (r : Rel h φ w v (.ptr β g off)) : ∃ (bl : Nat) (b : Blk), v = .pointer (some ⟨bl, off, none⟩) ∧ h[β]? = some b ∧ g ≤ b.gen ∧ (g = b.gen → b.virt = false → bl = (φ β).1) := by
  cases r with
  | pure hp => cases hp
  | ptr _ _ _ bl b hb hg hv => exact ⟨bl, b, rfl, hb, hg, hv⟩
theorem Rel.own_inv {β g off len : Nat} (r : Rel h φ w v (.own β g off len)) : ∃ (ad : Option Addr) (cap : Nat) (b : Blk), v = .slice ad len cap ∧ h[β]? = some b ∧ g ≤ b.gen ∧ len ≤ cap ∧ cap ≤ maxLen ∧
    (0 < len → ∃ bl, ad = some ⟨bl, off, none⟩) ∧ (g = b.gen → b.virt = true → ad = none ∧ cap = 0) ∧
    (g = b.gen → b.virt = false → ad = some ⟨(φ β).1, off, none⟩ ∧ (off = 0 → cap * b.esz = (φ β).2)) := by
  cases r with
  | pure hp => cases hp
  | own _ _ _ _ cap ad b hb hg hlc hcm had hn hv => exact ⟨ad, cap, b, rfl, hb, hg, hlc, hcm, had, hn, hv⟩
theorem Rel.fn_inv {f : Fn} {xs ys : List AV} (r : Rel h φ w v (.fn f xs ys)) : ∃ a c : Array Value, v = .func f a c ∧ a.size = xs.length ∧ c.size = ys.length ∧
    (∀ (j : Nat) v x, a[j]? = some v → xs[j]? = some x → Rel h φ w v x) ∧ (∀ (j : Nat) v x, c[j]? = some v → ys[j]? = some x → Rel h φ w v x) := by
  cases r with
  | pure hp => cases hp; exact ⟨#[], #[], rfl, rfl, rfl, by simp, by simp⟩
  | fn _ a c _ _ ha hc hra hrc => exact ⟨a, c, rfl, ha, hc, hra, hrc⟩
theorem Rel.iface_inv {t : TypeId} {x : AV} (r : Rel h φ w v (.iface t x)) : ∃ u, v = .iface t u ∧ Rel h φ w u x := by
  cases r with
  | pure hp => cases hp
  | iface _ u _ hr => exact ⟨u, rfl, hr⟩
theorem Rel.any_of (v : Value) : Rel h φ w v .any := .pure (.any v)
theorem Rel.int_of (k : IntKind) (n : Int) : Rel h φ w (.int k n) (.int k n) := .pure (.int k n)
theorem Rel.bool_of (b : Bool) : Rel h φ w (.bool b) (.bool b) := .pure (.bool b)
theorem Rel.str_of (s : ByteArray) : Rel h φ w (.string s) (.str s) := .pure (.str s)

/-- What may stand in one cell, stands in one cell. -/
theorem Rel.one {x : AV} (r : Rel h φ w v x) (hx : x.one = true) : v.oneCell' = true := by
  cases r with
  | pure hp => cases hp <;> first | rfl | simp [AV.one] at hx
  | ptr => rfl
  | own => rfl
  | fn => rfl
  | iface => rfl
  | agg => simp [AV.one] at hx
  | tup => simp [AV.one] at hx

/-- The cells of a value that may be stored. -/
theorem Rel.cellsOf {x : AV} (r : Rel h φ w v x) (hx : x.storable = true) : v.cells.size = x.cellsOf.length ∧
    (∀ (j : Nat) u y, v.cells[j]? = some u → x.cellsOf[j]? = some y → u.oneCell' = true ∧ Rel h φ w u y) := by
  by_cases hagg : ∃ xs, x = .agg xs
  · obtain ⟨xs, rfl⟩ := hagg
    obtain ⟨a, rfl, ha, h1, hr⟩ := r.agg_inv
    exact ⟨ha, fun j u y hu hy => ⟨h1 j u hu, hr j u y hu hy⟩⟩
  · have hone : x.one = true := by cases x <;> first | exact hx | exact absurd ⟨_, rfl⟩ hagg
    have h1 := r.one hone
    have hx' : x.cellsOf = [x] := by cases x <;> first | rfl | exact absurd ⟨_, rfl⟩ hagg
    have hv' : v.cells = #[v] := by cases v <;> first | rfl | simp [Value.oneCell'] at h1
    rw [hx', hv']
    refine ⟨rfl, fun j u y hu hy => ?_⟩
    match j with
    | 0 =>
      simp at hu hy
      subst hu hy
      exact ⟨h1, r⟩
    | j + 1 => simp at hy
end

theorem emb_rel (w : World) (S : Nat → Nat → Prop) (v : Value) : PRel w S v (emb v) := by
  cases v with
  | pointer a => cases a with
    | none => exact .nilp
    | some a => exact .any _
  | slice a n c =>
    cases a with
    | none => cases n with
      | zero => cases c with
        | zero => exact .nils
        | succ c => exact .any _
      | succ n => exact .any _
    | some a => exact .any _
  | bool b => exact .bool b
  | int k n => exact .int k n
  | string s => exact .str s
  | nilFunc => exact .nilf
  | nilIface => exact .nili
  | _ => exact .any _

theorem embT_rel {h : Heap} {φ : Map} {w : World} (v : Value) : Rel h φ w v (embT v) := by
  cases v with
  | agg cs =>
    simp only [embT]
    split
    · rename_i hall
      refine .agg cs _ (by simp) (fun j v hv => ?_) (fun j v x hv hx => ?_)
      · exact (List.all_eq_true.1 hall) v (Array.mem_toList_iff.2 (Array.mem_of_getElem? hv))
      · simp [hv] at hx
        subst hx
        exact .pure (emb_rel _ _ _)
    · exact .any_of _
  | tuple vs =>
    refine .tup vs _ (by simp) (fun j v x hv hx => ?_)
    simp [hv] at hx
    subst hx
    exact .pure (emb_rel _ _ _)
  | _ => exact .pure (emb_rel _ _ _)

/-- The slots of a frame are those of the picture. -/
structure SlRel (h : Heap) (φ : Map) (w : World) (a : Act) (sl : List AV) : Prop where
  size : sl.length ≤ a.tmps.size
  rel : ∀ t, Rel h φ w (a.tmps.getD t undef) (sl.getD t .any)
  nodef : a.defers = []

theorem SlRel.ev {h h' : Heap} {φ φ' : Map} {w w' : World} {a : Act} {sl : List AV} (s : SlRel h φ w a sl) (e : Ev h φ w h' φ' w') : SlRel h' φ' w' a sl :=
  ⟨s.size, fun t => e.rel (s.rel t), s.nodef⟩

def putA (sl : List AV) : Option Tmp → AV → List AV
  | some d, x => sl.set d x
  | none, _ => sl

theorem SlRel.put {h : Heap} {φ : Map} {w : World} {a : Act} {sl : List AV} (s : SlRel h φ w a sl) (d : Option Tmp) {v : Value} {x : AV} (r : Rel h φ w v x) : SlRel h φ w (a.put d v) (putA sl d x) := by
  cases d with
  | none => exact s
  | some d =>
    refine ⟨by simpa [putA, Act.put] using s.size, fun t => ?_, s.nodef⟩
    simp only [putA, Act.put]
    by_cases ht : d = t
    · subst ht
      by_cases hd : d < sl.length
      · have hd' : d < a.tmps.size := Nat.lt_of_lt_of_le hd s.size
        simpa [List.getD, Array.getD_eq_getD_getElem?, hd, hd'] using r
      · have : (sl.set d x).getD d .any = .any := by simp [List.getD, List.getElem?_eq_none (by simpa using Nat.le_of_not_lt hd : (sl.set d x).length ≤ d)]
        rw [this]
        exact .any_of _
    · have e1 : (sl.set d x).getD t .any = sl.getD t .any := by simp [List.getD, List.getElem?_set_ne ht]
      have e2 : (a.tmps.setIfInBounds d v).getD t undef = a.tmps.getD t undef := by simp [Array.getD_eq_getD_getElem?, Array.getElem?_setIfInBounds_ne ht]
      rw [e1, e2]
      exact s.rel t

theorem SlRel.eval {G : Nat → AV} {C : Cfg} {B : Nat} {h : Heap} {φ : Map} {w : World} {a : Act} {sl : List AV} (s : SlRel h φ w a sl) (i : Pic G B h φ w) (hG : G = C.glob) (x : Operand) : Rel h φ w (a.eval x) (rho C sl x) := by
  cases x with
  | tmp t => exact s.rel t
  | const v => exact embT_rel v
  | global g => subst hG; exact .pure (i.glob g)
  | func f => exact .pure (.func (.func f))

end Go.Ab
