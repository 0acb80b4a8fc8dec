/-
  A SLICE OF THE CALL'S OWN THAT IS NEVER WRITTEN AGAIN IS HANDED TO A CALLEE AS A PLAIN LIST. Conditions: 'Good': what is known of the program is so.
-/
import Derived.Test.YtfcbamfgejfleaaDoorAbsSolo
namespace Go.Ab
section
variable {P : Program} {C : Cfg} {G : Nat → AV} {B : Nat} {h : Heap} {φ : Map} {w : World}

theorem seal_pic {β : Nat} {b : Blk} (i : Pic G B h φ w) (hb : h[β]? = some b) : Pic G B (h.set β (deadB b)) φ w ∧ Ev h φ w (h.set β (deadB b)) φ w := by
  have ev : Ev h φ w (h.set β (deadB b)) φ w := by
    refine ⟨rfl, rfl, rfl, Nat.le_refl _, fun k hk => ⟨rfl, hk.1, fun γ c hc hv => ?_⟩, fun k j hk => ⟨rfl, hk.1, fun γ c hc hv => ?_⟩, by simp, fun γ c c' h1 h2 => ?_⟩
    · rcases get_set_dead hb hc with ⟨_, rfl⟩ | ⟨_, hc'⟩
      · cases hv
      · exact hk.2 γ c hc' hv
    · rcases get_set_dead hb hc with ⟨_, rfl⟩ | ⟨_, hc'⟩
      · cases hv
      · exact hk.2 γ c hc' hv
    · rcases get_set_dead hb h2 with ⟨rfl, rfl⟩ | ⟨_, h2'⟩
      · rw [hb] at h1
        cases h1
        exact ⟨by simp [deadB], fun e => by simp [deadB] at e⟩
      · rw [h1] at h2'
        cases h2'
        exact ⟨Nat.le_refl _, fun _ => ⟨rfl, rfl, rfl⟩⟩
  refine ⟨⟨fun γ c hc hv => ?_, fun γ γ' c c' hc hc' hv hv' he => ?_, fun γ c hc hv => ?_, fun γ c hc hv => ?_, i.room, fun g => ev.prel (i.glob g)⟩, ev⟩
  · rcases get_set_dead hb hc with ⟨_, rfl⟩ | ⟨_, hc'⟩
    · cases hv
    · obtain ⟨cur, h1, h2, h3, h4⟩ := i.blk γ c hc' hv
      exact ⟨cur, h1, h2, h3, fun j v x a d => ⟨(h4 j v x a d).1, ev.rel (h4 j v x a d).2⟩⟩
  · rcases get_set_dead hb hc with ⟨_, rfl⟩ | ⟨_, h1⟩
    · cases hv
    · rcases get_set_dead hb hc' with ⟨_, rfl⟩ | ⟨_, h2⟩
      · cases hv'
      · exact i.inj γ γ' c c' h1 h2 hv hv' he
  · rcases get_set_dead hb hc with ⟨_, rfl⟩ | ⟨_, hc'⟩
    · cases hv
    · exact i.base γ c hc' hv
  · rcases get_set_dead hb hc with ⟨_, rfl⟩ | ⟨_, hc'⟩
    · rfl
    · exact i.virt γ c hc' hv

/-- A cell that leads to nothing that is written. -/
def sealC : AV → Option AV
  | .nils => some (.vec 0 [])
  | .any => some .any
  | .bool b => some (.bool b)
  | .int k i => some (.int k i)
  | .str s => some (.str s)
  | .nilp => some .nilp
  | .nilf => some .nilf
  | .nili => some .nili
  | .vec m cs => some (.vec m cs)
  | .cptr cs o => some (.cptr cs o)
  | _ => none

theorem sealC_rel {v : Value} {x y : AV} (hx : sealC x = some y) (r : Rel h φ w v x) : PRel w (Stable h φ w) v y := by
  cases x
  case nils =>
    simp only [sealC, Option.some.injEq] at hx; subst hx
    cases r.nils_inv
    exact .vec0 _ _
  case any => simp only [sealC, Option.some.injEq] at hx; subst hx; exact .any _
  case bool b => simp only [sealC, Option.some.injEq] at hx; subst hx; cases r.bool_inv; exact .bool _
  case int k m => simp only [sealC, Option.some.injEq] at hx; subst hx; cases r.int_inv; exact .int _ _
  case str s => simp only [sealC, Option.some.injEq] at hx; subst hx; cases r.str_inv; exact .str _
  case nilp => simp only [sealC, Option.some.injEq] at hx; subst hx; cases r.nilp_inv; exact .nilp
  case nilf => simp only [sealC, Option.some.injEq] at hx; subst hx; cases r with | pure hp => exact hp
  case nili => simp only [sealC, Option.some.injEq] at hx; subst hx; cases r with | pure hp => exact hp
  case vec m cs => simp only [sealC, Option.some.injEq] at hx; subst hx; exact r.vec_inv
  case cptr cs o => simp only [sealC, Option.some.injEq] at hx; subst hx; exact r.cptr_inv
  all_goals simp [sealC] at hx

theorem seal_rel {β : Nat} {b : Blk} (i : Pic G B h φ w) (hb : h[β]? = some b) (hv : b.virt = false) {off len : Nat} (hle : off + len * b.esz ≤ b.cells.length) {cs : List AV} (hc : optMap sealC ((b.cells.drop off).take (len * b.esz)) = some cs)
    {v : Value} (r : Rel h φ w v (.own β b.gen off len)) : Rel (h.set β (deadB b)) φ w v (.vec len cs) := by
  obtain ⟨_, ev⟩ := seal_pic i hb
  obtain ⟨ad, cap, b', rfl, hb', hg, hlc, hcm, had, hn, hvv⟩ := r.own_inv
  rw [hb] at hb'
  cases hb'
  obtain ⟨hlen, hget⟩ := optMap_get hc
  obtain ⟨rfl, _⟩ := hvv rfl hv
  obtain ⟨cur, hw, hs, hl, hr⟩ := i.blk β b hb hv
  have hlen' : cs.length = len * b.esz := by rw [hlen]; simp; omega
  refine .pure (.vec (φ β).1 off len cap cs ((cur.toList.drop off).take (len * b.esz)) (fun m hm => ⟨i.lt hb hv, fun γ c hγ hcv he => ?_⟩) hlc (by rw [hlen']; simp; omega) (fun j u hu => ?_) (fun j u z hu hz => ?_))
  · rcases get_set_dead hb hγ with ⟨_, rfl⟩ | ⟨hne, h1⟩
    · cases hcv
    · exact absurd (i.inj γ β c b h1 hb hcv hv he) hne
  · rw [List.getElem?_take, List.getElem?_drop] at hu
    split at hu
    · rename_i hj
      have hu' : cur[off + j]? = some u := by simpa using hu
      refine ⟨by rw [cell_of_row w _ _ cur _ _ hw]; exact hu', ?_⟩
      have hjc : off + j < b.cells.length := by omega
      exact (hr (off + j) u b.cells[off + j] hu' (List.getElem?_eq_getElem hjc)).1
    · cases hu
  · obtain ⟨x, hx1, hx2⟩ := hget j z hz
    rw [List.getElem?_take, List.getElem?_drop] at hu hx1
    split at hu
    · rename_i hj
      rw [if_pos hj] at hx1
      exact (sealC_rel hx2 (ev.rel (hr (off + j) u x (by simpa using hu) hx1).2))
    · cases hu

/-- The arguments, a slice of the call's own among them turned into a plain list. -/
def SealA (β g off len : Nat) (cs : List AV) : List AV → List AV → Prop
  | [], [] => True
  | y :: ys, x :: xs => (y = x ∨ (x = .own β g off len ∧ y = .vec len cs)) ∧ SealA β g off len cs ys xs
  | _, _ => False

theorem SealA.get {β g off len : Nat} {cs : List AV} : ∀ {ys xs : List AV}, SealA β g off len cs ys xs → ys.length = xs.length ∧ ∀ (j : Nat) (y x : AV), ys[j]? = some y → xs[j]? = some x → y = x ∨ (x = .own β g off len ∧ y = .vec len cs)
  | [], [], _ => ⟨rfl, fun j y x h => by simp at h⟩
  | y :: ys, x :: xs, h => by
    obtain ⟨h1, h2⟩ := h
    obtain ⟨k1, k2⟩ := SealA.get h2
    refine ⟨by simp [k1], fun j u v hu hv => ?_⟩
    match j with
    | 0 => simp at hu hv; subst hu hv; exact h1
    | j + 1 => exact k2 j u v (by simpa using hu) (by simpa using hv)
  | [], _ :: _, h => h.elim
  | _ :: _, [], h => h.elim

theorem CallA.plainArg {f : FuncId} {args args' : List AV} {Q : AV → Heap → Prop} {β off len : Nat} {b : Blk} {cs : List AV} (hb : h[β]? = some b) (hv : b.virt = false) (hle : off + len * b.esz ≤ b.cells.length)
    (hc : optMap sealC ((b.cells.drop off).take (len * b.esz)) = some cs) (ha : SealA β b.gen off len cs args' args) (r : CallA P C f args' (h.set β (deadB b)) Q) : CallA P C f args h Q := by
  intro B φ w cargs i hs hr
  obtain ⟨k1, k2⟩ := ha.get
  obtain ⟨i', ev⟩ := seal_pic i hb
  refine (r B φ w cargs i' (by rw [hs, k1]) fun j v y hj hy => ?_).mono fun e w' hp => ?_
  · have hj' : j < args.length := by rw [← k1]; exact (List.getElem?_eq_some_iff.1 hy).1
    have hx : args[j]? = some args[j] := List.getElem?_eq_getElem hj'
    have rx := hr j v _ hj hx
    rcases k2 j y _ hy hx with e | ⟨e1, e2⟩
    · rw [e]; exact ev.rel rx
    · rw [e1] at rx
      rw [e2]
      exact seal_rel i hb hv hle hc rx
  · obtain ⟨v, x, h', φ', h1, h2, h3, h4, h5⟩ := hp
    exact ⟨v, x, h', φ', h1, h2, ev.trans h3, h4, h5⟩

theorem OpsA.callE {ops : Array Oper} {o : Oper} {rest : List Oper} {st : St} {Q : St → Prop} {c : Call} {f : FuncId} {args : List AV} {x : AV} {H : Heap} (hw : wantA ops st.sl o = some true) (ho : o.op = .call c) (ht : targetA C (rho C st.sl) c = some (f, args)) (hb : hasBody C f = true)
    (hc : CallA P C f args st.h fun y h' => y = x ∧ h' = H) (hk : OpsA P C ops rest ⟨putA st.sl o.dst x, H⟩ Q) : OpsA P C ops (o :: rest) st Q :=
  .call hw ho ht hb (hc.mono fun _ _ ⟨h1, h2⟩ => by rw [h1, h2]; exact hk)

end
end Go.Ab
