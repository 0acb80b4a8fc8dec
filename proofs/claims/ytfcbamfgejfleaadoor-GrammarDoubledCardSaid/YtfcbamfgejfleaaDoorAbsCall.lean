/-
  A CALL IN THE PICTURE, out of its body; what the callee has made and hands back is never written again. Conditions: 'Good': what is known of the program is so.
-/
import Derived.Test.YtfcbamfgejfleaaDoorAbsDrawB
namespace Go.Ab

/-- Does the value lead to blocks below number 'n' alone? -/
def refsOk (n : Nat) : Nat → AV → Bool
  | 0, _ => false
  | d + 1, x => match x with
    | .ptr β _ _ => decide (β < n)
    | .own β _ _ _ => decide (β < n)
    | .fn _ a c => a.all (refsOk n d) && c.all (refsOk n d)
    | .iface _ v => refsOk n d v
    | .agg xs => xs.all (refsOk n d)
    | .tup xs => xs.all (refsOk n d)
    | _ => true

/-- The blocks from number 'n' on are given up. -/
def dropA (n : Nat) (h : Heap) : Option Heap :=
  if (h.take n).all (fun b => b.cells.all (refsOk n 4)) then some (h.take n) else none

def optMap {α β : Type} (f : α → Option β) : List α → Option (List β)
  | [] => some []
  | x :: xs => match f x with
    | some y => match optMap f xs with
      | some ys => some (y :: ys)
      | none => none
    | none => none

/-- What the blocks from 'n' on hold, as a plain value. -/
def frzP (n : Nat) (h : Heap) : Nat → AV → Option AV
  | 0, _ => none
  | d + 1, x => match x with
    | .nils => some (.vec 0 [])
    | .own β g off len => match h[β]? with
      | some b => if b.gen = g ∧ n ≤ β then (if b.virt then (if len = 0 then some (.vec 0 []) else none)
        else if off + len * b.esz ≤ b.cells.length then (match optMap (frzP n h d) ((b.cells.drop off).take (len * b.esz)) with
          | some cs => some (.vec len cs)
          | none => none) else none) else none
      | none => none
    | .any => some .any
    | .bool b => some (.bool b)
    | .int k i => some (.int k i)
    | .str s => some (.str s)
    | .nilp => some .nilp
    | .nilf => some .nilf
    | .nili => some .nili
    | .vec m cs => some (.vec m cs)
    | .cptr cs o => some (.cptr cs o)
    | _ => none

/-- A result: what the callee has made is turned into plain values. -/
def frzT (n : Nat) (h : Heap) : Nat → AV → Option AV
  | 0, _ => none
  | d + 1, x => match x with
    | .nils => some (.vec 0 [])
    | .own β g off len => if β < n then some (.own β g off len) else frzP n h d (.own β g off len)
    | .ptr β g off => if β < n then some (.ptr β g off) else none
    | .fn f a c => if a.all (refsOk n d) && c.all (refsOk n d) then some (.fn f a c) else none
    | .iface t v => (frzT n h d v).map (.iface t)
    | .agg xs => (optMap (frzT n h d) xs).map .agg
    | .tup xs => (optMap (frzT n h d) xs).map .tup
    | .any => some .any
    | .bool b => some (.bool b)
    | .int k i => some (.int k i)
    | .str s => some (.str s)
    | .nilp => some .nilp
    | .nilf => some .nilf
    | .nili => some .nili
    | .vec m cs => some (.vec m cs)
    | .cptr cs o => some (.cptr cs o)

section
variable {P : Program} {C : Cfg} {G : Nat → AV} {B : Nat} {h : Heap} {φ : Map} {w : World}

theorem optMap_get {α β : Type} {f : α → Option β} : ∀ {xs : List α} {ys : List β}, optMap f xs = some ys → ys.length = xs.length ∧ ∀ (j : Nat) y, ys[j]? = some y → ∃ x, xs[j]? = some x ∧ f x = some y
  | [], ys, h => by
    simp only [optMap, Option.some.injEq] at h
    subst h
    exact ⟨rfl, fun j y hy => by simp at hy⟩
  | x :: xs, ys, h => by
    simp only [optMap] at h
    split at h
    · rename_i y hy
      split at h
      · rename_i ys' hys
        cases h
        obtain ⟨h1, h2⟩ := optMap_get hys
        refine ⟨by simp [h1], fun j z hz => ?_⟩
        match j with
        | 0 => simp at hz; subst hz; exact ⟨x, rfl, hy⟩
        | j + 1 => simpa using h2 j z (by simpa using hz)
      · cases h
    · cases h

theorem take_get {n : Nat} {β : Nat} {b : Blk} (hb : (h.take n)[β]? = some b) : h[β]? = some b ∧ β < n := by
  rw [List.getElem?_take] at hb
  split at hb
  · exact ⟨hb, by assumption⟩
  · cases hb

theorem get_take {n : Nat} {β : Nat} {b : Blk} (hb : h[β]? = some b) (hn : β < n) : (h.take n)[β]? = some b := by
  rw [List.getElem?_take, if_pos hn]
  exact hb

theorem free_take (n : Nat) {k : Nat} (hk : Free h φ w k) : Free (h.take n) φ w k := ⟨hk.1, fun β b hb hv => hk.2 β b (take_get hb).1 hv⟩
theorem stable_take (n : Nat) {k j : Nat} (hk : Stable h φ w k j) : Stable (h.take n) φ w k j := ⟨hk.1, fun β b hb hv => hk.2 β b (take_get hb).1 hv⟩

theorem PRel.take (n : Nat) {v : Value} {x : AV} (r : PRel w (Stable h φ w) v x) : PRel w (Stable (h.take n) φ w) v x := r.mono fun _ _ hk => ⟨rfl, stable_take n hk⟩

theorem refs_rel (n : Nat) : ∀ (d : Nat) (v : Value) (x : AV), refsOk n d x = true → Rel h φ w v x → Rel (h.take n) φ w v x
  | 0, _, _, hx, _ => by simp [refsOk] at hx
  | d + 1, v, x, hx, r => by
    cases r with
    | pure hp => exact .pure (hp.take n)
    | ptr β g off bl b hb hg hv =>
      simp only [refsOk, decide_eq_true_eq] at hx
      exact .ptr β g off bl b (get_take hb hx) hg hv
    | own β g off len cap ad b hb hg hlc hcm had hn hv =>
      simp only [refsOk, decide_eq_true_eq] at hx
      exact .own β g off len cap ad b (get_take hb hx) hg hlc hcm had hn hv
    | fn f a c xs ys ha hc hra hrc =>
      simp only [refsOk, Bool.and_eq_true] at hx
      exact .fn f a c xs ys ha hc (fun j v x h1 h2 => refs_rel n d v x (List.all_eq_true.1 hx.1 x (List.mem_of_getElem? h2)) (hra j v x h1 h2))
        (fun j v x h1 h2 => refs_rel n d v x (List.all_eq_true.1 hx.2 x (List.mem_of_getElem? h2)) (hrc j v x h1 h2))
    | iface t v x hr => exact .iface t v x (refs_rel n d v x (by simpa [refsOk] using hx) hr)
    | agg a xs ha h1 hr =>
      simp only [refsOk] at hx
      exact .agg a xs ha h1 (fun j v x k1 k2 => refs_rel n d v x (List.all_eq_true.1 hx x (List.mem_of_getElem? k2)) (hr j v x k1 k2))
    | tup a xs ha hr =>
      simp only [refsOk] at hx
      exact .tup a xs ha (fun j v x k1 k2 => refs_rel n d v x (List.all_eq_true.1 hx x (List.mem_of_getElem? k2)) (hr j v x k1 k2))

theorem drop_pic {n : Nat} {h' : Heap} (hd : dropA n h = some h') (i : Pic G B h φ w) : h' = h.take n ∧ Pic G B h' φ w := by
  unfold dropA at hd
  split at hd
  · rename_i hall
    cases hd
    refine ⟨rfl, ⟨fun β b hb hv => ?_, fun β β' b b' hb hb' hv hv' he => i.inj β β' b b' (take_get hb).1 (take_get hb').1 hv hv' he, fun β b hb hv => i.base β b (take_get hb).1 hv, fun β b hb hv => i.virt β b (take_get hb).1 hv, i.room, fun g => (i.glob g).take n⟩⟩
    obtain ⟨cur, h1, h2, h3, h4⟩ := i.blk β b (take_get hb).1 hv
    have hb2 := List.all_eq_true.1 hall b (List.mem_of_getElem? hb)
    exact ⟨cur, h1, h2, h3, fun j v x k1 k2 => ⟨(h4 j v x k1 k2).1, refs_rel n 4 v x (List.all_eq_true.1 hb2 x (List.mem_of_getElem? k2)) (h4 j v x k1 k2).2⟩⟩
  · cases hd

theorem drop_ev {n : Nat} {h0 : Heap} {φ0 : Map} {w0 : World} (e : Ev h0 φ0 w0 h φ w) (hn : h0.length ≤ n) : Ev h0 φ0 w0 (h.take n) φ w :=
  ⟨e.os, e.tape, e.output, e.size, fun k hk => ⟨(e.keep k hk).1, free_take n (e.keep k hk).2⟩, fun k j hk => ⟨(e.cells k j hk).1, stable_take n (e.cells k j hk).2⟩, by have := e.hsize; simp; omega, fun β b b' h1 h2 => e.gens β b b' h1 (take_get h2).1⟩

theorem frzP_rel (i : Pic G B h φ w) (n : Nat) : ∀ (d : Nat) (v : Value) (x y : AV), frzP n h d x = some y → Rel h φ w v x → PRel w (Stable (h.take n) φ w) v y
  | 0, _, _, _, hx, _ => by simp [frzP] at hx
  | d + 1, v, x, y, hx, r => by
    cases x
    case nils =>
      simp only [frzP, Option.some.injEq] at hx
      subst hx
      cases r.nils_inv
      exact .vec0 _ _
    case own β g off len =>
      simp only [frzP] at hx
      obtain ⟨ad, cap, b, rfl, hb, hg, hlc, hcm, had, hn, hv⟩ := r.own_inv
      rw [hb] at hx
      simp only at hx
      split at hx
      · rename_i hc
        split at hx
        · split at hx
          · rename_i hl
            cases hx
            subst hl
            exact .vec0 _ _
          · cases hx
        · rename_i hvirt
          have hvirt' : b.virt = false := by simpa using hvirt
          split at hx
          · rename_i hle
            split at hx
            · rename_i cs hcs
              cases hx
              obtain ⟨hlen, hget⟩ := optMap_get hcs
              obtain ⟨rfl, _⟩ := hv hc.1.symm hvirt'
              obtain ⟨cur, hw, hs, hl, hr⟩ := i.blk β b hb hvirt'
              have hlen' : cs.length = len * b.esz := by rw [hlen]; simp; omega
              refine .vec (φ β).1 off len cap cs ((cur.toList.drop off).take (len * b.esz)) (fun m hm => ⟨i.lt hb hvirt', fun γ c hγ hcv he => ?_⟩) hlc (by rw [hlen']; simp; omega) (fun j u hu => ?_) (fun j u z hu hz => ?_)
              · obtain ⟨h1, h2⟩ := take_get hγ
                have := i.inj γ β c b h1 hb hcv hvirt' he
                omega
              · rw [List.getElem?_take, List.getElem?_drop] at hu
                split at hu
                · rename_i hj
                  have hu' : cur[off + j]? = some u := by simpa using hu
                  refine ⟨by rw [cell_of_row w _ _ cur _ _ hw]; exact hu', ?_⟩
                  have hjc : off + j < b.cells.length := by omega
                  exact (hr (off + j) u b.cells[off + j] hu' (List.getElem?_eq_getElem hjc)).1
                · cases hu
              · obtain ⟨x, hx1, hx2⟩ := hget j z hz
                rw [List.getElem?_take, List.getElem?_drop] at hu hx1
                split at hu
                · rename_i hj
                  rw [if_pos hj] at hx1
                  exact frzP_rel i n d u x z hx2 (hr (off + j) u x (by simpa using hu) hx1).2
                · cases hu
            · cases hx
          · cases hx
      · cases hx
    case any => simp only [frzP, Option.some.injEq] at hx; subst hx; exact .any _
    case bool b => simp only [frzP, Option.some.injEq] at hx; subst hx; cases r.bool_inv; exact .bool _
    case int k m => simp only [frzP, Option.some.injEq] at hx; subst hx; cases r.int_inv; exact .int _ _
    case str s => simp only [frzP, Option.some.injEq] at hx; subst hx; cases r.str_inv; exact .str _
    case nilp => simp only [frzP, Option.some.injEq] at hx; subst hx; cases r.nilp_inv; exact .nilp
    case nilf => simp only [frzP, Option.some.injEq] at hx; subst hx; cases r with | pure hp => exact hp.take n
    case nili => simp only [frzP, Option.some.injEq] at hx; subst hx; cases r with | pure hp => exact hp.take n
    case vec m cs => simp only [frzP, Option.some.injEq] at hx; subst hx; exact r.vec_inv.take n
    case cptr cs o => simp only [frzP, Option.some.injEq] at hx; subst hx; exact r.cptr_inv.take n
    all_goals simp [frzP] at hx

theorem frzT_rel (i : Pic G B h φ w) (n : Nat) : ∀ (d : Nat) (v : Value) (x y : AV), frzT n h d x = some y → Rel h φ w v x → Rel (h.take n) φ w v y
  | 0, _, _, _, hx, _ => by simp [frzT] at hx
  | d + 1, v, x, y, hx, r => by
    cases x
    case nils =>
      simp only [frzT, Option.some.injEq] at hx
      subst hx
      cases r.nils_inv
      exact .pure (.vec0 _ _)
    case own β g off len =>
      simp only [frzT] at hx
      split at hx
      · rename_i hlt
        cases hx
        exact refs_rel n 1 v _ (by simp [refsOk, hlt]) r
      · exact .pure (frzP_rel i n d v _ y hx r)
    case ptr β g off =>
      simp only [frzT] at hx
      split at hx
      · rename_i hlt
        cases hx
        exact refs_rel n 1 v _ (by simp [refsOk, hlt]) r
      · cases hx
    case fn f a c =>
      simp only [frzT] at hx
      split at hx
      · rename_i hlt
        cases hx
        exact refs_rel n (d + 1) v _ (by simpa [refsOk] using hlt) r
      · cases hx
    case iface t z =>
      simp only [frzT] at hx
      obtain ⟨y', hy', rfl⟩ := Option.map_eq_some_iff.1 hx
      obtain ⟨u, rfl, hr⟩ := r.iface_inv
      exact .iface t u y' (frzT_rel i n d u z y' hy' hr)
    case agg xs =>
      simp only [frzT] at hx
      obtain ⟨ys, hys, rfl⟩ := Option.map_eq_some_iff.1 hx
      obtain ⟨a, rfl, ha, h1, hr⟩ := r.agg_inv
      obtain ⟨hlen, hget⟩ := optMap_get hys
      refine .agg a ys (by rw [ha, hlen]) h1 fun j u z hu hz => ?_
      obtain ⟨x, hx1, hx2⟩ := hget j z hz
      exact frzT_rel i n d u x z hx2 (hr j u x hu hx1)
    case tup xs =>
      simp only [frzT] at hx
      obtain ⟨ys, hys, rfl⟩ := Option.map_eq_some_iff.1 hx
      obtain ⟨a, rfl, ha, hr⟩ := r.tup_inv
      obtain ⟨hlen, hget⟩ := optMap_get hys
      refine .tup a ys (by rw [ha, hlen]) fun j u z hu hz => ?_
      obtain ⟨x, hx1, hx2⟩ := hget j z hz
      exact frzT_rel i n d u x z hx2 (hr j u x hu hx1)
    case any => simp only [frzT, Option.some.injEq] at hx; subst hx; exact .any_of _
    case bool b => simp only [frzT, Option.some.injEq] at hx; subst hx; cases r.bool_inv; exact .bool_of _
    case int k m => simp only [frzT, Option.some.injEq] at hx; subst hx; cases r.int_inv; exact .int_of _ _
    case str s => simp only [frzT, Option.some.injEq] at hx; subst hx; cases r.str_inv; exact .str_of _
    case nilp => simp only [frzT, Option.some.injEq] at hx; subst hx; cases r.nilp_inv; exact .pure .nilp
    case nilf => simp only [frzT, Option.some.injEq] at hx; subst hx; cases r with | pure hp => exact .pure (hp.take n)
    case nili => simp only [frzT, Option.some.injEq] at hx; subst hx; cases r with | pure hp => exact .pure (hp.take n)
    case vec m cs => simp only [frzT, Option.some.injEq] at hx; subst hx; exact .pure (r.vec_inv.take n)
    case cptr cs o => simp only [frzT, Option.some.injEq] at hx; subst hx; exact .pure (r.cptr_inv.take n)

theorem resA1_run (i : Pic C.glob B h φ w) (g : Good P C) {a : Act} {sl : List AV} (s : SlRel h φ w a sl) {r : ResultVar} {x : AV} (hx : resA1 C sl h r = some x) :
    ∃ v, (match r with
      | .tmp t => pure (a.tmps.getD t undef)
      | .cell p t => do loadVar t (← asAddr (a.tmps.getD p undef)) : Sem Value).run P w = .ok v w ∧ Rel h φ w v x := by
  cases r with
  | tmp t =>
    simp only [resA1, Option.some.injEq] at hx
    subst hx
    exact ⟨_, rfl, s.rel t⟩
  | cell p t =>
    simp only [resA1] at hx
    obtain ⟨v, h1, h2⟩ := load_ok i g (s.rel p) hx
    refine ⟨v, ?_, h2⟩
    have hp : ∃ ad, a.tmps.getD p undef = .pointer (some ad) := by
      cases hv : a.tmps.getD p undef with
      | pointer o => cases o with
        | some ad => exact ⟨ad, rfl⟩
        | none => simp [Instr.loadAt, hv, Instr.sureAddr] at h1
      | _ => simp [Instr.loadAt, hv, Instr.sureAddr] at h1
    obtain ⟨ad, hv⟩ := hp
    simp only [hv, asAddr, Sem.run_bind, Sem.run_pure, Result.andThen_ok]
    simpa [Instr.loadAt, hv, Instr.sureAddr] using h1

theorem resAs_run (i : Pic C.glob B h φ w) (g : Good P C) {a : Act} {sl : List AV} (s : SlRel h φ w a sl) : ∀ {rs : List ResultVar} {xs : List AV}, resAs C sl h rs = some xs →
    ∃ vs : List Value, (rs.mapM fun r => (match r with
      | .tmp t => pure (a.tmps.getD t undef)
      | .cell p t => do loadVar t (← asAddr (a.tmps.getD p undef)) : Sem Value)).run P w = .ok vs w ∧ vs.length = xs.length ∧ ∀ (j : Nat) v x, vs[j]? = some v → xs[j]? = some x → Rel h φ w v x
  | [], xs, hx => by
    simp only [resAs, Option.some.injEq] at hx
    subst hx
    exact ⟨[], rfl, rfl, by simp⟩
  | r :: rs, xs, hx => by
    simp only [resAs] at hx
    split at hx
    · rename_i x xs' h1 h2
      cases hx
      obtain ⟨v, k1, k2⟩ := resA1_run i g s h1
      obtain ⟨vs, k3, k4, k5⟩ := resAs_run i g s h2
      refine ⟨v :: vs, ?_, by simp [k4], fun j u y hu hy => ?_⟩
      · rw [List.mapM_cons]
        simp only [Sem.run_bind, k1, k3, Result.andThen_ok, Sem.run_pure]
      · match j with
        | 0 => simp at hu hy; subst hu hy; exact k2
        | j + 1 => exact k5 j u y (by simpa using hu) (by simpa using hy)
    · cases hx

theorem resA_run (i : Pic C.glob B h φ w) (g : Good P C) {a : Act} {sl : List AV} (s : SlRel h φ w a sl) {fn : Func} {x : AV} (hx : resA C fn.results sl h = some x) : ∃ v, (results fn a.tmps).run P w = .ok v w ∧ Rel h φ w v x := by
  unfold resA at hx
  have key : ∀ xs, resAs C sl h fn.results.toList = some xs → ∃ vs : List Value, (results fn a.tmps).run P w = .ok (if hs : vs.toArray.size = 1 then vs.toArray[0] else .tuple vs.toArray) w ∧ vs.length = xs.length ∧ ∀ (j : Nat) v x, vs[j]? = some v → xs[j]? = some x → Rel h φ w v x := by
    intro xs hxs
    obtain ⟨vs, k1, k2, k3⟩ := resAs_run i g s hxs
    refine ⟨vs, ?_, k2, k3⟩
    unfold results
    rw [Array.mapM_eq_mapM_toList]
    simp only [Sem.run_bind, Sem.run_map, Sem.run_pure]
    erw [k1]
    rfl
  split at hx
  · rename_i y hy
    cases hx
    obtain ⟨vs, h1, h2, h3⟩ := key _ hy
    match vs, h2 with
    | [v], _ => exact ⟨v, by simpa using h1, h3 0 v x rfl rfl⟩
  · rename_i xs hne hxs
    cases hx
    obtain ⟨vs, h1, h2, h3⟩ := key _ hxs
    have hl : vs.length ≠ 1 := by
      intro hl
      rw [h2] at hl
      match xs, hl with
      | [x], _ => exact hne x rfl
    refine ⟨.tuple vs.toArray, by simpa [hl] using h1, .tup _ _ (by simp [h2]) fun j v x hv hx => h3 j v x (by simpa using hv) hx⟩
  · cases hx

/-- What a body leads to at its end. -/
def Ends (C : Cfg) (fn : Func) (R : AV → Heap → Prop) : Exit → St → Prop
  | .normal, st | .ret, st => ∃ x, resA C fn.results st.sl st.h = some x ∧ R x st.h
  | _, _ => False

/-- A result that stays as it is. -/
theorem CallA.keep (g : Good P C) {f : FuncId} {fn : Func} {c : Code} {args : List AV} {h : Heap} {R : AV → Heap → Prop} (hf : C.fns f = some fn) (hb : fn.body = some c)
    (r : RunA P C c ⟨args ++ List.replicate (fn.ntmps - args.length) .any, h⟩ (Ends C fn R)) : CallA P C f args h R := by
  intro B φ w cargs i hs hr
  refine calls_of_wp (g.fns f fn hf).1 hb (wp_mono (r B φ w _ i ⟨?_, fun t => ?_, rfl⟩) fun e a' w' hp => ?_)
  · simp [hs]
  · by_cases ht : t < cargs.size
    · have h1 : (cargs ++ Array.replicate (fn.ntmps - cargs.size) undef).getD t undef = cargs[t] := by
        simp [Array.getD_eq_getD_getElem?, Array.getElem?_append_left ht, ht]
      have h2 : (args ++ List.replicate (fn.ntmps - args.length) AV.any).getD t .any = args[t]'(by omega) := by
        simp [List.getD, List.getElem?_append_left (show t < args.length by omega), show t < args.length by omega]
      rw [h1, h2]
      exact hr t _ _ (Array.getElem?_eq_getElem ht) (List.getElem?_eq_getElem (by omega))
    · have h2 : (args ++ List.replicate (fn.ntmps - args.length) AV.any).getD t .any = .any := by
        rw [List.getD_eq_getElem?_getD, List.getElem?_append_right (by omega), List.getElem?_replicate]
        split <;> rfl
      rw [h2]
      exact .any_of _
  · obtain ⟨st', φ', h1, h2, h3, h4⟩ := hp
    cases e with
    | normal =>
      obtain ⟨x, hx, hR⟩ := h4
      obtain ⟨v, k1, k2⟩ := resA_run h1 g h3 hx
      exact ⟨h3.nodef, v, k1, v, x, st'.h, φ', rfl, h1, h2, k2, hR⟩
    | ret =>
      obtain ⟨x, hx, hR⟩ := h4
      obtain ⟨v, k1, k2⟩ := resA_run h1 g h3 hx
      exact ⟨h3.nodef, v, k1, v, x, st'.h, φ', rfl, h1, h2, k2, hR⟩
    | _ => exact h4.elim

/-- What the callee has made becomes plain values; its blocks are given up. -/
theorem CallA.frz {f : FuncId} {args : List AV} {h : Heap} {R Q : AV → Heap → Prop} (r : CallA P C f args h R) (hq : ∀ x h1, R x h1 → ∃ y h2, frzT h.length h1 6 x = some y ∧ dropA h.length h1 = some h2 ∧ Q y h2) : CallA P C f args h Q := by
  intro B φ w cargs i hs hr
  refine (r B φ w cargs i hs hr).mono fun e w' hp => ?_
  obtain ⟨v, x, h1, φ', rfl, k1, k2, k3, k4⟩ := hp
  obtain ⟨y, h2, q1, q2, q3⟩ := hq x h1 k4
  obtain ⟨rfl, k5⟩ := drop_pic q2 k1
  exact ⟨v, y, _, φ', rfl, k5, drop_ev k2 (Nat.le_refl _), frzT_rel k1 _ 6 v x y q1 k3, q3⟩

end
end Go.Ab
