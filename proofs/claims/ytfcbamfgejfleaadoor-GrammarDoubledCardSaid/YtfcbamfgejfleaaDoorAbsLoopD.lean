/-
  A LOOP WHOSE ROUND MAKES BLOCKS THAT ARE GIVEN UP AT ITS END; AND A NIL SLICE THAT IS GOING TO BE APPENDED TO. Conditions: 'Good': what is known of the program is so.
-/
import Derived.Test.YtfcbamfgejfleaaDoorAbsSeal
namespace Go.Ab
section
variable {P : Program} {C : Cfg} {G : Nat → AV} {B : Nat} {h : Heap} {φ : Map} {w : World}

theorem Refs.mono {n m : Nat} (hnm : n ≤ m) {x : AV} (r : Refs n x) : Refs m x := by
  induction r with
  | any => exact .any
  | bool b => exact .bool b
  | int k i => exact .int k i
  | str s => exact .str s
  | nilp => exact .nilp
  | nils => exact .nils
  | nilf => exact .nilf
  | nili => exact .nili
  | vec m cs => exact .vec m cs
  | cptr cs o => exact .cptr cs o
  | ptr β g off hb => exact .ptr β g off (by omega)
  | own β g off len hb => exact .own β g off len (by omega)
  | fn f a c _ _ iha ihc => exact .fn f a c iha ihc
  | iface t v _ ih => exact .iface t v ih
  | agg xs _ ih => exact .agg xs ih
  | tup xs _ ih => exact .tup xs ih

theorem take_two (hb l1 l2 : Heap) : (hb ++ (l1 ++ l2)).take (hb.length + l1.length) = hb ++ l1 := by
  rw [← List.append_assoc, ← List.length_append, List.take_left]

theorem drop_pic2 {hb l0 l1 l2 : Heap} {φ0 : Map} {w0 : World} (i0 : Pic G B (hb ++ l0) φ0 w0) (i : Pic G B (hb ++ (l1 ++ l2)) φ w) (hl : l0.length ≤ l1.length)
    (hc : ∀ b ∈ l1, ∀ x ∈ b.cells, Refs (hb.length + l1.length) x) : Pic G B (hb ++ l1) φ w := by
  have hsub : ∀ {β : Nat} {b : Blk}, (hb ++ l1)[β]? = some b → (hb ++ (l1 ++ l2))[β]? = some b := fun {β b} h => by
    rw [← List.append_assoc, List.getElem?_append_left (List.getElem?_eq_some_iff.1 h).1]; exact h
  refine ⟨fun β b h1 h2 => ?_, fun β β' b b' h1 h2 => i.inj β β' b b' (hsub h1) (hsub h2), fun β b h1 => i.base β b (hsub h1), fun β b h1 => i.virt β b (hsub h1), i.room, fun g => ?_⟩
  · obtain ⟨cur, k1, k2, k3, k4⟩ := i.blk β b (hsub h1) h2
    refine ⟨cur, k1, k2, k3, fun j v x e1 e2 => ⟨(k4 j v x e1 e2).1, ?_⟩⟩
    have hr : Refs (hb.length + l1.length) x := by
      by_cases hβ : β < hb.length
      · have hb1 : hb[β]? = some b := by rw [List.getElem?_append_left hβ] at h1; exact h1
        have hb2 : (hb ++ l0)[β]? = some b := by rw [List.getElem?_append_left hβ]; exact hb1
        obtain ⟨cur0, _, _, q3, q4⟩ := i0.blk β b hb2 h2
        have hj : j < cur0.size := Nat.lt_of_lt_of_le (List.getElem?_eq_some_iff.1 e2).1 q3
        exact (Refs.of_rel (q4 j cur0[j] x (Array.getElem?_eq_getElem hj) e2).2).mono (by simp; omega)
      · rw [List.getElem?_append_right (by omega)] at h1
        exact hc b (List.mem_of_getElem? h1) x (List.mem_of_getElem? e2)
    have := refs_rel' hr (k4 j v x e1 e2).2
    rw [take_two] at this
    exact this
  · have := (i.glob g).take (hb.length + l1.length)
    rw [take_two] at this
    exact this

def RefsL (n : Nat) : List AV → Prop
  | [] => True
  | x :: xs => Refs n x ∧ RefsL n xs
theorem RefsL.get {n : Nat} : ∀ {xs : List AV}, RefsL n xs → ∀ x ∈ xs, Refs n x
  | [], _, x, hx => by simp at hx
  | y :: ys, h, x, hx => by
    rcases List.mem_cons.1 hx with rfl | hx
    · exact h.1
    · exact RefsL.get h.2 x hx

/-- A slice that is being appended to, element by element; 'zs': its elements so far. -/
def outB (e : TypeId) (i : Nat) (zs : List AV) : Blk := if i = 0 then ⟨0, true, 0, 0, [], 0⟩ else ⟨i, false, e, 1, zs, 0⟩

theorem append_out {C : Cfg} {e : TypeId} {h g : Heap} {i n : Nat} {zs : List AV} {v : AV} {src : AV} (hz : zs.length = i) (hs : C.sz e = 1) (hb : (C.ti e).bytes ≤ 64) (hi : i < 1000000)
    (hr : rd (h ++ (outB e i zs :: g)) 1 src = some [v]) (hl : lenOf src = some 1) (hn : n = h.length) :
    appendA C e (h ++ (outB e i zs :: g)) (.own n i 0 i) src = some (.own n (i + 1) 0 (i + 1), h ++ (outB e (i + 1) (zs ++ [v]) :: g)) := by
  subst hn
  have hbound : (i + 1) * (C.ti e).bytes ≤ 140737488355328 := by
    have := Nat.mul_le_mul (show i + 1 ≤ 1000000 from by omega) hb
    omega
  have hm : i + 1 ≤ maxLen := by
    have : (1000000 : Nat) ≤ maxLen := by decide
    omega
  unfold appendA
  rw [hs, hr, hl]
  simp only [List.length_singleton, Nat.one_mul, Nat.zero_lt_one, and_self, if_true, get_app0, List.getElem?_cons_zero]
  by_cases h0 : i = 0
  · subst h0
    have hz0 : zs = [] := List.length_eq_zero_iff.1 hz
    subst hz0
    simp [outB, hm]
    omega
  · simp only [outB, if_neg h0, true_and, if_pos (And.intro hm hbound), Nat.mul_one, hz, Nat.le_refl, Nat.zero_le, and_self, if_true, set_app0, List.set_cons_zero, if_neg (show ¬ i + 1 ≤ i from by omega), if_neg (show ¬ i + 1 = 0 from by omega), List.take_of_length_le (show zs.length ≤ i from by omega), Nat.one_ne_zero, if_false, Bool.false_eq_true]

theorem frz_out {e : TypeId} {h : Heap} {i : Nat} {zs : List AV} (hz : zs.length = i) (hp : ∀ x ∈ zs, ∃ k n, x = .int k n) : frzT h.length (h ++ [outB e i zs]) 6 (.own h.length i 0 i) = some (.vec i zs) := by
  by_cases h0 : i = 0
  · subst h0
    have hz0 : zs = [] := List.length_eq_zero_iff.1 hz
    subst hz0
    simp [frzT, frzP, outB]
  · have e1 : List.take (i * 1) (List.drop 0 zs) = zs := by rw [List.drop_zero, Nat.mul_one, List.take_of_length_le (by omega)]
    have e2 : ∀ {l : List AV}, (∀ x ∈ l, ∃ k n, x = .int k n) → optMap (frzP h.length (h ++ [outB e i zs]) 4) l = some l := by
      intro l
      induction l with
      | nil => intro _; rfl
      | cons x l ih =>
        intro hx
        obtain ⟨k, n, rfl⟩ := hx x (by simp)
        have e4 : frzP h.length (h ++ [outB e i zs]) 4 (AV.int k n) = some (AV.int k n) := rfl
        simp only [optMap, e4, ih fun y hy => hx y (by simp [hy])]
    have e3 := e2 hp
    have e5 : (h ++ [outB e i zs])[h.length]? = some ⟨i, false, e, 1, zs, 0⟩ := by rw [get_app0]; simp [outB, h0]
    have e6 : frzP h.length (h ++ [outB e i zs]) 5 (.own h.length i 0 i) = some (.vec i zs) := by
      rw [frzP, e5]
      simp only [Nat.le_refl, and_self, if_true, Bool.false_eq_true, if_false, Nat.zero_add, hz]
      rw [if_pos (by omega), e1, e3]
    rw [frzT, if_neg (Nat.lt_irrefl _)]
    exact e6

/-- What a round's end must lead to: slots are let go, blocks behind are given up. -/
def FitsD (hb : Heap) (k0 : Nat) (I : Nat → St → Prop) (m : Nat) (st : St) : Prop :=
  ∃ sl l1 l2, st.h = hb ++ (l1 ++ l2) ∧ k0 ≤ l1.length ∧ Less sl st.sl ∧ (∀ x ∈ sl, Refs (hb.length + l1.length) x) ∧ (∀ b ∈ l1, ∀ x ∈ b.cells, Refs (hb.length + l1.length) x) ∧ I m ⟨sl, hb ++ l1⟩

theorem RunA.loopD {c : Code} {st : St} {Q : Exit → St → Prop} (hb l0 : Heap) (hst : st.h = hb ++ l0) (I : Nat → St → Prop) (n : Nat) (h0 : FitsD hb l0.length I n st)
    (round : ∀ m sl h, I m ⟨sl, h⟩ → RunA P C c ⟨sl, h⟩ (Round (FitsD hb l0.length I) m Q)) : RunA P C (.loop c) st Q := by
  intro B φ w a i s
  have key : ∀ (m : Nat) (st2 : St) (φ2 : Map) (w2 : World) (a2 : Act), Pic C.glob B st2.h φ2 w2 → Ev st.h φ w st2.h φ2 w2 → SlRel st2.h φ2 w2 a2 st2.sl → FitsD hb l0.length I m st2 →
      ∃ st' φ', Pic C.glob B st'.h φ' w2 ∧ Ev st.h φ w st'.h φ' w2 ∧ SlRel st'.h φ' w2 a2 st'.sl ∧ I m st' := by
    rintro m st2 φ2 w2 a2 i2 e2 s2 ⟨sl, l1, l2, f1, f2, f3, f4, f5, f6⟩
    rw [hst] at i
    rw [f1] at i2 e2 s2
    have i3 := drop_pic2 i i2 f2 f5
    have e3 := drop_ev (n := hb.length + l1.length) e2 (by rw [hst]; simp; omega)
    rw [take_two] at e3
    refine ⟨⟨sl, hb ++ l1⟩, φ2, i3, e3, ⟨by rw [(Less.get f3).1]; exact s2.size, fun t => ?_, s2.nodef⟩, f6⟩
    show Rel (hb ++ l1) φ2 w2 _ (sl.getD t .any)
    have hr : Refs (hb.length + l1.length) (sl.getD t .any) := by
      rw [List.getD_eq_getElem?_getD]
      cases ht : sl[t]? with
      | none => exact .any
      | some x => exact f4 x (List.mem_of_getElem? ht)
    rcases (Less.get f3).2 t with e | e
    · have := refs_rel' hr (by rw [e]; exact s2.rel t)
      rw [take_two] at this
      exact this
    · rw [e]; exact .any_of _
  obtain ⟨st0, φ0, g1, g2, g3, g4⟩ := key n st φ w a i (.refl _ _ _) s h0
  refine wp_loop_ghost (fun m a' w' => ∃ st' φ', Pic C.glob B st'.h φ' w' ∧ Ev st.h φ w st'.h φ' w' ∧ SlRel st'.h φ' w' a' st'.sl ∧ I m st') n ⟨st0, φ0, g1, g2, g3, g4⟩ ?_
  rintro m a' w' ⟨st1, φ1, i1, e1, s1, hI⟩
  refine wp_mono (round m st1.sl st1.h hI B φ1 w' a' i1 s1) fun e a2 w2 hp => ?_
  obtain ⟨st2, φ2, k1, k2, k3, k4⟩ := hp
  cases e with
  | normal =>
    obtain ⟨m', hlt, hI'⟩ := k4
    exact ⟨m', hlt, key m' st2 φ2 w2 a2 k1 (e1.trans k2) k3 hI'⟩
  | exit id => exact ⟨st2, φ2, k1, e1.trans k2, k3, k4⟩
  | goto l => exact ⟨st2, φ2, k1, e1.trans k2, k3, k4⟩
  | ret => exact ⟨st2, φ2, k1, e1.trans k2, k3, k4⟩
  | panic ch => exact ⟨st2, φ2, k1, e1.trans k2, k3, k4⟩
  | outgrown => exact ⟨st2, φ2, k1, e1.trans k2, k3, k4⟩

/-- The slots, a nil slice among them that is going to be appended to. -/
def VirtS (n : Nat) : List AV → List AV → Prop
  | [], [] => True
  | x :: xs, y :: ys => (x = y ∨ (y = .nils ∧ x = .own n 0 0 0)) ∧ VirtS n xs ys
  | _, _ => False

theorem VirtS.get {n : Nat} : ∀ {xs ys : List AV}, VirtS n xs ys → xs.length = ys.length ∧ ∀ t, xs.getD t .any = ys.getD t .any ∨ (ys.getD t .any = .nils ∧ xs.getD t .any = .own n 0 0 0)
  | [], [], _ => ⟨rfl, fun t => .inl rfl⟩
  | x :: xs, y :: ys, h => by
    obtain ⟨h1, h2⟩ := h
    obtain ⟨k1, k2⟩ := VirtS.get h2
    refine ⟨by simp [k1], fun t => ?_⟩
    match t with
    | 0 => simpa using h1
    | t + 1 => simpa using k2 t
  | [], _ :: _, h => h.elim
  | _ :: _, [], h => h.elim

theorem RunA.virtual {c : Code} {sl : List AV} {Q : Exit → St → Prop} (sl' : List AV) (hs : VirtS h.length sl' sl) (r : RunA P C c ⟨sl', h ++ [⟨0, true, 0, 0, [], 0⟩]⟩ Q) : RunA P C c ⟨sl, h⟩ Q := by
  intro B φ w a i s
  obtain ⟨i', ev⟩ := push_virt i
  obtain ⟨k1, k2⟩ := hs.get
  refine wp_mono (r B φ w a i' ⟨by rw [k1]; exact s.size, fun t => ?_, s.nodef⟩) fun e a2 w2 ⟨st', φ', q1, q2, q3, q4⟩ => ⟨st', φ', q1, ev.trans q2, q3, q4⟩
  show Rel _ φ w _ (sl'.getD t .any)
  rcases k2 t with e | ⟨e1, e2⟩
  · rw [e]; exact ev.rel (s.rel t)
  · rw [e2]
    have hr := s.rel t
    have hr' : Rel h φ w (a.tmps.getD t undef) .nils := by rw [← e1]; exact hr
    rw [hr'.nils_inv]
    refine .own h.length 0 0 0 0 none ⟨0, true, 0, 0, [], 0⟩ (by simp) (Nat.le_refl _) (Nat.le_refl _) (Nat.zero_le _) (fun h => by omega) (fun _ _ => ⟨rfl, rfl⟩) (fun _ h => by cases h)

end
end Go.Ab
