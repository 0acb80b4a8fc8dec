/-
  RULES FOR WALKS THROUGH A REGION THAT DRAWS ITS ORDER, WITH A HEAP FOR EACH SET OF OPERATIONS. Conditions: 'Good': what is known of the program is so.
-/
import Derived.Test.YtfcbamfgejfleaaDoorAbsEval
namespace Go.Ab
section
variable {P : Program} {C : Cfg}

/-- What is asked of the heaps that are picked. -/
def AllF : List Bool → List Nat → List Heap → (Nat → Heap → Prop) → Prop
  | true :: bs, D :: Ks, H :: Hs, f => f D H ∧ AllF bs Ks Hs f
  | false :: bs, _ :: Ks, _ :: Hs, f => AllF bs Ks Hs f
  | _, _, _, _ => True

/-- The new heaps of those that are picked. -/
def NewF : List Bool → List Heap → (Heap → Heap → Prop) → List Heap → Prop
  | true :: bs, H :: Hs, f, N :: Ns => f H N ∧ NewF bs Hs f Ns
  | true :: _, _ :: _, _, [] => False
  | false :: bs, _ :: Hs, f, Ns => NewF bs Hs f Ns
  | [], [], _, [] => True
  | _, _, _, _ => False

def newK (i : Nat) : List Bool → List Nat → List Nat
  | true :: bs, D :: Ks => (D ||| 2 ^ i) :: newK i bs Ks
  | false :: bs, _ :: Ks => newK i bs Ks
  | _, _ => []

/-- What is asked at the end: the operation's number, and what must hold of each heap that it may meet. -/
abbrev Pg := Nat × ((Nat → Option Heap) → Nat → Heap → Prop)

def goalG (P : Program) (C : Cfg) (p : PlanG) (b i : Nat) (o : Oper) (sl : List AV) (want : Bool) (x : AV) (look : Nat → Option Heap) (D : Nat) (H : Heap) : Prop :=
  ∃ H', (match want with
    | true => OpG P C ((p.place.getD i none).map (b + ·)) (rho C sl) H o.op fun y h => y = x ∧ h = H'
    | false => x = .tup [] ∧ H' = H) ∧ (p.isE i = true → look (D ||| 2 ^ i) = some H') ∧ (p.isE i = false → H' = H)

def OpsG (P : Program) (C : Cfg) (ops : Array Oper) (p : PlanG) (b : Nat) : List Oper → Nat → List AV → List Nat → List Heap → List Pg → (St → Prop) → Prop
  | [], _, sl, Ks, Hs, pd, Q => (∀ q ∈ pd, ∀ D H, (D, H) ∈ Ks.zip Hs → p.fits q.1 D = true → q.2 (lookW (Ks.zip Hs)) D H) ∧ ∃ H, lookW (Ks.zip Hs) (p.full ops.size) = some H ∧ Q ⟨sl, H⟩
  | o :: rest, i, sl, Ks, Hs, pd, Q => ∃ want x Ns, wantA ops sl o = some want ∧
      (p.isE i = false → Ns = []) ∧ (p.isE i = true → NewF (Ks.map (p.fits i)) Hs (fun H N => match want with
        | true => OpG P C ((p.place.getD i none).map (b + ·)) (rho C sl) H o.op fun y h => y = x ∧ h = N
        | false => x = .tup [] ∧ N = H) Ns) ∧
      (p.isE i = false → (∀ H, match want with
        | true => OpG P C ((p.place.getD i none).map (b + ·)) (rho C sl) H o.op fun y h => y = x ∧ h = H
        | false => x = .tup []) ∨ AllF (Ks.map (p.fits i)) Ks Hs fun _ H => match want with
        | true => OpG P C ((p.place.getD i none).map (b + ·)) (rho C sl) H o.op fun y h => y = x ∧ h = H
        | false => x = .tup []) ∧
      (want = false → x = .tup []) ∧
      ∃ pd', (pd' = (i, goalG P C p b i o sl want x) :: pd ∨ (pd' = pd ∧ (p.multi.contains i = false ∨ p.isE i = false ∧ ∀ H, match want with
        | true => OpG P C ((p.place.getD i none).map (b + ·)) (rho C sl) H o.op fun y h => y = x ∧ h = H
        | false => x = .tup []))) ∧
      OpsG P C ops p b rest (i + 1) (putA sl o.dst x) ((match p.isE i with | true => newK i (Ks.map (p.fits i)) Ks | false => []) ++ Ks) (Ns ++ Hs) pd' Q

theorem AllF_get {f : Nat → Heap → Prop} : ∀ {bs : List Bool} {Ks : List Nat} {Hs : List Heap}, bs.length = Ks.length → AllF bs Ks Hs f → ∀ (D : Nat) (H : Heap) (j : Nat), Ks[j]? = some D → Hs[j]? = some H → bs[j]? = some true → f D H
  | [], Ks, Hs, hl, _, D, H, j, h1, _, h3 => by simp at h3
  | b :: bs, [], Hs, hl, _, D, H, j, h1, _, _ => by simp at h1
  | b :: bs, K :: Ks, [], hl, _, D, H, j, _, h2, _ => by simp at h2
  | b :: bs, K :: Ks, G :: Hs, hl, h, D, H, j, h1, h2, h3 => by
    match j with
    | 0 =>
      simp at h1 h2 h3
      subst h1 h2 h3
      exact h.1
    | j + 1 =>
      have h' : AllF bs Ks Hs f := by
        cases b with
        | true => exact h.2
        | false => exact h
      exact AllF_get (by simpa using hl) h' D H j (by simpa using h1) (by simpa using h2) (by simpa using h3)

theorem NewF_get {f : Heap → Heap → Prop} {i : Nat} : ∀ {bs : List Bool} {Ks : List Nat} {Hs Ns : List Heap}, bs.length = Ks.length → Ks.length = Hs.length → NewF bs Hs f Ns →
    (newK i bs Ks).length = Ns.length ∧ (∀ D H, (D, H) ∈ Ks.zip Hs → (∃ j : Nat, Ks[j]? = some D ∧ Hs[j]? = some H ∧ bs[j]? = some true) → ∃ N, f H N ∧ (D ||| 2 ^ i, N) ∈ (newK i bs Ks).zip Ns) ∧ (∀ K ∈ newK i bs Ks, ∃ D ∈ Ks, K = D ||| 2 ^ i)
  | [], [], [], [], _, _, _ => ⟨rfl, fun D H h => by simp at h, fun K hK => by simp [newK] at hK⟩
  | [], [], [], N :: Ns, _, _, h => by simp [NewF] at h
  | true :: bs, K :: Ks, G :: Hs, N :: Ns, h1, h2, h => by
    obtain ⟨k1, k2, k3⟩ := NewF_get (i := i) (by simpa using h1) (by simpa using h2) h.2
    refine ⟨by simp [newK, k1], fun D H hm ⟨j, j1, j2, j3⟩ => ?_, fun E hE => ?_⟩
    · match j with
      | 0 =>
        simp at j1 j2
        subst j1 j2
        exact ⟨N, h.1, by simp [newK]⟩
      | j + 1 =>
        simp only [List.getElem?_cons_succ] at j1 j2 j3
        obtain ⟨M, m1, m2⟩ := k2 D H (List.mem_of_getElem? (i := j) (by simp [List.getElem?_zip_eq_some, j1, j2])) ⟨j, j1, j2, j3⟩
        exact ⟨M, m1, by simp only [newK, List.zip_cons_cons]; exact List.mem_cons_of_mem _ m2⟩
    · simp only [newK] at hE
      rcases List.mem_cons.1 hE with rfl | hE
      · exact ⟨K, List.mem_cons_self, rfl⟩
      · obtain ⟨D, d1, d2⟩ := k3 E hE
        exact ⟨D, List.mem_cons_of_mem _ d1, d2⟩
  | true :: bs, K :: Ks, G :: Hs, [], h1, h2, h => by simp [NewF] at h
  | false :: bs, K :: Ks, G :: Hs, Ns, h1, h2, h => by
    have h' : NewF bs Hs f Ns := by simpa only [NewF] using h
    obtain ⟨k1, k2, k3⟩ := NewF_get (i := i) (bs := bs) (Ks := Ks) (by simpa using h1) (by simpa using h2) h'
    refine ⟨by simpa [newK] using k1, fun D H hm ⟨j, j1, j2, j3⟩ => ?_, fun E hE => ?_⟩
    · match j with
      | 0 => simp at j3
      | j + 1 =>
        simp only [List.getElem?_cons_succ] at j1 j2 j3
        obtain ⟨M, m1, m2⟩ := k2 D H (List.mem_of_getElem? (i := j) (by simp [List.getElem?_zip_eq_some, j1, j2])) ⟨j, j1, j2, j3⟩
        exact ⟨M, m1, by simpa only [newK] using m2⟩
    · simp only [newK] at hE
      obtain ⟨D, d1, d2⟩ := k3 E hE
      exact ⟨D, List.mem_cons_of_mem _ d1, d2⟩
  | [], K :: Ks, _, _, h1, _, _ => by simp at h1
  | b :: bs, [], _, _, h1, _, _ => by simp at h1
  | [], [], H :: Hs, _, _, h2, _ => by simp at h2
  | b :: bs, K :: Ks, [], _, _, h2, _ => by simp at h2

theorem zip_get {Ks : List Nat} {Hs : List Heap} {D : Nat} {H : Heap} (h : (D, H) ∈ Ks.zip Hs) : ∃ j : Nat, Ks[j]? = some D ∧ Hs[j]? = some H := by
  obtain ⟨j, hj⟩ := List.mem_iff_getElem?.1 h
  exact ⟨j, (List.getElem?_zip_eq_some.1 hj).1, (List.getElem?_zip_eq_some.1 hj).2⟩

/-- The keys of the sets, as they come: known without the heaps. -/
def keysG (p : PlanG) : Nat → Nat → List Nat → List Nat
  | 0, _, Ks => Ks
  | n + 1, i, Ks => keysG p n (i + 1) ((match p.isE i with | true => newK i (Ks.map (p.fits i)) Ks | false => []) ++ Ks)

def PlanG.okK (p : PlanG) (n : Nat) : Bool := (keysG p n 0 [0]).all (p.sets.contains ·) && nodupB (keysG p n 0 [0])
where
  nodupB : List Nat → Bool
  | [] => true
  | x :: xs => !xs.contains x && nodupB xs

theorem keysG_suffix {p : PlanG} : ∀ (n i : Nat) (Ks : List Nat), ∃ more, keysG p n i Ks = more ++ Ks
  | 0, _, Ks => ⟨[], rfl⟩
  | n + 1, i, Ks => by
    obtain ⟨more, h⟩ := keysG_suffix (p := p) n (i + 1) ((match p.isE i with | true => newK i (Ks.map (p.fits i)) Ks | false => []) ++ Ks)
    exact ⟨more ++ (match p.isE i with | true => newK i (Ks.map (p.fits i)) Ks | false => []), by rw [keysG, h, List.append_assoc]⟩

theorem nodupB_suffix : ∀ (xs ys : List Nat), PlanG.okK.nodupB (xs ++ ys) = true → PlanG.okK.nodupB ys = true
  | [], ys, h => h
  | x :: xs, ys, h => by
    simp only [List.cons_append, PlanG.okK.nodupB, Bool.and_eq_true] at h
    exact nodupB_suffix xs ys h.2

theorem funcW_zip : ∀ {Ks : List Nat} {Hs : List Heap}, PlanG.okK.nodupB Ks = true → FuncW (Ks.zip Hs)
  | [], Hs, _ => fun D H h => by simp at h
  | K :: Ks, [], _ => fun D H h => by simp at h
  | K :: Ks, G :: Hs, h => by
    simp only [PlanG.okK.nodupB, Bool.and_eq_true, Bool.not_eq_true'] at h
    intro D H hm
    rw [List.zip_cons_cons] at hm ⊢
    simp only [lookW]
    rcases List.mem_cons.1 hm with he | hm
    · cases he
      simp
    · split
      · rename_i he
        have := Nat.eq_of_beq_eq_true he
        subst this
        have h2 := (List.of_mem_zip hm).1
        rw [← List.contains_iff_mem, h.1] at h2
        cases h2
      · exact funcW_zip h.2 D H hm

theorem opsG_facts {ops : Array Oper} {p : PlanG} {b : Nat} {Q : St → Prop} (hS : p.okS ops.size = true) : ∀ (l : List Oper) (i : Nat) (sl : List AV) (Ks : List Nat) (Hs : List Heap) (pd : List Pg),
    i + l.length = ops.size → Ks.length = Hs.length → (∀ D ∈ Ks, D < 2 ^ i) → (∀ D ∈ keysG p l.length i Ks, D ∈ p.sets) → PlanG.okK.nodupB (keysG p l.length i Ks) = true → OpsG P C ops p b l i sl Ks Hs pd Q →
    ∃ (rs : List AV) (Kf : List Nat) (Hl : List Heap) (Hf : Heap), rs.length = l.length ∧ Kf.length = Hl.length ∧ Kf = keysG p l.length i Ks ∧ (∃ more, Kf.zip Hl = more ++ Ks.zip Hs ∧ ∀ x ∈ more, 2 ^ i ≤ x.1) ∧
      (∀ q ∈ pd, ∀ D H, (D, H) ∈ Kf.zip Hl → p.fits q.1 D = true → q.2 (lookW (Kf.zip Hl)) D H) ∧
      (∀ j o, l[j]? = some o → FactG P C ops p b (Kf.zip Hl) (i + j) o (sigF sl l rs j) (rs.getD j .any)) ∧ lookW (Kf.zip Hl) (p.full ops.size) = some Hf ∧ Q ⟨sigF sl l rs l.length, Hf⟩
  | [], i, sl, Ks, Hs, pd, hi, hl, hk, hs, hn, he => by
    obtain ⟨h1, H, h2, h3⟩ := he
    exact ⟨[], Ks, Hs, H, rfl, hl, rfl, ⟨[], rfl, fun x hx => by simp at hx⟩, h1, fun j o hj => by simp at hj, h2, h3⟩
  | o :: rest, i, sl, Ks, Hs, pd, hi, hl, hk, hs, hn, he => by
    obtain ⟨want, x, Ns, hw, hNs, hE, hA, hx, pd', hpd, hr⟩ := he
    have hin : i < ops.size := by rw [← hi]; simp
    have hlen2 : ((match p.isE i with | true => newK i (Ks.map (p.fits i)) Ks | false => []) ++ Ks).length = (Ns ++ Hs).length := by
      cases hEi : p.isE i with
      | true => simp [(NewF_get (i := i) (by simp) hl (hE hEi)).1, hl]
      | false => simp [hNs hEi, hl]
    have hkeys : ∀ D ∈ (match p.isE i with | true => newK i (Ks.map (p.fits i)) Ks | false => []), 2 ^ i ≤ D ∧ D < 2 ^ (i + 1) := by
      intro D hD
      cases hEi : p.isE i with
      | true =>
        rw [hEi] at hD
        obtain ⟨E, e1, rfl⟩ := (NewF_get (i := i) (by simp) hl (hE hEi)).2.2 D hD
        exact ⟨Nat.right_le_or, Nat.or_lt_two_pow (Nat.lt_trans (hk E e1) (Nat.pow_lt_pow_right (by decide) (by omega))) (Nat.pow_lt_pow_right (by decide) (by omega))⟩
      | false =>
        rw [hEi] at hD
        simp at hD
    obtain ⟨rs, Kf, Hl, Hf, k1, k2, k3, ⟨more2, e2, m2⟩, k5, k6, k7, k8⟩ := opsG_facts hS rest (i + 1) (putA sl o.dst x) _ (Ns ++ Hs) pd' (by rw [← hi]; simp; omega) hlen2 (fun D hD => by
      rcases List.mem_append.1 hD with hD | hD
      · exact (hkeys D hD).2
      · exact Nat.lt_trans (hk D hD) (Nat.pow_lt_pow_right (by decide) (by omega))) hs hn hr
    have hlenK : (match p.isE i with | true => newK i (Ks.map (p.fits i)) Ks | false => []).length = Ns.length := by
      have := hlen2
      simp only [List.length_append] at this
      omega
    have eW : Kf.zip Hl = (more2 ++ (match p.isE i with | true => newK i (Ks.map (p.fits i)) Ks | false => []).zip Ns) ++ Ks.zip Hs := by
      rw [e2, List.zip_append hlenK, List.append_assoc]
    have hbig : ∀ y ∈ more2 ++ (match p.isE i with | true => newK i (Ks.map (p.fits i)) Ks | false => []).zip Ns, 2 ^ i ≤ y.1 := by
      intro y hy
      rcases List.mem_append.1 hy with hy | hy
      · exact Nat.le_trans (Nat.pow_le_pow_right (by decide) (by omega)) (m2 y hy)
      · exact (hkeys y.1 (List.of_mem_zip (show (y.1, y.2) ∈ _ from hy)).1).1
    have hKf : Kf = keysG p (o :: rest).length i Ks := k3
    have hfun : FuncW (Kf.zip Hl) := funcW_zip (by rw [hKf]; exact hn)
    have fact : ∀ D H, lookW (Kf.zip Hl) D = some H → p.fits i D = true → goalG P C p b i o sl want x (lookW (Kf.zip Hl)) D H := by
      intro D H hlk hfit
      have hm := lookW_mem hlk
      rcases hpd with rfl | ⟨rfl, hmu | ⟨hEi, hall⟩⟩
      · exact k5 _ List.mem_cons_self D H hm hfit
      · have hD : D ∈ p.sets := hs D (by rw [← hKf]; exact (List.of_mem_zip hm).1)
        unfold PlanG.okS at hS
        simp only [Bool.and_eq_true] at hS
        have h1 := List.all_eq_true.1 hS.2 i (List.mem_range.2 hin)
        rw [hmu, Bool.false_or] at h1
        have h2 := List.all_eq_true.1 h1 D hD
        rw [hfit, Bool.not_true, Bool.false_or, Nat.blt_eq] at h2
        have hmW : (D, H) ∈ Ks.zip Hs := by
          rw [eW] at hm
          rcases List.mem_append.1 hm with hm | hm
          · have := hbig _ hm
            simp only at this
            omega
          · exact hm
        obtain ⟨j, j1, j2⟩ := zip_get hmW
        have j3 : (Ks.map (p.fits i))[j]? = some true := by rw [List.getElem?_map, j1]; simp [hfit]
        cases hEi : p.isE i with
        | true =>
          obtain ⟨N, n1, n2⟩ := (NewF_get (i := i) (by simp) hl (hE hEi)).2.1 D H hmW ⟨j, j1, j2, j3⟩
          refine ⟨N, ?_, fun _ => hfun _ _ ?_, fun h => (by rw [hEi] at h; cases h)⟩
          · cases want <;> exact n1
          · rw [eW, hEi]
            exact List.mem_append.2 (.inl (List.mem_append.2 (.inr n2)))
        | false =>
          refine ⟨H, ?_, fun h => (by rw [hEi] at h; cases h), fun _ => rfl⟩
          rcases hA hEi with ha | ha
          · have := ha H
            cases want with
            | true => exact this
            | false => exact ⟨this, rfl⟩
          · have := AllF_get (by simp) ha D H j j1 j2 j3
            cases want with
            | true => exact this
            | false => exact ⟨this, rfl⟩
      · refine ⟨H, ?_, fun h => (by rw [hEi] at h; cases h), fun _ => rfl⟩
        have := hall H
        cases want with
        | true => exact this
        | false => exact ⟨this, rfl⟩
    refine ⟨x :: rs, Kf, Hl, Hf, by simp [k1], k2, hKf, ⟨_, eW, hbig⟩, fun q hq => ?_, fun j oj hj => ?_, k7, k8⟩
    · rcases hpd with rfl | ⟨rfl, _⟩
      · exact k5 q (List.mem_cons_of_mem _ hq)
      · exact k5 q hq
    · match j with
      | 0 =>
        simp at hj
        subst hj
        rw [Nat.add_zero]
        cases want with
        | true =>
          refine .inl ⟨hw, fun D H hlk hfit => ?_⟩
          obtain ⟨H', g1, g2, g3⟩ := fact D H hlk hfit
          exact ⟨H', OpG.congr (rhoR_eq (ops := ops)) g1, g2, g3⟩
        | false =>
          refine .inr ⟨hw, hx rfl, fun D H hlk hfit hEi => ?_⟩
          obtain ⟨H', g1, g2, g3⟩ := fact D H hlk hfit
          rw [g2 hEi, g1.2]
      | j + 1 =>
        have := k6 j oj (by simpa using hj)
        rw [show i + (j + 1) = i + 1 + j from by omega]
        exact this

theorem RunA.opsG (g : Good P C) {id : Nat} {ops : Array Oper} {st : St} {Q : Exit → St → Prop} (p : PlanG) (m : Nat) (hp : p.ok ops st.sl.length = true) (hS : p.okS ops.size = true) (hK : p.okK ops.size = true)
    (r : OpsG P C ops p st.h.length ops.toList 0 st.sl [0] [st.h ++ kept m] [] fun st' => Q .normal st') : RunA P C (.region id ops true) st Q := by
  unfold PlanG.okK at hK
  simp only [Bool.and_eq_true] at hK
  obtain ⟨rs, Kf, Hl, Hf, k1, k2, k3, ⟨more, e2, m2⟩, k5, k6, k7, k8⟩ := opsG_facts hS ops.toList 0 st.sl [0] [st.h ++ kept m] [] (by simp) rfl (fun D hD => by simp at hD; subst hD; decide)
    (fun D hD => by have := List.all_eq_true.1 hK.1 D (by simpa using hD); simpa using this) (by simpa using hK.2) r
  rw [Array.length_toList] at k1 k8
  refine RunA.drawG g p m hp rs (Kf.zip Hl) Hf k1 ?_ k7 (fun j o ho => ?_) k8
  · refine funcW_zip (by rw [k3]; simpa using hK.2) _ _ ?_
    rw [e2]
    simp
  · have := k6 j o (by simpa using ho)
    rwa [Nat.zero_add] at this

/-! ### Rules -/
variable {ops : Array Oper} {p : PlanG} {b : Nat} {o : Oper} {rest : List Oper} {i : Nat} {sl : List AV} {Ks : List Nat} {Hs : List Heap} {pd : List Pg} {Q : St → Prop} {x : AV}

theorem OpsG.any (hw : wantA ops sl o = some true) (hE : p.isE i = false) (ha : ∀ H, OpG P C ((p.place.getD i none).map (b + ·)) (rho C sl) H o.op fun y h => y = x ∧ h = H)
    (r : OpsG P C ops p b rest (i + 1) (putA sl o.dst x) Ks Hs pd Q) : OpsG P C ops p b (o :: rest) i sl Ks Hs pd Q :=
  ⟨true, x, [], hw, fun _ => rfl, fun h => (by rw [hE] at h; cases h), fun _ => .inl ha, fun h => (by cases h), pd, .inr ⟨rfl, .inr ⟨hE, ha⟩⟩, by rw [hE]; exact r⟩

theorem OpsG.skip (hw : wantA ops sl o = some false) (hE : p.isE i = false) (r : OpsG P C ops p b rest (i + 1) (putA sl o.dst (.tup [])) Ks Hs pd Q) : OpsG P C ops p b (o :: rest) i sl Ks Hs pd Q :=
  ⟨false, .tup [], [], hw, fun _ => rfl, fun h => (by rw [hE] at h; cases h), fun _ => .inl fun _ => rfl, fun _ => rfl, pd, .inr ⟨rfl, .inr ⟨hE, fun _ => rfl⟩⟩, by rw [hE]; exact r⟩

/-- The first operations, which do not look at the heap. -/
def opsGP (C : Cfg) (ops : Array Oper) (p : PlanG) : List Oper → Nat → List AV → Option (List AV)
  | [], _, sl => some sl
  | o :: rest, i, sl => match p.isE i with
    | true => none
    | false => match p.place.getD i none with
      | some _ => none
      | none => match wantA ops sl o with
        | some true => match pureA C (rho C sl) o.op with
          | some x => opsGP C ops p rest (i + 1) (putA sl o.dst x)
          | none => none
        | some false => opsGP C ops p rest (i + 1) (putA sl o.dst (.tup []))
        | none => none

theorem OpsG.pre {l : List Oper} {sl' : List AV} (k : Nat) (h : opsGP C ops p (l.take k) i sl = some sl') (hk : OpsG P C ops p b (l.drop k) (i + (l.take k).length) sl' Ks Hs pd Q) : OpsG P C ops p b l i sl Ks Hs pd Q := by
  have key : ∀ (l1 : List Oper) (i : Nat) (s : List AV), opsGP C ops p l1 i s = some sl' → OpsG P C ops p b (l.drop k) (i + l1.length) sl' Ks Hs pd Q → OpsG P C ops p b (l1 ++ l.drop k) i s Ks Hs pd Q := by
    intro l1
    induction l1 with
    | nil =>
      intro i s hs hk
      simp only [opsGP, Option.some.injEq] at hs
      subst hs
      exact hk
    | cons o l1 ih =>
      intro i s hs hk
      have hk' : OpsG P C ops p b (l.drop k) (i + 1 + l1.length) sl' Ks Hs pd Q := by
        rw [show i + 1 + l1.length = i + (o :: l1).length from by simp; omega]; exact hk
      simp only [opsGP] at hs
      split at hs
      · cases hs
      · rename_i hE
        split at hs
        · cases hs
        · rename_i hpl
          split at hs
          · rename_i hw
            split at hs
            · rename_i x hx
              refine OpsG.any (x := x) hw hE (fun H => ?_) (ih _ _ hs hk')
              rw [hpl]
              exact .plain (by unfold plainA; rw [hx]) ⟨rfl, rfl⟩
            · cases hs
          · rename_i hw
            exact OpsG.skip hw hE (ih _ _ hs hk')
          · cases hs
  rw [← List.take_append_drop k l]
  exact key _ _ _ h hk

theorem OpsG.call {c : Call} {f : FuncId} {args : List AV} (hw : wantA ops sl o = some true) (hE : p.isE i = false) (hpl : p.place.getD i none = none) (ho : o.op = .call c) (ht : targetA C (rho C sl) c = some (f, args)) (hb : hasBody C f = true)
    (hc : ∀ H, CallA P C f args H fun y h' => y = x ∧ h' = H) (r : OpsG P C ops p b rest (i + 1) (putA sl o.dst x) Ks Hs pd Q) : OpsG P C ops p b (o :: rest) i sl Ks Hs pd Q :=
  .any hw hE (fun H => by rw [hpl, ho]; exact .inr ⟨c, f, args, rfl, ht, hb, hc H⟩) r

theorem AllF.imp {f g : Nat → Heap → Prop} (hfg : ∀ D H, f D H → g D H) : ∀ {bs : List Bool} {Ks : List Nat} {Hs : List Heap}, AllF bs Ks Hs f → AllF bs Ks Hs g
  | [], _, _, _ => by simp [AllF]
  | _ :: _, [], _, _ => by simp [AllF]
  | _ :: _, _ :: _, [], _ => by simp [AllF]
  | true :: bs, D :: Ks, H :: Hs, h => ⟨hfg D H h.1, AllF.imp hfg h.2⟩
  | false :: bs, D :: Ks, H :: Hs, h => AllF.imp (bs := bs) hfg h

theorem NewF.imp {f g : Heap → Heap → Prop} (hfg : ∀ H N, f H N → g H N) : ∀ {bs : List Bool} {Hs Ns : List Heap}, NewF bs Hs f Ns → NewF bs Hs g Ns
  | [], [], [], _ => trivial
  | [], [], _ :: _, h => by simp [NewF] at h
  | [], _ :: _, _, h => by simp [NewF] at h
  | b :: _, [], _, h => by cases b <;> simp [NewF] at h
  | true :: bs, H :: Hs, [], h => by simp [NewF] at h
  | true :: bs, H :: Hs, N :: Ns, h => ⟨hfg H N h.1, NewF.imp hfg h.2⟩
  | false :: bs, H :: Hs, Ns, h => by
    simp only [NewF] at h ⊢
    exact NewF.imp hfg h

/-- A look at the heap. -/
theorem OpsG.read (fl : List Bool) (hw : wantA ops sl o = some true) (hE : p.isE i = false) (hpl : p.place.getD i none = none) (hf : Ks.map (p.fits i) = fl) (ha : AllF fl Ks Hs fun _ H => quietA C (rho C sl) H o.op = some x)
    (pd' : List Pg) (hpd : pd' = (i, goalG P C p b i o sl true x) :: pd ∨ (pd' = pd ∧ p.multi.contains i = false))
    (r : OpsG P C ops p b rest (i + 1) (putA sl o.dst x) Ks Hs pd' Q) : OpsG P C ops p b (o :: rest) i sl Ks Hs pd Q := by
  refine ⟨true, x, [], hw, fun _ => rfl, fun h => (by rw [hE] at h; cases h), fun _ => .inr ?_, fun h => (by cases h), pd', ?_, by rw [hE]; exact r⟩
  · rw [hf]
    refine ha.imp fun D H h => ?_
    rw [hpl]
    exact .plain (quietA_plain h) ⟨rfl, rfl⟩
  · rcases hpd with h | ⟨h1, h2⟩
    · exact .inl h
    · exact .inr ⟨h1, .inl h2⟩

/-- An operation that turns the heap. 'ev': the operation in its place. -/
def effG (C : Cfg) (pl : Option Nat) (ρ : Operand → AV) (H : Heap) (o : Op) : Option (AV × Heap) := match pl with
  | some β => atA C ρ H β o
  | none => plainA C ρ H o
theorem effG_ok {pl : Option Nat} {ρ : Operand → AV} {H N : Heap} {o : Op} (h : effG C pl ρ H o = some (x, N)) : OpG P C pl ρ H o fun y h => y = x ∧ h = N := by
  unfold effG at h
  unfold OpG
  cases pl with
  | some β => exact ⟨x, N, h, rfl, rfl⟩
  | none => exact .plain h ⟨rfl, rfl⟩

theorem OpsG.eff (fl : List Bool) (Ks' : List Nat) (pl : Option Nat) (hw : wantA ops sl o = some true) (hE : p.isE i = true) (hpl : (p.place.getD i none).map (b + ·) = pl) (hf : Ks.map (p.fits i) = fl) (hK : newK i fl Ks ++ Ks = Ks') (Ns : List Heap) (ha : NewF fl Hs (fun H N => effG C pl (rho C sl) H o.op = some (x, N)) Ns)
    (pd' : List Pg) (hpd : pd' = (i, goalG P C p b i o sl true x) :: pd ∨ (pd' = pd ∧ p.multi.contains i = false))
    (r : OpsG P C ops p b rest (i + 1) (putA sl o.dst x) Ks' (Ns ++ Hs) pd' Q) : OpsG P C ops p b (o :: rest) i sl Ks Hs pd Q := by
  refine ⟨true, x, Ns, hw, fun h => (by rw [hE] at h; cases h), fun _ => ?_, fun h => (by rw [hE] at h; cases h), fun h => (by cases h), pd', ?_, by rw [hE, hf, hK]; exact r⟩
  · rw [hf, hpl]
    exact ha.imp fun H N h => effG_ok h
  · rcases hpd with h | ⟨h1, h2⟩
    · exact .inl h
    · exact .inr ⟨h1, .inl h2⟩

theorem OpsG.nil {H : Heap} (hl : lookW (Ks.zip Hs) (p.full ops.size) = some H) (hq : Q ⟨sl, H⟩) : OpsG P C ops p b [] i sl Ks Hs [] Q :=
  ⟨fun q hq => by simp at hq, H, hl, hq⟩

theorem OpsG.pop {q : Pg} (fl : List Bool) (hf : Ks.map (p.fits q.1) = fl) (ha : AllF fl Ks Hs (q.2 (lookW (Ks.zip Hs)))) (r : OpsG P C ops p b [] i sl Ks Hs pd Q) : OpsG P C ops p b [] i sl Ks Hs (q :: pd) Q := by
  obtain ⟨h1, h2⟩ := r
  refine ⟨fun q' hq' D H hm hfit => ?_, h2⟩
  rcases List.mem_cons.1 hq' with rfl | hq'
  · obtain ⟨j, j1, j2⟩ := zip_get hm
    subst hf
    exact AllF_get (by simp) ha D H j j1 j2 (by rw [List.getElem?_map, j1]; simp [hfit])
  · exact h1 q' hq' D H hm hfit

theorem goalG.read {look : Nat → Option Heap} {D : Nat} {H : Heap} (hE : p.isE i = false) (hpl : p.place.getD i none = none) (h : quietA C (rho C sl) H o.op = some x) : goalG P C p b i o sl true x look D H :=
  ⟨H, by rw [hpl]; exact .plain (quietA_plain h) ⟨rfl, rfl⟩, fun h => (by rw [hE] at h; cases h), fun _ => rfl⟩

theorem goalG.eff {look : Nat → Option Heap} {D : Nat} {H N : Heap} (pl : Option Nat) (hE : p.isE i = true) (hpl : (p.place.getD i none).map (b + ·) = pl) (h : effG C pl (rho C sl) H o.op = some (x, N)) (hl : look (D ||| 2 ^ i) = some N) : goalG P C p b i o sl true x look D H :=
  ⟨N, by rw [hpl]; exact effG_ok h, fun _ => hl, fun h => (by rw [hE] at h; cases h)⟩

theorem OpsG.split {l : List Oper} {t : Bool} (d : Nat) (hv : sl.getD d .any = .bool t) (ht : t = true → OpsG P C ops p b l i sl Ks Hs pd Q) (hf : t = false → OpsG P C ops p b l i sl Ks Hs pd Q) : OpsG P C ops p b l i sl Ks Hs pd Q := by
  cases t with
  | true => exact ht rfl
  | false => exact hf rfl
end
end Go.Ab
