/-
  The law GrammarRaw of the program returns true for all arguments, and turns nothing that was there; the card. Conditions: the listed variable reads as the program's text lays it (tied by the card).
-/
import Derived.Test.YtapdldekgbbomaaGreatDoorRows
import Derived.Test.YtapdldekgbbomaaGreatDoorCards
import Derived.Test.YtapdldekgbbomaaGreatDoorTie
import Derived.Test.YtapdldekgbbomaaGreatDoorGW16
import Derived.SevenTiedAt
import Derived.SizedLaws
import Derived.Below
import Derived.WalkKit
import Derived.ProofKit
import Derived.OpenShut
import Derived.ChangeOld
namespace Go.Proofs.YtapdldekgbbomaaGreatDoor.grammarRaw
open Go.ChangeShapes Go.WideShapes Go.ChangeAt Go.RowKit
set_option linter.unusedVariables false
/-- A slice of integers that came in. -/
def IsRow (k : IntKind) (w : World) (a : Option Addr) (len cap : Nat) (zs : List Int) : Prop :=
  (a = none ∧ len = 0 ∧ cap = 0 ∧ zs = []) ∨
  ∃ x, a = some x ∧ len ≤ cap ∧ cap ≤ maxLen ∧ zs.length = cap ∧ (∀ i, i < zs.length → w.cell? (x.add i) = some (.int k (zs.getD i 0))) ∧ ∀ n ∈ zs, (Lit.int k n).wf = true

/-- A call from outside, its arguments of any kind. -/
theorem law_globR {f : FuncId} {args : List Ab.AV} (r : Ab.CallA Tryz.prog cfg f args [] (fun x h' => x = .bool true ∧ h' = [])) (w : World) (hl : laidMetH Tryz.prog laid1 w) (cargs : Array Value) (hs : cargs.size = args.length) (hr : ∀ (j : Nat) v x, cargs[j]? = some v → args[j]? = some x → Ab.Rel [] (fun _ => (0, 0)) w v x) :
    Calls Tryz.prog f cargs w fun e w' => e = .returned (.bool true) ∧ Below w.heap.size w w' := by
  have hst : ∀ k, k < w.heap.size → Ab.Free [] (fun _ => (0, 0)) w k := fun k hk => ⟨hk, fun β b hb => by simp at hb⟩
  have i : Ab.Pic cfg.glob w.heap.size [] (fun _ => (0, 0)) w := ⟨fun β b hb => by simp at hb, fun β β' b b' hb => by simp at hb, fun β b hb => by simp at hb, fun β b hb => by simp at hb, Nat.le_refl _, fun g => prel_glob hl _ g⟩
  refine (r w.heap.size (fun _ => (0, 0)) w cargs i hs hr).mono fun e w' hp => ?_
  obtain ⟨v, x, h', φ', rfl, _, ev, hrel, rfl, _⟩ := hp
  rw [hrel.bool_inv]
  exact ⟨rfl, ev.os, ev.tape, ev.output, ev.size, fun k hk => (ev.keep k (hst k hk)).1⟩

theorem walk (a0 : Option Addr) (len0 cap0 : Nat) (z0 : List Int) (v1 : Value) {lock1 xi1 xp1 xd1 : Int} {l1' : List Go.Un.Ru} (a2 : Int) (a3 : Bool) (w : World) (hl : laidMetH Tryz.prog laid1 w) (w0 : IsRow .i64 w a0 len0 cap0 z0) (hl0 : len0 < 4611686018427387904) (e1 : Ab.Rel [] (fun _ => (0, 0)) w v1 (.agg [.int .i64 lock1, .int .i64 xi1, .int .i64 xp1, .int .i64 xd1, .vec l1'.length (Go.Un.encRus l1')])) (cl1 : l1'.length ≤ 9223372036854775807) (ci1 : ∀ r ∈ l1', r.items.length ≤ 9223372036854775807) : Calls Tryz.prog 4 #[.slice a0 len0 cap0, v1, .int .i64 a2, .bool a3] w fun e w' => e = .returned (.bool true) ∧ Below w.heap.size w w' := by
  obtain ⟨q0, l0, m0, b0⟩ := Ab.prel_ints w0
  refine law_globR (c_lawRaw (lock := lock1) (xi := xi1) (xp := xp1) (xd := xd1) (z0.take len0) (by rw [l0]; exact hl0) cl1 ci1 a2 a3) w hl _ rfl fun j v x hv hx => ?_
  match j with
  | 0 => have ev : Value.slice a0 len0 cap0 = v := Option.some.inj hv
         have ex : Ab.AV.vec (z0.take len0).length (Go.Un.encI (z0.take len0)) = x := Option.some.inj hx
         subst ev ex; exact .pure (q0.mono fun k j hk => ⟨rfl, hk, fun β b hb => by simp at hb⟩)
  | 1 => simp at hv hx; subst hv hx; exact e1
  | 2 => simp at hv hx; subst hv hx; exact .int_of _ _
  | 3 => simp at hv hx; subst hv hx; exact .bool_of _
  | j + 4 => simp at hv

set_option maxRecDepth 100000 in
theorem lifted (os : Os) (started : os.Started) (H : Type) (enc : TypeId × Value → H) :
    ReturnsInHanded {} Tryz.checked os 4 .any (fun w args => (Rows.grammarRawSpec.pre enc Tryz.prog Tryz.f4 [] false w args ∧ laidMetH Tryz.prog laid1 w) ∧ sizedMet enc Tryz.prog Tryz.f4 (OpenSpec.ofChange Rows.grammarRawSpec) false w args)
      (Rows.grammarRawSpec.post enc Tryz.prog Tryz.f4 false true false false) := by
  refine returnsInHanded_of_change_and (C := Tryz.checked) (X := fun w _ => laidMetH Tryz.prog laid1 w) (fun _ _ _ hh h => h.of_heap hh) own started (by kernel_rfl) Tryz.func4
    (ChangeSpec.witness_shaped (enc := enc) (C := Tryz.checked) (os := os) (X := fun w _ => laidMetH Tryz.prog laid1 w) false (World.doorLaid Tryz.prog 400 os) #[.slice none 0 0, .agg #[.int .i64 0, .int .i64 0, .int .i64 0, .int .i64 0, .slice none 0 0], .int .i64 0, .bool false] 8 rfl (World.shaped_of_RefB (by kernel_rfl) (by kernel_rfl)) (by kernel_rfl) (by kernel_rfl) (by kernel_rfl) (door_met os _)) ?_
  intro W base args ds gs before hval0 hW hcnd hsz0 hL _
  have hsz : (DataW.weightsEach Tryz.prog (Tryz.f4.params.toList ++ Rows.grammarRawSpec.plain.varTypes Tryz.prog) (ds ++ gs)).all (· ≤ reachBytes) = true := hsz0
  clear hsz0
  have hval : ∀ (j : Nat) t v, Tryz.f4.params[j]? = some t → args[j]? = some v → Value.okWide Tryz.prog W .any base t v := hval0
  have hW' := hW
  obtain ⟨p, q, hA0, hV, rfl, hfz, hnd⟩ := hW
  have hA : DataW.TrodAll enc Tryz.prog W 0 (fun _ => true) true Tryz.f4.params.toList args.toList ds p := hA0
  rw [Tryz.params4] at hA hval hsz
  obtain ⟨v0, vs0, d0, ds0, p0, q0, hargs, rfl, rfl, h0, r0⟩ := trodAll_cons hA
  obtain ⟨v1, vs1, d1, ds1, p1, q1, rfl, rfl, rfl, h1, r1⟩ := trodAll_cons r0
  obtain ⟨v2, vs2, d2, ds2, p2, q2, rfl, rfl, rfl, h2, r2⟩ := trodAll_cons r1
  obtain ⟨v3, vs3, d3, ds3, p3, q3, rfl, rfl, rfl, h3, r3⟩ := trodAll_cons r2
  obtain ⟨rfl, rfl, rfl⟩ := trodAll_nil r3
  obtain rfl : args = #[v0, v1, v2, v3] := by cases args; simp_all
  obtain ⟨rfl, rfl⟩ := trodVars_none hV
  obtain ⟨a0, len0, cap0, rfl⟩ := okWide_slice Tryz.underlying22 (hval 0 22 v0 rfl rfl)
  have k0 := h0
  have lt0 : ∀ x ∈ p0, x.block < W.heap.size := by obtain ⟨m, hm⟩ := k0; exact DataW.trod_lt m _ _ _ hm
  obtain ⟨z0, w0, hl0⟩ : ∃ zs, IsRow .i64 W a0 len0 cap0 zs ∧ len0 < 4611686018427387904 := by
    have hw : ∀ n ∈ d0.weights Tryz.prog 22, n ≤ reachBytes := fun n hn => of_decide_eq_true (List.all_eq_true.1 hsz n (DataW.weights_mem_each (j := 0) (t := 22) rfl rfl n hn))
    obtain ⟨fuel, hf⟩ := h0
    rcases open_ints Tryz.underlying22 Tryz.underlying3 (by kernel_rfl) hf with ⟨hcs, _⟩ | ⟨x, l, c, zs, hcs, _, hl, hm, hz, hx, hcell, hwz⟩
    · simp [Value.cells] at hcs
      obtain ⟨rfl, rfl, rfl⟩ := hcs
      exact ⟨[], .inl ⟨rfl, rfl, rfl, rfl⟩, by omega⟩
    · simp [Value.cells] at hcs
      obtain ⟨rfl, rfl, rfl⟩ := hcs
      have hz' : zs.length = cap0 := by simpa using hz
      refine ⟨zs, .inr ⟨_, rfl, hl, hm, hz', hcell, hwz⟩, ?_⟩
      have hd : d0 = .slice (lits .i64 (zs.take len0)) (lits .i64 (zs.drop len0)) := congrArg Prod.fst hx
      have h2 := hw (((zs.take len0).length + (zs.drop len0).length) * Tryz.prog.bytesOf 3) (by rw [hd]; simp [DataW.weights, Tryz.underlying22, lits])
      rw [show Tryz.prog.bytesOf 3 = 8 from by kernel_rfl] at h2
      simp only [reachBytes, List.length_take, List.length_drop, hz'] at h2
      omega
  have k1 := h1
  have lt1 : ∀ x ∈ p1, x.block < W.heap.size := by obtain ⟨m, hm⟩ := k1; exact DataW.trod_lt m _ _ _ hm
  obtain ⟨lock1, xi1, xp1, xd1, l1', e1, cl1, ci1⟩ := open_cert (hval 1 39 v1 rfl rfl) h1
  obtain ⟨a2, rfl, rfl, rfl, w2⟩ := open_int Tryz.underlying3 (hval 2 3 v2 rfl rfl) h2
  obtain ⟨a3, rfl, rfl, rfl⟩ := open_bool Tryz.underlying4 (hval 3 4 v3 rfl rfl) h3
  clear hA0 hval0
  refine (walk a0 len0 cap0 z0 v1 a2 a3 W hL w0 hl0 e1 cl1 ci1).mono fun e W' ⟨he, bel⟩ => ?_
  subst he
  exact ⟨_, rfl, _, _, _, [], _, [], hW', trodAll_mk1 (shut_bool Tryz.underlying4 _), (trodAll_cons_mk (Below.trod laidOut (by kernel_rfl) (of_decide_eq_true (by kernel_rfl)) k0 bel lt0) (trodAll_cons_mk (Below.trod laidOut (by kernel_rfl) (of_decide_eq_true (by kernel_rfl)) k1 bel lt1) (trodAll_cons_mk (shut_int Tryz.underlying3 w2) (trodAll_cons_mk (shut_bool Tryz.underlying4 _) trodAll_mk0)))), rfl, bel.frame _, fun h => by cases h⟩

theorem over : Rows.GrammarRawSaid :=
  OpenClaim.holds_of_wide 4 Tryz.f4 rfl rfl rfl rfl rfl rfl rfl ⟨rfl, rfl, rfl, rfl, rfl⟩ rfl rfl rfl rfl rfl (by kernel_rfl) Tryz.func4 (by kernel_rfl)
    (of_decide_eq_true (by kernel_rfl)) (by unfold Func.isWrapper; first | (rw [if_pos (by decide +kernel)]; kernel_rfl) | (rw [if_neg (by decide +kernel)]; exact ⟨rfl, rfl⟩))
    (fun os started H enc _ => lifted os started H enc)

/-- ████ THE CARD ████ -/
theorem proved : Rows.GrammarRawCardSaid :=
  Claim7.holds_tied_plain_at .later [] [.data] true (true, "00fb16db35dd6fe3083e2d0f536a6e1f7ff9b6c017a5853b3fec44c1b00c8f0b") false
    over (fun _ h => by cases h) (by kernel_rfl) (fun _ h => by cases h) grammarRaw_row_tie rfl ⟨rfl, rfl⟩ (by kernel_rfl) rfl
    (fun f fn hf hfn => by
      obtain rfl : f = 4 := Option.some.inj ((show Tryz.prog.funcNamed "lockorder/lockorderlaw25.GrammarRaw" = some 4 by kernel_rfl).symm.trans hf) |>.symm
      obtain rfl : fn = Tryz.f4 := (Option.some.inj (Tryz.func4.symm.trans hfn)).symm
      exact ⟨by kernel_rfl, fun j t ht => by
        rw [Tryz.params4] at ht
        have hm : t ∈ [22, 39, 3, 4] := by simpa using Array.mem_of_getElem? ht
        have hall : ([22, 39, 3, 4].all fun u => !Tryz.prog.wantsStandIn u) = true := by kernel_rfl
        exact (show Tryz.prog.wantsStandIn t = false by simpa using List.all_eq_true.1 hall t hm)⟩)
    (by kernel_rfl)
#print axioms proved
end Go.Proofs.YtapdldekgbbomaaGreatDoor.grammarRaw
