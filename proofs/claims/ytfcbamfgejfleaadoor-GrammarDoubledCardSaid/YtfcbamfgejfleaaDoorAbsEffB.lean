/-
  MEMORY: THE OPERATIONS THAT LOAD, STORE, MAKE AND APPEND. Conditions: 'Good': the table of types is the program's.
-/
import Derived.Test.YtfcbamfgejfleaaDoorAbsEff
namespace Go.Ab
section
variable {P : Program} {C : Cfg} {G : Nat → AV} {B : Nat} {h : Heap} {φ : Map} {w : World}

theorem bytesA_inv : ∀ (cells : List AV) (l : List UInt8), bytesA cells = some l → ∀ (vs : List Value), CellsRel h φ w vs cells → ∃ ns : List Int, vs = ns.map (Value.int .u8) ∧ l = ns.map fun n => UInt8.ofNat n.toNat
  | [], l, hx, vs, c => by
    simp [bytesA] at hx
    have : vs = [] := by have := c.1; simpa using this
    exact ⟨[], by simpa using this, by simp [hx]⟩
  | x :: r, l, hx, vs, c => by
    cases x
    case int k n =>
      cases k
      case u8 =>
        simp only [bytesA] at hx
        obtain ⟨l', hl', rfl⟩ := Option.map_eq_some_iff.1 hx
        cases vs with
        | nil => have := c.1; simp at this
        | cons v vs =>
          have hv := (c.2 0 v _ rfl rfl).2.int_inv
          subst hv
          obtain ⟨ns, rfl, rfl⟩ := bytesA_inv r l' hl' vs ⟨by have := c.1; simpa using this, fun j v x hv hx => c.2 (j + 1) v x hv hx⟩
          exact ⟨n :: ns, rfl, rfl⟩
      all_goals simp [bytesA] at hx
    all_goals simp [bytesA] at hx

theorem foldl_push_cells : ∀ (l : List Int) (r : ByteArray), l.foldl (fun r n => r.push (UInt8.ofNat n.toNat)) r = ⟨r.data ++ (l.map fun n => UInt8.ofNat n.toNat).toArray⟩
  | [], r => by simp
  | n :: l, r => by
    simp only [List.foldl_cons, List.map_cons]
    rw [foldl_push_cells l]
    simp [ByteArray.push]

theorem load_ok (i : Pic G B h φ w) (g : Good P C) {t : TypeId} {u : Value} {p x : AV} (ru : Rel h φ w u p) (hx : loadA C h t p = some x) : ∃ v, (Instr.loadAt t u).run P w = .ok v w ∧ Rel h φ w v x := by
  unfold loadA at hx
  split at hx
  · rename_i hagg
    have hk : (C.ut t).known = true := by revert hagg; cases C.ut t <;> simp [UD.isAgg, UD.known]
    obtain ⟨cells, hc, rfl⟩ := Option.map_eq_some_iff.1 hx
    obtain ⟨bl, o, vs, rfl, hcell, hrel, hlen⟩ := readAt_ok i ru hc
    have hload := run_loadCells_list (P := P) w ⟨bl, o, none⟩ vs (fun j v hv => by rw [Addr.add_lit]; exact hcell j v hv)
    rw [hrel.1, hlen] at hload
    refine ⟨.agg vs.toArray, ?_, CellsRel.agg (by simpa using hrel)⟩
    simp [Instr.loadAt, Instr.sureAddr, loadVar, run_isAgg g hk, hagg, run_sizeOf g hk, hload]
  · rename_i hagg
    split at hx
    · rename_i hk
      split at hx
      · rename_i v' hx'
        cases hx
        obtain ⟨bl, o, vs, rfl, hcell, hrel, hlen⟩ := readAt_ok i ru hx'
        match vs, hrel with
        | [v], hrel =>
          refine ⟨v, ?_, (hrel.2 0 v x rfl rfl).2⟩
          have hc := hcell 0 v rfl
          simp only [Nat.add_zero] at hc
          simp [Instr.loadAt, Instr.sureAddr, loadVar, run_isAgg g hk, hagg, hc]
        | [], hrel => have := hrel.1; simp at this
        | _ :: _ :: _, hrel => have := hrel.1; simp at this
      · cases hx
    · cases hx

theorem bytesToString_ok (i : Pic G B h φ w) (g : Good P C) {s d e : TypeId} {u : Value} {p : AV} {m : Nat} {cells : List AV} {l : List UInt8} (hs : C.ut s = .slice e) (hd : C.ut d = .str) (he : C.ut e = .int .u8)
    (ru : Rel h φ w u p) (hc : rd h 1 p = some cells) (hm : lenOf p = some m) (hlen : cells.length = m) (hl : bytesA cells = some l) : (convert s d u).run P w = .ok (.string ⟨l.toArray⟩) w := by
  obtain ⟨ad, cap, vs, rfl, hrel, hcell, hnone⟩ := rd_ok i ru hc hm
  obtain ⟨ns, rfl, rfl⟩ := bytesA_inv cells l hl vs hrel
  rw [run_convert_bytes_string w s d e ad m cap (und_slice g hs).1 (und_int g he) (und_str g hd)]
  cases ad with
  | none =>
    have h0 := hnone rfl
    have : ns = [] := by simpa using h0
    subst this
    simp [Conv.bytesToString]
    rfl
  | some a =>
    have hll : (ns.map (Value.int .u8)).length = m := by rw [hrel.1, hlen]
    have hload := run_loadCells_list (P := P) w a (ns.map (Value.int .u8)) (fun j v hv => hcell a rfl j v hv)
    rw [hll] at hload
    rw [run_bytesToString w a m cap ns hload, foldl_push_cells]
    simp

theorem readA_ok (i : Pic G B h φ w) (g : Good P C) {ρc : Operand → Value} {ρ : Operand → AV} (hρ : ∀ x, Rel h φ w (ρc x) (ρ x)) {o : Oper} {x : AV} (hp : readA C ρ h o.op = some x) :
    ∃ v, (execOp ρc o).run P w = .ok (.value v) w ∧ Rel h φ w v x := by
  obtain ⟨dst, op, type, pos, after, guard⟩ := o
  simp only at hp
  unfold readA at hp
  split at hp
  · rename_i t y
    obtain ⟨v, hrun, hr⟩ := load_ok i g (hρ y) hp
    exact ⟨v, by simp [execOp, hrun], hr⟩
  · rename_i s d y
    split at hp
    · rename_i e hs hd
      split at hp
      · rename_i he
        split at hp
        · rename_i cells m hc hm
          split at hp
          · rename_i hlen
            obtain ⟨l, hl, rfl⟩ := Option.map_eq_some_iff.1 hp
            have hrun := bytesToString_ok i g hs hd he (hρ y) hc hm hlen hl
            exact ⟨_, by simp [execOp, hrun], .str_of _⟩
          · cases hp
        · cases hp
      · cases hp
    · cases hp
  · cases hp

end
end Go.Ab
