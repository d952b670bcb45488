/- Walking in numbers of one's own: the library, part F. -/
import Derived.Test.YtdenooeaiicheaaGreatVE
set_option linter.unusedVariables false
set_option linter.unusedSimpArgs false
/- Walking in numbers of one's own: append of zeros. -/
namespace Go.Proofs.YtdenooeaiicheaaGreat.Av
open Go.RowKit (Below)
section
variable {P : Program} {ρ : Operand → Option Value} {m : Mem} {d : Option Tmp} {t : TypeId} {pp : String} {af : Array Edge} {g : Option (Nat × Bool)}
omit ρ m d t pp af g in
end
end Go.Proofs.YtdenooeaiicheaaGreat.Av
/- Walking in numbers of one's own: blocks numbered anew, where holes may bear any number. -/
namespace Go.Proofs.YtdenooeaiicheaaGreat.Av
def nin (i : Nat) : List Nat → Mem → Bool
  | j :: gl, some _ :: mh => !Nat.beq i j && nin i gl mh
  | _ :: gl, none :: mh => nin i gl mh
  | _, _ => true
theorem nin_spec {i : Nat} : ∀ {gl : List Nat} {mh : Mem}, nin i gl mh = true → ∀ (k : Nat) B, live mh k = some B → gl[k]? ≠ some i
  | [], _, _, k, B, _ => by simp
  | j :: gl, [], _, k, B, h => by simp [live] at h
  | j :: gl, none :: mh, h, k, B, hB => by
    cases k with
    | zero => simp [live] at hB
    | succ k => simpa using nin_spec (gl := gl) (mh := mh) (by simpa [nin] using h) k B (by simpa [live] using hB)
  | j :: gl, some B' :: mh, h, k, B, hB => by
    simp only [nin, Bool.and_eq_true, Bool.not_eq_true'] at h
    cases k with
    | zero =>
      intro e
      simp at e
      subst e
      simp [Nat.beq_refl] at h
    | succ k => simpa using nin_spec (gl := gl) (mh := mh) h.2 k B (by simpa [live] using hB)
/-- The blocks mh, their old numbers gl, as the blocks m have them. -/
inductive MemD (g : Nat → Nat) (m : Mem) : List Nat → Mem → Prop
  | nil : MemD g m [] []
  | hole {i gl mh} : MemD g m gl mh → MemD g m (i :: gl) (none :: mh)
  | blk {i gl mh cs cs' rw z} : live m i = some ⟨cs', rw, z⟩ → WkL cs' (renL g cs) → nin i gl mh = true → MemD g m gl mh → MemD g m (i :: gl) (some ⟨cs, rw, z⟩ :: mh)
theorem MemD.spec {g m gl mh} (h : MemD g m gl mh) : gl.length = mh.length ∧ (∀ (i : Nat) (j : Nat) B, gl[i]? = some j → live mh i = some B → ∃ B', live m j = some B' ∧ WkL B'.cells (renL g B.cells) ∧ B'.rw = B.rw ∧ B'.z = B.z) ∧
    ∀ (i j : Nat) B B', live mh i = some B → live mh j = some B' → i ≠ j → gl[i]? ≠ gl[j]? := by
  induction h with
  | nil => exact ⟨rfl, fun i j B h => by simp at h, fun i j B B' h => by simp [live] at h⟩
  | hole _ ih =>
    refine ⟨by simp [ih.1], fun i j B h1 h2 => ?_, fun i j B B' h1 h2 hne => ?_⟩
    · cases i with
      | zero => simp [live] at h2
      | succ i => exact ih.2.1 i j B (by simpa using h1) (by simpa [live] using h2)
    · cases i with
      | zero => simp [live] at h1
      | succ i => cases j with
        | zero => simp [live] at h2
        | succ j => simpa using ih.2.2 i j B B' (by simpa [live] using h1) (by simpa [live] using h2) (by omega)
  | blk h1 h2 h3 _ ih =>
    refine ⟨by simp [ih.1], fun i j B k1 k2 => ?_, fun i j B B' k1 k2 hne => ?_⟩
    · cases i with
      | zero =>
        simp [live] at k1 k2
        subst k1 k2
        exact ⟨_, h1, h2, rfl, rfl⟩
      | succ i => exact ih.2.1 i j B (by simpa using k1) (by simpa [live] using k2)
    · cases i with
      | zero => cases j with
        | zero => exact absurd rfl hne
        | succ j =>
          have := nin_spec h3 j B' (by simpa [live] using k2)
          simpa using this.symm
      | succ i => cases j with
        | zero =>
          have := nin_spec h3 i B (by simpa [live] using k1)
          simpa using this
        | succ j => simpa using ih.2.2 i j B B' (by simpa [live] using k1) (by simpa [live] using k2) (by omega)
theorem renum_listD {n0 : Nat} {m mh : Mem} (gl : List Nat) (h1 : gl.take n0 = List.range n0) (h2 : n0 ≤ gl.length) (h4 : MemD (gOf gl m.length) m gl mh) : Renum n0 (gOf gl m.length) m mh := by
  obtain ⟨e1, e2, e3⟩ := h4.spec
  have hlt : ∀ {i B}, live mh i = some B → i < gl.length := fun {i B} hB => by
    rw [e1]
    rw [live_some] at hB
    exact (List.getElem?_eq_some_iff.1 hB).1
  refine ⟨fun i hi => ?_, by omega, fun i hi => ?_, fun i B hB => ?_, fun i j B B' hB hB' hne => ?_⟩
  · have : (gl.take n0)[i]? = some i := by rw [h1]; simp [hi]
    rw [List.getElem?_take, if_pos hi] at this
    simp [gOf, this]
  · have : gl[i]? = none := List.getElem?_eq_none (by omega)
    simp [gOf, this]
  · obtain ⟨x, hg⟩ : ∃ x, gl[i]? = some x := ⟨_, List.getElem?_eq_getElem (hlt hB)⟩
    have : gOf gl m.length i = x := by simp [gOf, hg]
    rw [this]
    exact e2 i _ B hg hB
  · have h1 := List.getElem?_eq_getElem (hlt hB)
    have h2 := List.getElem?_eq_getElem (hlt hB')
    have := e3 i j B B' hB hB' hne
    rw [h1, h2] at this
    simp only [gOf, h1, h2]
    exact fun h => this (congrArg some h)
/-- The same, found by itself. -/
theorem fitsD {n0 : Nat} {σh σ : Slots} {m mh : Mem} (gl : List Nat) (hs : SlotsR (gOf gl m.length) σ σh := by ((repeat (first | exact SlotsR.nil | (apply SlotsR.cons; rfl; (first | exact Wk.refl _ | exact Wk.nil | (apply Wk.aggL; (repeat (first | exact WkL.nil | (apply WkL.cons; (first | exact Wk.refl _ | exact Wk.nil)))); first | done | fail))))); first | done | fail))
    (h4 : MemD (gOf gl m.length) m gl mh := by ((repeat (first | exact MemD.nil | (apply MemD.blk; rfl; (first | exact WkL.refl _ | exact WkL.ofEq (renL_map (fun _ => rfl) _).symm | exact WkL.ofEq (renL_flat _).symm | (refine WkL.ofEq (subl_id ?_); constructor; first | done | fail) | (focus ((repeat (first | exact WkL.nil | (apply WkL.cons; (first | exact Wk.refl _ | exact Wk.nil | (apply Wk.aggL; (repeat (first | exact WkL.nil | (apply WkL.cons; (first | exact Wk.refl _ | exact Wk.nil)))); first | done | fail))))); first | done | fail))); rfl) | apply MemD.hole)); first | done | fail)) (h1 : gl.take n0 = List.range n0 := by rfl) (h2 : Nat.ble n0 gl.length = true := by rfl) : Fits n0 σh mh σ m :=
  ⟨_, renum_listD gl h1 (Nat.le_of_ble_eq_true h2) h4, hs.spec⟩
/-- A callee's end. -/
theorem renumD {n0 : Nat} {m mh : Mem} (gl : List Nat) (h4 : MemD (gOf gl m.length) m gl mh := by ((repeat (first | exact MemD.nil | (apply MemD.blk; rfl; (first | exact WkL.refl _ | exact WkL.ofEq (renL_map (fun _ => rfl) _).symm | exact WkL.ofEq (renL_flat _).symm | (refine WkL.ofEq (subl_id ?_); constructor; first | done | fail) | (focus ((repeat (first | exact WkL.nil | (apply WkL.cons; (first | exact Wk.refl _ | exact Wk.nil | (apply Wk.aggL; (repeat (first | exact WkL.nil | (apply WkL.cons; (first | exact Wk.refl _ | exact Wk.nil)))); first | done | fail))))); first | done | fail))); rfl) | apply MemD.hole)); first | done | fail)) (h1 : gl.take n0 = List.range n0 := by rfl) (h2 : Nat.ble n0 gl.length = true := by rfl) : Renum n0 (gOf gl m.length) m mh :=
  renum_listD gl h1 (Nat.le_of_ble_eq_true h2) h4
/-! ### calls again -/
section
variable {P : Program} {ops : Array Oper} {l : List Oper} {σ : Slots} {m m' : Mem} {K : Slots → Mem → Prop} {d : Option Tmp} {t : TypeId} {pp : String} {af : Array Edge}
theorem stRW {fx : Operand} {xs : Array Operand} {at_ : Array TypeId} {f : FuncId} [FnI P f] {a1 a2 : Array Value} {vs args : List Value} {r : Value} {mc : Mem} (gl : List Nat) (hc : ACalls P f args mc r (holes mc)) (k : Run P ops K l (put σ d r) m)
    (hf : ev σ fx = some (.func (.func f) a1 a2) := by rfl) (hxs : ArgsR (ev σ) xs.toList vs := by ((repeat (apply ArgsR.cons; rfl)); exact ArgsR.nil))
    (hargs : WkL (a1.toList ++ vs ++ a2.toList) (renL (gOf gl (m.length - mc.length)) args) := by (first | exact WkL.refl _ | exact WkL.ofEq (renL_map (fun _ => rfl) _).symm | exact WkL.ofEq (renL_flat _).symm | (focus ((repeat (first | exact WkL.nil | (apply WkL.cons; (first | exact Wk.refl _ | exact Wk.nil | (apply Wk.aggL; (repeat (first | exact WkL.nil | (apply WkL.cons; (first | exact Wk.refl _ | exact Wk.nil)))); first | done | fail))))); first | done | fail)))) (hgl : Nat.ble mc.length m.length = true := by rfl)
    (hsub : SubM (gOf gl (m.length - mc.length)) m gl mc := by ((repeat (first | exact SubM.nil | (apply SubM.rw; rfl; (first | exact WkL.refl _ | exact WkL.ofEq (renL_map (fun _ => rfl) _).symm | exact WkL.ofEq (renL_flat _).symm | (refine WkL.ofEq (subl_id ?_); constructor; first | done | fail) | (focus ((repeat (first | exact WkL.nil | (apply WkL.cons; (first | exact Wk.refl _ | exact Wk.nil | (apply Wk.aggL; (repeat (first | exact WkL.nil | (apply WkL.cons; (first | exact Wk.refl _ | exact Wk.nil)))); first | done | fail))))); first | done | fail)))) | (apply SubM.ro; rfl; (first | exact WkL.refl _ | exact WkL.ofEq (renL_map (fun _ => rfl) _).symm | exact WkL.ofEq (renL_flat _).symm | (refine WkL.ofEq (subl_id ?_); constructor; first | done | fail) | (focus ((repeat (first | exact WkL.nil | (apply WkL.cons; (first | exact Wk.refl _ | exact Wk.nil | (apply Wk.aggL; (repeat (first | exact WkL.nil | (apply WkL.cons; (first | exact Wk.refl _ | exact Wk.nil)))); first | done | fail))))); first | done | fail)))) | apply SubM.hole)); first | done | fail)) (hnd : ndB gl mc = true := by rfl) (hin : gl.all (fun j => Nat.blt j m.length) = true := by rfl)
    (hro : (mc.all fun b => !rwB b) = true := by rfl) (hr : plain 6 r = true := by rfl) : Run P ops K (⟨d, .call ⟨.value fx, xs, at_⟩, t, pp, af, none⟩ :: l) σ m :=
  run_step (ok_callR gl hc hf hxs hargs hgl hsub hnd hin hro hr) (Nat.le_refl _) k
theorem sdRW {M : List Nat} {kb base i : Nat} {cr : List Nat} {fx : Operand} {xs : Array Operand} {at_ : Array TypeId} {f : FuncId} [FnI P f] {a1 a2 : Array Value} {vs args : List Value} {r : Value} {mc : Mem} (gl : List Nat) (hc : ACalls P f args mc r (holes mc)) (k : RunD P ops M kb base K (i + 1) l (put σ d r) m cr)
    (hi : Nat.blt i kb = true := by rfl) (hf : ev σ fx = some (.func (.func f) a1 a2) := by rfl) (hxs : ArgsR (ev σ) xs.toList vs := by ((repeat (apply ArgsR.cons; rfl)); exact ArgsR.nil))
    (hargs : WkL (a1.toList ++ vs ++ a2.toList) (renL (gOf gl ((vis base cr (fun j => (M.getD i 0).testBit j) m).length - mc.length)) args) := by (first | exact WkL.refl _ | exact WkL.ofEq (renL_map (fun _ => rfl) _).symm | exact WkL.ofEq (renL_flat _).symm | (focus ((repeat (first | exact WkL.nil | (apply WkL.cons; (first | exact Wk.refl _ | exact Wk.nil | (apply Wk.aggL; (repeat (first | exact WkL.nil | (apply WkL.cons; (first | exact Wk.refl _ | exact Wk.nil)))); first | done | fail))))); first | done | fail)))) (hgl : Nat.ble mc.length (vis base cr (fun j => (M.getD i 0).testBit j) m).length = true := by rfl)
    (hsub : SubM (gOf gl ((vis base cr (fun j => (M.getD i 0).testBit j) m).length - mc.length)) (vis base cr (fun j => (M.getD i 0).testBit j) m) gl mc := by ((repeat (first | exact SubM.nil | (apply SubM.rw; rfl; (first | exact WkL.refl _ | exact WkL.ofEq (renL_map (fun _ => rfl) _).symm | exact WkL.ofEq (renL_flat _).symm | (refine WkL.ofEq (subl_id ?_); constructor; first | done | fail) | (focus ((repeat (first | exact WkL.nil | (apply WkL.cons; (first | exact Wk.refl _ | exact Wk.nil | (apply Wk.aggL; (repeat (first | exact WkL.nil | (apply WkL.cons; (first | exact Wk.refl _ | exact Wk.nil)))); first | done | fail))))); first | done | fail)))) | (apply SubM.ro; rfl; (first | exact WkL.refl _ | exact WkL.ofEq (renL_map (fun _ => rfl) _).symm | exact WkL.ofEq (renL_flat _).symm | (refine WkL.ofEq (subl_id ?_); constructor; first | done | fail) | (focus ((repeat (first | exact WkL.nil | (apply WkL.cons; (first | exact Wk.refl _ | exact Wk.nil | (apply Wk.aggL; (repeat (first | exact WkL.nil | (apply WkL.cons; (first | exact Wk.refl _ | exact Wk.nil)))); first | done | fail))))); first | done | fail)))) | apply SubM.hole)); first | done | fail)) (hnd : ndB gl mc = true := by rfl) (hin : gl.all (fun j => Nat.blt j (vis base cr (fun j => (M.getD i 0).testBit j) m).length) = true := by rfl)
    (hro : (mc.all fun b => !rwB b) = true := by rfl) (hr : plain 6 r = true := by rfl) : RunD P ops M kb base K i (⟨d, .call ⟨.value fx, xs, at_⟩, t, pp, af, none⟩ :: l) σ m cr :=
  .mem (m' := m) (V' := vis base cr (fun j => (M.getD i 0).testBit j) m) (Sub.refl σ) rfl (Nat.blt_eq.mp hi) rfl (ok_callR gl hc hf hxs hargs hgl hsub hnd hin hro hr) (extR_same _ _ (vis_len _ _ _ _)) (by simpa using k)
theorem stMW {fx : Operand} {xs : Array Operand} {at_ : Array TypeId} {f : FuncId} [FnI P f] {a1 a2 : Array Value} {vs args : List Value} {r r' : Value} {mc mc' : Mem} (gl : List Nat) (hc : ACalls P f args mc r mc') (k : Run P ops K l (put σ d r') m')
    (hf : ev σ fx = some (.func (.func f) a1 a2) := by rfl) (hxs : ArgsR (ev σ) xs.toList vs := by ((repeat (apply ArgsR.cons; rfl)); exact ArgsR.nil))
    (hargs : WkL (a1.toList ++ vs ++ a2.toList) (renL (gOf gl (m.length - mc.length)) args) := by (first | exact WkL.refl _ | exact WkL.ofEq (renL_map (fun _ => rfl) _).symm | exact WkL.ofEq (renL_flat _).symm | (focus ((repeat (first | exact WkL.nil | (apply WkL.cons; (first | exact Wk.refl _ | exact Wk.nil | (apply Wk.aggL; (repeat (first | exact WkL.nil | (apply WkL.cons; (first | exact Wk.refl _ | exact Wk.nil)))); first | done | fail))))); first | done | fail))))
    (hsub : SubM (gOf gl (m.length - mc.length)) m gl mc := by ((repeat (first | exact SubM.nil | (apply SubM.rw; rfl; (first | exact WkL.refl _ | exact WkL.ofEq (renL_map (fun _ => rfl) _).symm | exact WkL.ofEq (renL_flat _).symm | (refine WkL.ofEq (subl_id ?_); constructor; first | done | fail) | (focus ((repeat (first | exact WkL.nil | (apply WkL.cons; (first | exact Wk.refl _ | exact Wk.nil | (apply Wk.aggL; (repeat (first | exact WkL.nil | (apply WkL.cons; (first | exact Wk.refl _ | exact Wk.nil)))); first | done | fail))))); first | done | fail)))) | (apply SubM.ro; rfl; (first | exact WkL.refl _ | exact WkL.ofEq (renL_map (fun _ => rfl) _).symm | exact WkL.ofEq (renL_flat _).symm | (refine WkL.ofEq (subl_id ?_); constructor; first | done | fail) | (focus ((repeat (first | exact WkL.nil | (apply WkL.cons; (first | exact Wk.refl _ | exact Wk.nil | (apply Wk.aggL; (repeat (first | exact WkL.nil | (apply WkL.cons; (first | exact Wk.refl _ | exact Wk.nil)))); first | done | fail))))); first | done | fail)))) | apply SubM.hole)); first | done | fail))
    (hgl : Nat.ble mc.length m.length = true := by rfl) (hnd : ndB gl mc = true := by rfl) (hin : gl.all (fun j => Nat.blt j m.length) = true := by rfl) (hle : Nat.ble mc.length mc'.length = true := by rfl)
    (hr : NV (ren (gOf gl (m.length - mc.length)) r) r' := by constructor) (hm : NM (backL (gOf gl (m.length - mc.length)) gl mc mc' m) m' := by repeat constructor)
    (hlm : Nat.ble m.length m'.length = true := by rfl) : Run P ops K (⟨d, .call ⟨.value fx, xs, at_⟩, t, pp, af, none⟩ :: l) σ m :=
  st_callM gl hc k hf hxs hargs hsub hgl hnd hin hle hr hm hlm
end
end Go.Proofs.YtdenooeaiicheaaGreat.Av
