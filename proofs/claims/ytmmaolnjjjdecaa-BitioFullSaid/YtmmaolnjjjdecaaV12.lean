/- Walking in numbers of one's own: loops, blocks numbered anew, calls that hand blocks on. -/
import Derived.Test.YtmmaolnjjjdecaaV11
set_option linter.unusedVariables false
set_option linter.unusedSimpArgs false
namespace Go.Proofs.Ytmmaolnjjjdecaa.Av
def gOf (gl : List Nat) (n i : Nat) : Nat := match gl[i]? with
  | some j => j
  | none => n + i
/-- The blocks mh, their old numbers gl, as the blocks m have them. -/
inductive MemR (g : Nat → Nat) (m : Mem) : List Nat → Mem → Prop
  | nil : MemR g m [] []
  | hole {i gl mh} : MemR g m gl mh → MemR g m (i :: gl) (none :: mh)
  | blk {i gl mh cs cs' rw z} : live m i = some ⟨cs', rw, z⟩ → WkL cs' (renL g cs) → MemR g m gl mh → MemR g m (i :: gl) (some ⟨cs, rw, z⟩ :: mh)
theorem MemR.spec {g m gl mh} (h : MemR g m gl mh) : gl.length = mh.length ∧ ∀ (i : Nat) (j : Nat) B, gl[i]? = some j → live mh i = some B → ∃ B', live m j = some B' ∧ WkL B'.cells (renL g B.cells) ∧ B'.rw = B.rw ∧ B'.z = B.z := by
  induction h with
  | nil => exact ⟨rfl, fun i j B h => by simp at h⟩
  | hole _ ih =>
    refine ⟨by simp [ih.1], fun i j B h1 h2 => ?_⟩
    cases i with
    | zero => simp [live] at h2
    | succ i => exact ih.2 i j B (by simpa using h1) (by simpa [live] using h2)
  | blk h1 h2 _ ih =>
    refine ⟨by simp [ih.1], fun i j B k1 k2 => ?_⟩
    cases i with
    | zero =>
      simp [live] at k1 k2
      subst k1 k2
      exact ⟨_, h1, h2, rfl, rfl⟩
    | succ i => exact ih.2 i j B (by simpa using k1) (by simpa [live] using k2)
theorem renum_list {n0 : Nat} {m mh : Mem} (gl : List Nat) (h1 : gl.take n0 = List.range n0) (h2 : n0 ≤ gl.length) (h4 : MemR (gOf gl m.length) m gl mh) (h5 : gl.Nodup) (h6 : ∀ j ∈ gl, j < m.length) : Renum n0 (gOf gl m.length) m mh := by
  obtain ⟨e1, e2⟩ := h4.spec
  refine ⟨fun i hi => ?_, by omega, fun i hi => ?_, fun i B hB => ?_, fun i j B B' hB hB' hne => ?_⟩
  · have : (gl.take n0)[i]? = some i := by rw [h1]; simp [hi]
    rw [List.getElem?_take, if_pos hi] at this
    simp [gOf, this]
  · have : gl[i]? = none := List.getElem?_eq_none (by omega)
    simp [gOf, this]
  · have hlt : i < gl.length := by
      rw [e1]
      rw [live_some] at hB
      exact (List.getElem?_eq_some_iff.1 hB).1
    have hg : gl[i]? = some gl[i] := List.getElem?_eq_getElem hlt
    have : gOf gl m.length i = gl[i] := by simp [gOf, hg]
    rw [this]
    exact e2 i _ B hg hB
  · have hlt : ∀ {i B}, live mh i = some B → i < gl.length := fun {i B} hB => by
      rw [e1]
      rw [live_some] at hB
      exact (List.getElem?_eq_some_iff.1 hB).1
    have h1 := hlt hB
    have h2 := hlt hB'
    simp only [gOf, List.getElem?_eq_getElem h1, List.getElem?_eq_getElem h2]
    intro h
    exact hne ((List.getElem_inj h5).1 h)
/-- The slots σh are among σ, in the old numbers. -/
inductive SlotsR (g : Nat → Nat) (σ : Slots) : Slots → Prop
  | nil : SlotsR g σ []
  | cons {t u v l} : look σ t = some u → Wk u (ren g v) → SlotsR g σ l → SlotsR g σ ((t, v) :: l)
theorem SlotsR.spec {g σ σh} (h : SlotsR g σ σh) : ∀ t v, look σh t = some v → ∃ u, look σ t = some u ∧ Wk u (ren g v) := by
  induction h with
  | nil => intro t v h; cases h
  | cons h1 h2 _ ih =>
    intro t v h
    rename_i t' u' v' l' _
    simp only [look] at h
    cases hb : Nat.beq t' t with
    | true => rw [hb] at h; rw [← Nat.eq_of_beq_eq_true hb]; simp at h; subst h; exact ⟨_, h1, h2⟩
    | false => rw [hb] at h; exact ih t v h
/-- The state (σ, m) may be written as (σh, mh). -/
structure Fits (n0 : Nat) (σh : Slots) (mh : Mem) (σ : Slots) (m : Mem) : Prop where
  ex : ∃ g, Renum n0 g m mh ∧ ∀ t v, look σh t = some v → ∃ u, look σ t = some u ∧ Wk u (ren g v)
theorem fits_list {n0 : Nat} {σh σ : Slots} {m mh : Mem} (gl : List Nat) (hs : SlotsR (gOf gl m.length) σ σh) (h4 : MemR (gOf gl m.length) m gl mh) (h1 : gl.take n0 = List.range n0) (h2 : Nat.ble n0 gl.length = true) (h5 : gl.Nodup) (h6 : ∀ j ∈ gl, j < m.length) : Fits n0 σh mh σ m :=
  ⟨_, renum_list gl h1 (Nat.le_of_ble_eq_true h2) h4 h5 h6, hs.spec⟩
theorem renL_map {α} {g : Nat → Nat} {f : α → Value} (hf : ∀ a, ren g (f a) = f a) (l : List α) : renL g (l.map f) = l.map f := by
  rw [renL_eq, List.map_map]
  exact List.map_congr_left fun a _ => hf a
/-- Rows of structs that hold no addresses read the same in every numbering. -/
class RenF {α : Type} (f : α → List Value) : Prop where
  eq : ∀ (g : Nat → Nat) a, renL g (f a) = f a
theorem renL_flat {α : Type} {g : Nat → Nat} {f : α → List Value} [h : RenF f] (l : List α) : renL g (l.flatMap f) = l.flatMap f := by
  induction l with
  | nil => rfl
  | cons a l ih =>
    have e := h.eq g a
    rw [renL_eq] at ih e ⊢
    rw [List.flatMap_cons, List.map_append, ih, e]
/-- The same, found by itself. -/
theorem fits {n0 : Nat} {σh σ : Slots} {m mh : Mem} (gl : List Nat) (hs : SlotsR (gOf gl m.length) σ σh := by ((repeat (first | exact SlotsR.nil | (apply SlotsR.cons; rfl; (first | exact Wk.refl _ | exact Wk.nil | (apply Wk.aggL; (repeat (first | exact WkL.nil | (apply WkL.cons; (first | exact Wk.refl _ | exact Wk.nil)))); done))))); done))
    (h4 : MemR (gOf gl m.length) m gl mh := by ((repeat (first | exact MemR.nil | (apply MemR.blk; rfl; (first | exact WkL.refl _ | exact WkL.ofEq (renL_map (fun _ => rfl) _).symm | exact WkL.ofEq (renL_flat _).symm | (focus ((repeat (first | exact WkL.nil | (apply WkL.cons; (first | exact Wk.refl _ | exact Wk.nil | (apply Wk.aggL; (repeat (first | exact WkL.nil | (apply WkL.cons; (first | exact Wk.refl _ | exact Wk.nil)))); done))))); done)))) | apply MemR.hole)); done)) (h1 : gl.take n0 = List.range n0 := by rfl) (h2 : Nat.ble n0 gl.length = true := by rfl) (h5 : gl.Nodup := by decide) (h6 : gl.all (fun j => Nat.blt j m.length) = true := by rfl) : Fits n0 σh mh σ m :=
  fits_list gl hs h4 h1 h2 h5 fun j hj => Nat.blt_eq.mp (List.all_eq_true.1 h6 j hj)
theorem then_normal {N : Slots → Mem → Prop} {Q : Exit → Slots → Mem → Prop} {σ : Slots} {m : Mem} (h : N σ m) : ThenA N Q .normal σ m := h
section
variable {P : Program} {nt n0 : Nat} {Q : Exit → Slots → Mem → Prop} {σ : Slots} {m : Mem}
theorem aw_fits {c : Code} {σh : Slots} {mh : Mem} (hf : Fits n0 σh mh σ m) (h : AW P nt n0 c Q σh mh) : AW P nt n0 c Q σ m := by
  obtain ⟨g, h1, h2⟩ := hf.ex
  exact aw_renum g h1 h2 h
theorem aw_loopg {α : Type} {c : Code} (S : α → Slots) (B : α → Mem) (R : α → Prop) (μ : α → Nat) (a0 : α) (h0 : Fits n0 (S a0) (B a0) σ m) (hR : R a0)
    (hr : ∀ a, R a → AW P nt n0 c (ThenA (fun σ' m' => ∃ a', Fits n0 (S a') (B a') σ' m' ∧ R a' ∧ μ a' < μ a) Q) (S a) (B a)) : AW P nt n0 (.loop c) Q σ m :=
  aw_loop (fun k σ m => ∃ a, Fits n0 (S a) (B a) σ m ∧ R a ∧ μ a = k) ⟨a0, h0, hR, rfl⟩ fun k σ m ⟨a, h1, h2, h3⟩ => aw_fits h1 ((hr a h2).mono fun e σ' m' h => by
    cases e with
    | normal =>
      obtain ⟨a', k1, k2, k3⟩ := h
      exact ⟨μ a', by omega, a', k1, k2, rfl⟩
    | _ => exact h)
end
/-! ### calls that hand blocks on -/
/-- How a callee's blocks mc stand in the caller's m: gl says where; what the callee may write the caller may write. -/
inductive SubM (g : Nat → Nat) (m : Mem) : List Nat → Mem → Prop
  | nil : SubM g m [] []
  | hole {i gl mc} : SubM g m gl mc → SubM g m (i :: gl) (none :: mc)
  | rw {i gl mc cs cs' z} : live m i = some ⟨cs', true, z⟩ → WkL cs' (renL g cs) → SubM g m gl mc → SubM g m (i :: gl) (some ⟨cs, true, z⟩ :: mc)
  | ro {i gl mc cs cs' r z} : live m i = some ⟨cs', r, z⟩ → WkL cs' (renL g cs) → SubM g m gl mc → SubM g m (i :: gl) (some ⟨cs, false, z⟩ :: mc)
theorem SubM.spec {g m gl mc} (h : SubM g m gl mc) : gl.length = mc.length ∧ ∀ (i : Nat) (j : Nat) B, gl[i]? = some j → live mc i = some B → ∃ B', live m j = some B' ∧ WkL B'.cells (renL g B.cells) ∧ (B.rw = true → B'.rw = true) ∧ B'.z = B.z := by
  induction h with
  | nil => exact ⟨rfl, fun i j B h => by simp at h⟩
  | hole _ ih =>
    refine ⟨by simp [ih.1], fun i j B h1 h2 => ?_⟩
    cases i with
    | zero => simp [live] at h2
    | succ i => exact ih.2 i j B (by simpa using h1) (by simpa [live] using h2)
  | rw h1 h2 _ ih =>
    refine ⟨by simp [ih.1], fun i j B k1 k2 => ?_⟩
    cases i with
    | zero =>
      simp [live] at k1 k2
      subst k1 k2
      exact ⟨_, h1, h2, fun _ => rfl, rfl⟩
    | succ i => exact ih.2 i j B (by simpa using k1) (by simpa [live] using k2)
  | ro h1 h2 _ ih =>
    refine ⟨by simp [ih.1], fun i j B k1 k2 => ?_⟩
    cases i with
    | zero =>
      simp [live] at k1 k2
      subst k1 k2
      exact ⟨_, h1, h2, fun h => (by cases h), rfl⟩
    | succ i => exact ih.2 i j B (by simpa using k1) (by simpa [live] using k2)
def image (G : Nat → Nat) : Option Blk → Option Blk
  | some B => cond B.rw (some ⟨renL G B.cells, true, B.z⟩) none
  | none => none
def rwB : Option Blk → Bool
  | some B => B.rw
  | none => false
/-- A caller's block behind the call: what the callee could write is as it left it. -/
def backB (G : Nat → Nat) (mc' : Mem) (i : Nat) (b : Option Blk) : List Nat → Mem → Nat → Option Blk
  | j :: gl, Bc :: mc, k => cond (Nat.beq j i && rwB Bc) (image G (live mc' k)) (backB G mc' i b gl mc (k + 1))
  | _, _, _ => b
def backFrom (G : Nat → Nat) (gl : List Nat) (mc mc' : Mem) : Nat → Mem → Mem
  | _, [] => (mc'.drop mc.length).map (image G)
  | i, b :: m => backB G mc' i b gl mc 0 :: backFrom G gl mc mc' (i + 1) m
/-- The caller's blocks behind the call, the callee's new ones behind them. -/
def backL (G : Nat → Nat) (gl : List Nat) (mc mc' : Mem) (m : Mem) : Mem := backFrom G gl mc mc' 0 m
theorem image_some {G b B} (h : image G b = some B) : ∃ B', b = some B' ∧ B'.rw = true ∧ B = ⟨renL G B'.cells, true, B'.z⟩ := by
  cases b with
  | none => cases h
  | some B' =>
    simp only [image] at h
    cases hr : B'.rw with
    | false => rw [hr] at h; cases h
    | true => rw [hr] at h; simp at h; exact ⟨B', rfl, hr, h.symm⟩
theorem backB_spec {G mc' i b} : ∀ (gl : List Nat) (mc : Mem) (k : Nat), gl.length = mc.length →
    (backB G mc' i b gl mc k = b ∧ ∀ j Bc, gl[j]? = some i → live mc j = some Bc → Bc.rw = false) ∨
    (∃ j Bc, gl[j]? = some i ∧ live mc j = some Bc ∧ Bc.rw = true ∧ backB G mc' i b gl mc k = image G (live mc' (k + j)))
  | [], [], k, _ => .inl ⟨rfl, fun j Bc h => by simp at h⟩
  | x :: gl, Bc :: mc, k, hl => by
    simp only [backB]
    cases hc : (Nat.beq x i && rwB Bc) with
    | true =>
      rw [cond_true]
      simp only [Bool.and_eq_true] at hc
      have := Nat.eq_of_beq_eq_true hc.1
      subst this
      cases Bc with
      | none => cases hc.2
      | some B => exact .inr ⟨0, B, by simp, by simp [live], hc.2, by simp⟩
    | false =>
      rw [cond_false]
      rcases backB_spec gl mc (k + 1) (by simpa using hl) with ⟨h1, h2⟩ | ⟨j, B, h1, h2, h3, h4⟩
      · refine .inl ⟨h1, fun j B hj hB => ?_⟩
        cases j with
        | zero =>
          simp at hj
          simp [live] at hB
          subst hj hB
          have : Nat.beq x x = true := Nat.beq_refl x
          rw [this] at hc
          simpa [rwB] using hc
        | succ j => exact h2 j B (by simpa using hj) (by simpa [live] using hB)
      · exact .inr ⟨j + 1, B, by simpa using h1, by simpa [live] using h2, h3, by rw [h4]; congr 2; omega⟩
theorem backFrom_get {G gl mc mc'} : ∀ (m : Mem) (i k : Nat), (k < m.length → (backFrom G gl mc mc' i m)[k]? = some (backB G mc' (i + k) ((m[k]?).join) gl mc 0)) ∧ (m.length ≤ k → (backFrom G gl mc mc' i m)[k]? = ((mc'.drop mc.length).map (image G))[k - m.length]?)
  | [], i, k => ⟨fun h => by simp at h, fun _ => by simp [backFrom]⟩
  | b :: m, i, k => by
    obtain ⟨h1, h2⟩ := backFrom_get (G := G) (gl := gl) (mc := mc) (mc' := mc') m (i + 1) (k - 1)
    cases k with
    | zero => exact ⟨fun _ => by simp [backFrom], fun h => by simp at h⟩
    | succ k =>
      refine ⟨fun h => ?_, fun h => ?_⟩
      · simp only [backFrom, List.getElem?_cons_succ]
        have := h1 (by simpa using h)
        simp only [Nat.add_sub_cancel] at this
        rw [this]
        congr 2
        omega
      · simp only [backFrom, List.getElem?_cons_succ]
        have := h2 (by simpa using h)
        simp only [Nat.add_sub_cancel] at this
        rw [this]
        congr 1
        simp
theorem VR.renTo {μ : Mu} {g : Nat → Nat} {x y : Value} (h : VR (fun i => μ (g i)) x y) : VR μ (Av.ren g x) y := by
  induction h with
  | bool b => exact .bool b
  | int k n => exact .int k n
  | string s => exact .string s
  | pnil => exact .pnil
  | ptr hL => exact .ptr hL
  | snil => exact .snil
  | slc hL a b c d => exact .slc hL a b c d
  | slcNil => exact .slcNil
  | fnil => exact .fnil
  | inil => exact .inil
  | mnil => exact .mnil
  | func a _ c _ ih1 ih2 =>
    simp only [Av.ren, renA_eq]
    exact .func (by simpa using a) (fun i u v hu hv => by simp at hu; obtain ⟨u', h1, rfl⟩ := hu; exact ih1 i u' v h1 hv) (by simpa using c) (fun i u v hu hv => by simp at hu; obtain ⟨u', h1, rfl⟩ := hu; exact ih2 i u' v h1 hv)
  | iface _ ih => exact .iface ih
  | agg a _ ih =>
    simp only [Av.ren, renA_eq]
    exact .agg (by simpa using a) (fun i u v hu hv => by simp at hu; obtain ⟨u', h1, rfl⟩ := hu; exact ih i u' v h1 hv)
  | tuple a _ ih =>
    simp only [Av.ren, renA_eq]
    exact .tuple (by simpa using a) (fun i u v hu hv => by simp at hu; obtain ⟨u', h1, rfl⟩ := hu; exact ih i u' v h1 hv)
section
variable {P : Program} {ρ : Operand → Option Value} {m : Mem} {d : Option Tmp} {t : TypeId} {pp : String} {af : Array Edge} {g : Option (Nat × Bool)}
/-- A call by a contract over the callee's own numbers. -/
theorem ok_callM {fx : Operand} {xs : Array Operand} {at_ : Array TypeId} {f : FuncId} [FnI P f] {a1 a2 : Array Value} {vs args : List Value} {r : Value} {mc mc' : Mem} (gl : List Nat) (hc : ACalls P f args mc r mc') (hf : ρ fx = some (.func (.func f) a1 a2)) (hxs : ArgsR ρ xs.toList vs)
    (hargs : WkL (a1.toList ++ vs ++ a2.toList) (renL (gOf gl (m.length - mc.length)) args)) (hgl : Nat.ble mc.length m.length = true) (hsub : SubM (gOf gl (m.length - mc.length)) m gl mc) (hnd : gl.Nodup) (hin : ∀ j ∈ gl, j < m.length)
    (hle : Nat.ble mc.length mc'.length = true) : OpOK P ⟨d, .call ⟨.value fx, xs, at_⟩, t, pp, af, g⟩ ρ m (ren (gOf gl (m.length - mc.length)) r) (backL (gOf gl (m.length - mc.length)) gl mc mc' m) := by
  have hle := Nat.le_of_ble_eq_true hle
  generalize hG : gOf gl (m.length - mc.length) = G at *
  have hgl := Nat.le_of_ble_eq_true hgl
  obtain ⟨s1, s2⟩ := hsub.spec
  have Gold : ∀ i, i < mc.length → gl[i]? = some (G i) := fun i hi => by
    have : gl[i]? = some gl[i] := List.getElem?_eq_getElem (by omega)
    rw [← hG]
    simp [gOf, this]
  have Gnew : ∀ i, mc.length ≤ i → G i = m.length + (i - mc.length) := fun i hi => by
    have : gl[i]? = none := List.getElem?_eq_none (by omega)
    rw [← hG]
    simp [gOf, this]
    omega
  have Gin : ∀ i, i < mc.length → G i < m.length := fun i hi => hin _ (List.mem_of_getElem? (Gold i hi))
  have Ginj : ∀ i j, i < mc.length → j < mc.length → G i = G j → i = j := fun i j hi hj h => by
    have h1 := Gold i hi
    have h2 := Gold j hj
    rw [h] at h1
    exact (List.getElem?_inj (by omega) hnd).1 (h1.trans h2.symm)
  constructor
  intro F w0 μ A w K Q hd hm ho hk
  obtain ⟨ys, h1, h2, h3⟩ := exec_call (P := P) (d := d) (t := t) (pp := pp) (af := af) (g := g) (w := w) hf hxs rfl ho
  have hal := hargs.len
  rw [renL_eq, List.length_map] at hal
  -- the callee's map
  let μc : Mu := fun i => if i < mc.length then μ (G i) else none
  let Fc : Nat → Prop := fun k => w.heap.size ≤ k ∨ ∃ i B L, live mc i = some B ∧ Rw B L ∧ μ (G i) = some L ∧ L.b = k
  have hmc : RepM Fc w μc mc w := by
    refine ⟨rfl, rfl, rfl, Nat.le_refl _, fun _ _ => rfl, fun k hk => .inl hk, fun i B hB => ?_, fun i j B B' L L' hB hB' hne hL hL' hrw hb => ?_⟩
    · have hi : i < mc.length := by
        rw [live_some] at hB
        exact (List.getElem?_eq_some_iff.1 hB).1
      obtain ⟨B', e1, e2, e3, e4⟩ := s2 i (G i) B (Gold i hi) hB
      obtain ⟨L, k1, k2, k3⟩ := hm.blk _ B' e1
      refine ⟨L, by show (if i < mc.length then μ (G i) else none) = _; rw [if_pos hi]; exact k1, ⟨fun h => k2.rw (e3 h), k2.z.trans e4, fun j x hx => ?_, fun hr hb => k2.row hr (hb.of e3 e2.ne)⟩, fun h => .inr ⟨i, B, L, hB, h, k1, rfl⟩⟩
      obtain ⟨u, u1, u2⟩ := e2.get hx
      obtain ⟨y, j1, j2⟩ := k2.cells j u u1
      refine ⟨y, j1, ((u2.vr j2).ren).mono fun id L h => ?_⟩
      show (if id < mc.length then μ (G id) else none) = _
      rcases Nat.lt_or_ge id mc.length with hid | hid
      · rw [if_pos hid]; exact h
      · rw [hd _ (by rw [Gnew id hid]; omega)] at h; cases h
    · have hi : i < mc.length := by
        rw [live_some] at hB
        exact (List.getElem?_eq_some_iff.1 hB).1
      have hj : j < mc.length := by
        rw [live_some] at hB'
        exact (List.getElem?_eq_some_iff.1 hB').1
      obtain ⟨B1, e1, e2, e3, _⟩ := s2 i (G i) B (Gold i hi) hB
      obtain ⟨B2, f1, f2, f3, _⟩ := s2 j (G j) B' (Gold j hj) hB'
      have hL1 : μ (G i) = some L := by have : (if i < mc.length then μ (G i) else none) = some L := hL; rwa [if_pos hi] at this
      have hL2 : μ (G j) = some L' := by have : (if j < mc.length then μ (G j) else none) = some L' := hL'; rwa [if_pos hj] at this
      exact hm.excl (G i) (G j) B1 B2 L L' e1 f1 (fun h => hne (Ginj i j hi hj h)) hL1 hL2 (hrw.of e3) (hb.of f3 f2.ne)
  have hdc : Dom μc mc.length := fun i hi => by show (if i < mc.length then μ (G i) else none) = none; rw [if_neg (by omega)]
  refine upon_of_calls h1 ((hc.calls Fc w μc w ys hdc hmc (by omega) fun i x y hx hy => ?_).mono ?_)
  · obtain ⟨u, u1, u2⟩ := hargs.get hx
    have := u2.vr (h3 i u y u1 hy)
    refine (this.ren).mono fun id L h => ?_
    show (if id < mc.length then μ (G id) else none) = _
    rcases Nat.lt_or_ge id mc.length with hid | hid
    · rw [if_pos hid]; exact h
    · rw [hd _ (by rw [Gnew id hid]; omega)] at h; cases h
  · rintro e w' ⟨μc', y, rfl, hext, hdom', hm', hy⟩
    let μ2 : Mu := fun i => if i < m.length then μ i else μc' (mc.length + (i - m.length))
    have hcomp : (fun i => μ2 (G i)) = μc' := by
      funext i
      show (if G i < m.length then μ (G i) else μc' (mc.length + (G i - m.length))) = μc' i
      rcases Nat.lt_or_ge i mc.length with hi | hi
      · rw [if_pos (Gin i hi), hext i hi]
        show _ = (if i < mc.length then μ (G i) else none)
        rw [if_pos hi]
      · rw [Gnew i hi, if_neg (by omega)]
        congr 1
        omega
    have hsub2 : ∀ id L, μ id = some L → μ2 id = some L := fun id L h => by
      show (if id < m.length then μ id else _) = _
      rcases Nat.lt_or_ge id m.length with hi | hi
      · rw [if_pos hi]; exact h
      · rw [hd id hi] at h; cases h
    have hFc : ∀ k, Fc k → F k := fun k hk => by
      rcases hk with hk | ⟨i, B, L, hB, hrw, hL, rfl⟩
      · exact hm.up k (Nat.le_trans hm.size hk)
      · have hi : i < mc.length := by
          rw [live_some] at hB
          exact (List.getElem?_eq_some_iff.1 hB).1
        obtain ⟨B', e1, _, e3, _⟩ := s2 i (G i) B (Gold i hi) hB
        obtain ⟨L', k1, _, k3⟩ := hm.blk _ B' e1
        rw [hL] at k1; cases k1
        exact k3 (hrw.of e3)
    -- every block behind the call is one that was kept, or one of the callee's
    have cls : ∀ id B, live (backL G gl mc mc' m) id = some B →
        (id < m.length ∧ live m id = some B ∧ ∀ j Bc, gl[j]? = some id → live mc j = some Bc → Bc.rw = false) ∨
        (∃ j B', id = G j ∧ live mc' j = some B' ∧ B'.rw = true ∧ B = ⟨renL G B'.cells, true, B'.z⟩) := fun id B hB => by
      rw [live_some] at hB
      obtain ⟨b1, b2⟩ := backFrom_get (G := G) (gl := gl) (mc := mc) (mc' := mc') m 0 id
      rcases Nat.lt_or_ge id m.length with hi | hi
      · have e := b1 hi
        rw [show backFrom G gl mc mc' 0 m = backL G gl mc mc' m from rfl, hB, Nat.zero_add] at e
        have e := (Option.some.inj e).symm
        rcases backB_spec (G := G) (mc' := mc') (i := id) (b := (m[id]?).join) gl mc 0 s1 with ⟨k1, k2⟩ | ⟨j, Bc, k1, k2, k3, k4⟩
        · rw [k1] at e
          exact .inl ⟨hi, e, k2⟩
        · rw [k4, Nat.zero_add] at e
          obtain ⟨B', q1, q2, q3⟩ := image_some e
          have hj : j < mc.length := by
            rw [live_some] at k2
            exact (List.getElem?_eq_some_iff.1 k2).1
          have : G j = id := Option.some.inj ((Gold j hj).symm.trans k1)
          exact .inr ⟨j, B', this.symm, q1, q2, q3⟩
      · have e := b2 hi
        rw [show backFrom G gl mc mc' 0 m = backL G gl mc mc' m from rfl, hB, List.getElem?_map, List.getElem?_drop] at e
        cases hq : mc'[mc.length + (id - m.length)]? with
        | none => rw [hq] at e; cases e
        | some b =>
          rw [hq] at e
          obtain ⟨B', q1, q2, q3⟩ := image_some (Option.some.inj e).symm
          subst q1
          exact .inr ⟨mc.length + (id - m.length), B', by rw [Gnew _ (by omega)]; omega, by rw [live_some]; exact hq, q2, q3⟩
    have keepL : ∀ {id B L}, id < m.length → live m id = some B → (∀ j Bc, gl[j]? = some id → live mc j = some Bc → Bc.rw = false) → μ id = some L → Takes B L → L.b < w.heap.size ∧ ¬ Fc L.b := fun {id B L} hi hB hkept hL hb => by
      obtain ⟨L', k1, k2, _⟩ := hm.blk id B hB
      rw [hL] at k1; cases k1
      have hlt := k2.lt hb
      refine ⟨hlt, fun hF => ?_⟩
      rcases hF with hF | ⟨i, Bc, L1, hBc, hrw, hL1, hbb⟩
      · omega
      · have hic : i < mc.length := by
          rw [live_some] at hBc
          exact (List.getElem?_eq_some_iff.1 hBc).1
        obtain ⟨B', e1, _, e3, _⟩ := s2 i (G i) Bc (Gold i hic) hBc
        have hne : G i ≠ id := fun e => by
          have := hkept i Bc (by rw [Gold i hic, e]) hBc
          rw [hrw.1] at this; cases this
        exact hm.excl (G i) id B' B L1 L e1 hB hne hL1 hL (hrw.of e3) hb hbb
    have calL : ∀ {j B'}, live mc' j = some B' → ∃ L, μc' j = some L ∧ μ2 (G j) = some L ∧ BlkOK μc' B' L w' ∧ (Rw B' L → Fc L.b) := fun {j B'} hB => by
      obtain ⟨L, k1, k2, k3⟩ := hm'.blk j B' hB
      exact ⟨L, k1, by rw [← k1, ← hcomp], k2, k3⟩
    refine ⟨y, rfl, hk μ2 y w' (fun id hi => by show (if id < m.length then μ id else _) = _; rw [if_pos hi]) (fun id hi => ?_) ⟨hm'.os.trans hm.os, hm'.tape.trans hm.tape, hm'.output.trans hm.output, Nat.le_trans hm.size hm'.size, fun k hk => ?_, hm.up, fun id B hB => ?_, fun id id' B B' L L' hB hB' hne hL hL' hrw hb => ?_⟩ ?_⟩
    · have hlen : (backL G gl mc mc' m).length = m.length + (mc'.length - mc.length) := by
        have : ∀ (m : Mem) i, (backFrom G gl mc mc' i m).length = m.length + (mc'.length - mc.length) := fun m => by
          induction m with
          | nil => intro i; simp [backFrom]
          | cons b m ih => intro i; simp [backFrom, ih]; omega
        exact this m 0
      rw [hlen] at hi
      show (if id < m.length then μ id else μc' (mc.length + (id - m.length))) = none
      rw [if_neg (by omega)]
      exact hdom' _ (by omega)
    · rw [hm'.frame k fun h => hk (hFc k h)]
      exact hm.frame k hk
    · rcases cls id B hB with ⟨h1, h2, h3⟩ | ⟨j, B', rfl, h2, h3, rfl⟩
      · obtain ⟨L, k1, k2, k3⟩ := hm.blk id B h2
        refine ⟨L, hsub2 _ _ k1, (k2.keep fun hb => ?_).mono hsub2, k3⟩
        obtain ⟨_, q2⟩ := keepL h1 h2 h3 k1 hb
        exact hm'.frame _ q2
      · obtain ⟨L, k0, k1, k2, k3⟩ := calL h2
        refine ⟨L, k1, ⟨fun _ => k2.rw h3, k2.z, fun i x hx => ?_, fun hr hb => k2.row hr (hb.of (fun _ => h3) (fun h h' => h (by simp only [h']; rfl)))⟩, fun hb => hFc _ (k3 ⟨h3, hb.2⟩)⟩
        rw [renL_eq, List.getElem?_map] at hx
        cases hq : B'.cells[i]? with
        | none => rw [hq] at hx; cases hx
        | some u =>
          rw [hq] at hx
          simp only [Option.map_some, Option.some.injEq] at hx
          subst hx
          obtain ⟨v, j1, j2⟩ := k2.cells i u hq
          refine ⟨v, j1, ?_⟩
          rw [← hcomp] at j2
          exact j2.renTo
    · rcases cls id B hB with ⟨h1, h2, h3⟩ | ⟨j, B1, rfl, h2, h3, rfl⟩ <;> rcases cls id' B' hB' with ⟨g1, g2, g3⟩ | ⟨j', B2, rfl, g2, g3, rfl⟩
      · have e1 : μ id = some L := by have : (if id < m.length then μ id else _) = some L := hL; rwa [if_pos h1] at this
        have e2 : μ id' = some L' := by have : (if id' < m.length then μ id' else _) = some L' := hL'; rwa [if_pos g1] at this
        exact hm.excl id id' B B' L L' h2 g2 hne e1 e2 hrw hb
      · have e1 : μ id = some L := by have : (if id < m.length then μ id else _) = some L := hL; rwa [if_pos h1] at this
        obtain ⟨_, q⟩ := keepL h1 h2 h3 e1 (.inl hrw)
        obtain ⟨L2, _, k1, k2', k3⟩ := calL g2
        rw [k1] at hL'; cases hL'
        rcases hb with hb | hb
        · exact fun e => q (e ▸ k3 ⟨g3, hb.2⟩)
        · exact fun e => q (e ▸ k3 (k2'.act g3 (.inr fun h' => hb (by simp only [h']; rfl))))
      · have e2 : μ id' = some L' := by have : (if id' < m.length then μ id' else _) = some L' := hL'; rwa [if_pos g1] at this
        obtain ⟨_, q⟩ := keepL g1 g2 g3 e2 hb
        obtain ⟨L2, _, k1, _, k3⟩ := calL h2
        rw [k1] at hL; cases hL
        exact fun e => q (e ▸ k3 ⟨h3, hrw.2⟩)
      · obtain ⟨L1, a0, a1, _, _⟩ := calL h2
        obtain ⟨L2, b0, b1, _, _⟩ := calL g2
        rw [a1] at hL; cases hL
        rw [b1] at hL'; cases hL'
        exact hm'.excl j j' B1 B2 _ _ h2 g2 (fun e => hne (by rw [e])) a0 b0 ⟨h3, hrw.2⟩ (hb.of (fun _ => g3) (fun h h' => h (by simp only [h']; rfl)))
    · rw [← hcomp] at hy
      exact hy.renTo
end
end Go.Proofs.Ytmmaolnjjjdecaa.Av
