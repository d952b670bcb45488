/- Walking in numbers of one's own: the library, part E. -/
import Derived.Test.YtdenooeaiicheaaGreatVD
import Derived.OpenShut
import Derived.ChangeSame
import Derived.Deep.Slices
import Derived.Lib.SmallJoins
set_option linter.unusedVariables false
set_option linter.unusedSimpArgs false
/- Walking in numbers of one's own: loops, blocks numbered anew, calls that hand blocks on. -/
namespace Go.Proofs.YtdenooeaiicheaaGreat.Av
def gOf (gl : List Nat) (n i : Nat) : Nat := match gl[i]? with
  | some j => j
  | none => n + i
/-- The blocks mh, their old numbers gl, as the blocks m have them. -/
inductive MemR (g : Nat → Nat) (m : Mem) : List Nat → Mem → Prop
  | nil : MemR g m [] []
  | hole {i gl mh} : MemR g m gl mh → MemR g m (i :: gl) (none :: mh)
  | blk {i gl mh cs cs' rw z} : live m i = some ⟨cs', rw, z⟩ → WkL cs' (renL g cs) → MemR g m gl mh → MemR g m (i :: gl) (some ⟨cs, rw, z⟩ :: mh)
theorem MemR.spec {g m gl mh} (h : MemR g m gl mh) : gl.length = mh.length ∧ ∀ (i : Nat) (j : Nat) B, gl[i]? = some j → live mh i = some B → ∃ B', live m j = some B' ∧ WkL B'.cells (renL g B.cells) ∧ B'.rw = B.rw ∧ B'.z = B.z := by
  induction h with
  | nil => exact ⟨rfl, fun i j B h => by simp at h⟩
  | hole _ ih =>
    refine ⟨by simp [ih.1], fun i j B h1 h2 => ?_⟩
    cases i with
    | zero => simp [live] at h2
    | succ i => exact ih.2 i j B (by simpa using h1) (by simpa [live] using h2)
  | blk h1 h2 _ ih =>
    refine ⟨by simp [ih.1], fun i j B k1 k2 => ?_⟩
    cases i with
    | zero =>
      simp [live] at k1 k2
      subst k1 k2
      exact ⟨_, h1, h2, rfl, rfl⟩
    | succ i => exact ih.2 i j B (by simpa using k1) (by simpa [live] using k2)
theorem renum_list {n0 : Nat} {m mh : Mem} (gl : List Nat) (h1 : gl.take n0 = List.range n0) (h2 : n0 ≤ gl.length) (h4 : MemR (gOf gl m.length) m gl mh) (h5 : gl.Nodup) (h6 : ∀ j ∈ gl, j < m.length) : Renum n0 (gOf gl m.length) m mh := by
  obtain ⟨e1, e2⟩ := h4.spec
  refine ⟨fun i hi => ?_, by omega, fun i hi => ?_, fun i B hB => ?_, fun i j B B' hB hB' hne => ?_⟩
  · have : (gl.take n0)[i]? = some i := by rw [h1]; simp [hi]
    rw [List.getElem?_take, if_pos hi] at this
    simp [gOf, this]
  · have : gl[i]? = none := List.getElem?_eq_none (by omega)
    simp [gOf, this]
  · have hlt : i < gl.length := by
      rw [e1]
      rw [live_some] at hB
      exact (List.getElem?_eq_some_iff.1 hB).1
    have hg : gl[i]? = some gl[i] := List.getElem?_eq_getElem hlt
    have : gOf gl m.length i = gl[i] := by simp [gOf, hg]
    rw [this]
    exact e2 i _ B hg hB
  · have hlt : ∀ {i B}, live mh i = some B → i < gl.length := fun {i B} hB => by
      rw [e1]
      rw [live_some] at hB
      exact (List.getElem?_eq_some_iff.1 hB).1
    have h1 := hlt hB
    have h2 := hlt hB'
    simp only [gOf, List.getElem?_eq_getElem h1, List.getElem?_eq_getElem h2]
    intro h
    exact hne ((List.getElem_inj h5).1 h)
/-- The slots σh are among σ, in the old numbers. -/
inductive SlotsR (g : Nat → Nat) (σ : Slots) : Slots → Prop
  | nil : SlotsR g σ []
  | cons {t u v l} : look σ t = some u → Wk u (ren g v) → SlotsR g σ l → SlotsR g σ ((t, v) :: l)
theorem SlotsR.spec {g σ σh} (h : SlotsR g σ σh) : ∀ t v, look σh t = some v → ∃ u, look σ t = some u ∧ Wk u (ren g v) := by
  induction h with
  | nil => intro t v h; cases h
  | cons h1 h2 _ ih =>
    intro t v h
    rename_i t' u' v' l' _
    simp only [look] at h
    cases hb : Nat.beq t' t with
    | true => rw [hb] at h; rw [← Nat.eq_of_beq_eq_true hb]; simp at h; subst h; exact ⟨_, h1, h2⟩
    | false => rw [hb] at h; exact ih t v h
/-- The state (σ, m) may be written as (σh, mh). -/
structure Fits (n0 : Nat) (σh : Slots) (mh : Mem) (σ : Slots) (m : Mem) : Prop where
  ex : ∃ g, Renum n0 g m mh ∧ ∀ t v, look σh t = some v → ∃ u, look σ t = some u ∧ Wk u (ren g v)
theorem fits_list {n0 : Nat} {σh σ : Slots} {m mh : Mem} (gl : List Nat) (hs : SlotsR (gOf gl m.length) σ σh) (h4 : MemR (gOf gl m.length) m gl mh) (h1 : gl.take n0 = List.range n0) (h2 : Nat.ble n0 gl.length = true) (h5 : gl.Nodup) (h6 : ∀ j ∈ gl, j < m.length) : Fits n0 σh mh σ m :=
  ⟨_, renum_list gl h1 (Nat.le_of_ble_eq_true h2) h4 h5 h6, hs.spec⟩
theorem renL_map {α} {g : Nat → Nat} {f : α → Value} (hf : ∀ a, ren g (f a) = f a) (l : List α) : renL g (l.map f) = l.map f := by
  rw [renL_eq, List.map_map]
  exact List.map_congr_left fun a _ => hf a
/-- Rows of structs that hold no addresses read the same in every numbering. -/
class RenF {α : Type} (f : α → List Value) : Prop where
  eq : ∀ (g : Nat → Nat) a, renL g (f a) = f a
theorem renL_flat {α : Type} {g : Nat → Nat} {f : α → List Value} [h : RenF f] (l : List α) : renL g (l.flatMap f) = l.flatMap f := by
  induction l with
  | nil => rfl
  | cons a l ih =>
    have e := h.eq g a
    rw [renL_eq] at ih e ⊢
    rw [List.flatMap_cons, List.map_append, ih, e]
/-- The same, found by itself. -/
theorem fits {n0 : Nat} {σh σ : Slots} {m mh : Mem} (gl : List Nat) (hs : SlotsR (gOf gl m.length) σ σh := by ((repeat (first | exact SlotsR.nil | (apply SlotsR.cons; rfl; (first | exact Wk.refl _ | exact Wk.nil | (apply Wk.aggL; (repeat (first | exact WkL.nil | (apply WkL.cons; (first | exact Wk.refl _ | exact Wk.nil)))); first | done | fail))))); first | done | fail))
    (h4 : MemR (gOf gl m.length) m gl mh := by ((repeat (first | exact MemR.nil | (apply MemR.blk; rfl; (first | exact WkL.refl _ | exact WkL.ofEq (renL_map (fun _ => rfl) _).symm | exact WkL.ofEq (renL_flat _).symm | (focus ((repeat (first | exact WkL.nil | (apply WkL.cons; (first | exact Wk.refl _ | exact Wk.nil | (apply Wk.aggL; (repeat (first | exact WkL.nil | (apply WkL.cons; (first | exact Wk.refl _ | exact Wk.nil)))); first | done | fail))))); first | done | fail)))) | apply MemR.hole)); first | done | fail)) (h1 : gl.take n0 = List.range n0 := by rfl) (h2 : Nat.ble n0 gl.length = true := by rfl) (h5 : gl.Nodup := by decide) (h6 : gl.all (fun j => Nat.blt j m.length) = true := by rfl) : Fits n0 σh mh σ m :=
  fits_list gl hs h4 h1 h2 h5 fun j hj => Nat.blt_eq.mp (List.all_eq_true.1 h6 j hj)
section
variable {P : Program} {nt n0 : Nat} {Q : Exit → Slots → Mem → Prop} {σ : Slots} {m : Mem}
theorem aw_fits {c : Code} {σh : Slots} {mh : Mem} (hf : Fits n0 σh mh σ m) (h : AW P nt n0 c Q σh mh) : AW P nt n0 c Q σ m := by
  obtain ⟨g, h1, h2⟩ := hf.ex
  exact aw_renum g h1 h2 h
theorem aw_loopg {α : Type} {c : Code} (S : α → Slots) (B : α → Mem) (R : α → Prop) (μ : α → Nat) (a0 : α) (h0 : Fits n0 (S a0) (B a0) σ m) (hR : R a0)
    (hr : ∀ a, R a → AW P nt n0 c (ThenA (fun σ' m' => ∃ a', Fits n0 (S a') (B a') σ' m' ∧ R a' ∧ μ a' < μ a) Q) (S a) (B a)) : AW P nt n0 (.loop c) Q σ m :=
  aw_loop (fun k σ m => ∃ a, Fits n0 (S a) (B a) σ m ∧ R a ∧ μ a = k) ⟨a0, h0, hR, rfl⟩ fun k σ m ⟨a, h1, h2, h3⟩ => aw_fits h1 ((hr a h2).mono fun e σ' m' h => by
    cases e with
    | normal =>
      obtain ⟨a', k1, k2, k3⟩ := h
      exact ⟨μ a', by omega, a', k1, k2, rfl⟩
    | _ => exact h)
end
/-! ### calls that hand blocks on -/
/-- How a callee's blocks mc stand in the caller's m: gl says where; what the callee may write the caller may write. -/
inductive SubM (g : Nat → Nat) (m : Mem) : List Nat → Mem → Prop
  | nil : SubM g m [] []
  | hole {i gl mc} : SubM g m gl mc → SubM g m (i :: gl) (none :: mc)
  | rw {i gl mc cs cs' z} : live m i = some ⟨cs', true, z⟩ → WkL cs' (renL g cs) → SubM g m gl mc → SubM g m (i :: gl) (some ⟨cs, true, z⟩ :: mc)
  | ro {i gl mc cs cs' r z} : live m i = some ⟨cs', r, z⟩ → WkL cs' (renL g cs) → SubM g m gl mc → SubM g m (i :: gl) (some ⟨cs, false, z⟩ :: mc)
theorem SubM.spec {g m gl mc} (h : SubM g m gl mc) : gl.length = mc.length ∧ ∀ (i : Nat) (j : Nat) B, gl[i]? = some j → live mc i = some B → ∃ B', live m j = some B' ∧ WkL B'.cells (renL g B.cells) ∧ (B.rw = true → B'.rw = true) ∧ B'.z = B.z := by
  induction h with
  | nil => exact ⟨rfl, fun i j B h => by simp at h⟩
  | hole _ ih =>
    refine ⟨by simp [ih.1], fun i j B h1 h2 => ?_⟩
    cases i with
    | zero => simp [live] at h2
    | succ i => exact ih.2 i j B (by simpa using h1) (by simpa [live] using h2)
  | rw h1 h2 _ ih =>
    refine ⟨by simp [ih.1], fun i j B k1 k2 => ?_⟩
    cases i with
    | zero =>
      simp [live] at k1 k2
      subst k1 k2
      exact ⟨_, h1, h2, fun _ => rfl, rfl⟩
    | succ i => exact ih.2 i j B (by simpa using k1) (by simpa [live] using k2)
  | ro h1 h2 _ ih =>
    refine ⟨by simp [ih.1], fun i j B k1 k2 => ?_⟩
    cases i with
    | zero =>
      simp [live] at k1 k2
      subst k1 k2
      exact ⟨_, h1, h2, fun h => (by cases h), rfl⟩
    | succ i => exact ih.2 i j B (by simpa using k1) (by simpa [live] using k2)
def image (G : Nat → Nat) : Option Blk → Option Blk
  | some B => cond B.rw (some ⟨renL G B.cells, true, B.z⟩) none
  | none => none
def rwB : Option Blk → Bool
  | some B => B.rw
  | none => false
/-- A caller's block behind the call: what the callee could write is as it left it. -/
def backB (G : Nat → Nat) (mc' : Mem) (i : Nat) (b : Option Blk) : List Nat → Mem → Nat → Option Blk
  | j :: gl, Bc :: mc, k => cond (Nat.beq j i && rwB Bc) (image G (live mc' k)) (backB G mc' i b gl mc (k + 1))
  | _, _, _ => b
def backFrom (G : Nat → Nat) (gl : List Nat) (mc mc' : Mem) : Nat → Mem → Mem
  | _, [] => (mc'.drop mc.length).map (image G)
  | i, b :: m => backB G mc' i b gl mc 0 :: backFrom G gl mc mc' (i + 1) m
/-- The caller's blocks behind the call, the callee's new ones behind them. -/
def backL (G : Nat → Nat) (gl : List Nat) (mc mc' : Mem) (m : Mem) : Mem := backFrom G gl mc mc' 0 m
theorem image_some {G b B} (h : image G b = some B) : ∃ B', b = some B' ∧ B'.rw = true ∧ B = ⟨renL G B'.cells, true, B'.z⟩ := by
  cases b with
  | none => cases h
  | some B' =>
    simp only [image] at h
    cases hr : B'.rw with
    | false => rw [hr] at h; cases h
    | true => rw [hr] at h; simp at h; exact ⟨B', rfl, hr, h.symm⟩
theorem backB_spec {G mc' i b} : ∀ (gl : List Nat) (mc : Mem) (k : Nat), gl.length = mc.length →
    (backB G mc' i b gl mc k = b ∧ ∀ j Bc, gl[j]? = some i → live mc j = some Bc → Bc.rw = false) ∨
    (∃ j Bc, gl[j]? = some i ∧ live mc j = some Bc ∧ Bc.rw = true ∧ backB G mc' i b gl mc k = image G (live mc' (k + j)))
  | [], [], k, _ => .inl ⟨rfl, fun j Bc h => by simp at h⟩
  | x :: gl, Bc :: mc, k, hl => by
    simp only [backB]
    cases hc : (Nat.beq x i && rwB Bc) with
    | true =>
      rw [cond_true]
      simp only [Bool.and_eq_true] at hc
      have := Nat.eq_of_beq_eq_true hc.1
      subst this
      cases Bc with
      | none => cases hc.2
      | some B => exact .inr ⟨0, B, by simp, by simp [live], hc.2, by simp⟩
    | false =>
      rw [cond_false]
      rcases backB_spec gl mc (k + 1) (by simpa using hl) with ⟨h1, h2⟩ | ⟨j, B, h1, h2, h3, h4⟩
      · refine .inl ⟨h1, fun j B hj hB => ?_⟩
        cases j with
        | zero =>
          simp at hj
          simp [live] at hB
          subst hj hB
          have : Nat.beq x x = true := Nat.beq_refl x
          rw [this] at hc
          simpa [rwB] using hc
        | succ j => exact h2 j B (by simpa using hj) (by simpa [live] using hB)
      · exact .inr ⟨j + 1, B, by simpa using h1, by simpa [live] using h2, h3, by rw [h4]; congr 2; omega⟩
theorem backFrom_get {G gl mc mc'} : ∀ (m : Mem) (i k : Nat), (k < m.length → (backFrom G gl mc mc' i m)[k]? = some (backB G mc' (i + k) ((m[k]?).join) gl mc 0)) ∧ (m.length ≤ k → (backFrom G gl mc mc' i m)[k]? = ((mc'.drop mc.length).map (image G))[k - m.length]?)
  | [], i, k => ⟨fun h => by simp at h, fun _ => by simp [backFrom]⟩
  | b :: m, i, k => by
    obtain ⟨h1, h2⟩ := backFrom_get (G := G) (gl := gl) (mc := mc) (mc' := mc') m (i + 1) (k - 1)
    cases k with
    | zero => exact ⟨fun _ => by simp [backFrom], fun h => by simp at h⟩
    | succ k =>
      refine ⟨fun h => ?_, fun h => ?_⟩
      · simp only [backFrom, List.getElem?_cons_succ]
        have := h1 (by simpa using h)
        simp only [Nat.add_sub_cancel] at this
        rw [this]
        congr 2
        omega
      · simp only [backFrom, List.getElem?_cons_succ]
        have := h2 (by simpa using h)
        simp only [Nat.add_sub_cancel] at this
        rw [this]
        congr 1
        simp
theorem VR.renTo {μ : Mu} {g : Nat → Nat} {x y : Value} (h : VR (fun i => μ (g i)) x y) : VR μ (Av.ren g x) y := by
  induction h with
  | bool b => exact .bool b
  | int k n => exact .int k n
  | string s => exact .string s
  | pnil => exact .pnil
  | ptr hL => exact .ptr hL
  | snil => exact .snil
  | slc hL a b c d => exact .slc hL a b c d
  | slcNil => exact .slcNil
  | slcLit => exact .slcLit
  | slcOdd => exact .slcOdd
  | slcCap hL a b c => exact .slcCap hL a b c
  | fnil => exact .fnil
  | inil => exact .inil
  | mnil => exact .mnil
  | map hL => exact .map hL
  | func a _ c _ ih1 ih2 =>
    simp only [Av.ren, renA_eq]
    exact .func (by simpa using a) (fun i u v hu hv => by simp at hu; obtain ⟨u', h1, rfl⟩ := hu; exact ih1 i u' v h1 hv) (by simpa using c) (fun i u v hu hv => by simp at hu; obtain ⟨u', h1, rfl⟩ := hu; exact ih2 i u' v h1 hv)
  | iface _ ih => exact .iface ih
  | agg a _ ih =>
    simp only [Av.ren, renA_eq]
    exact .agg (by simpa using a) (fun i u v hu hv => by simp at hu; obtain ⟨u', h1, rfl⟩ := hu; exact ih i u' v h1 hv)
  | tuple a _ ih =>
    simp only [Av.ren, renA_eq]
    exact .tuple (by simpa using a) (fun i u v hu hv => by simp at hu; obtain ⟨u', h1, rfl⟩ := hu; exact ih i u' v h1 hv)
section
variable {P : Program} {ρ : Operand → Option Value} {m : Mem} {d : Option Tmp} {t : TypeId} {pp : String} {af : Array Edge} {g : Option (Nat × Bool)}
/-- What the callee may write it has under one number alone. -/
def ndB (gl : List Nat) (mc : Mem) : Bool := mc.zipIdx.all fun (b, i) => !rwB b || gl.zipIdx.all fun (j, k) => Nat.beq i k || !Nat.beq (gl.getD i 0) j
theorem ndB_spec {gl : List Nat} {mc : Mem} (h : ndB gl mc = true) {i j x : Nat} {B : Blk} (hB : live mc i = some B) (hr : B.rw = true) (h1 : gl[i]? = some x) (h2 : gl[j]? = some x) : i = j := by
  rw [live_some] at hB
  have a := List.all_eq_true.1 h (some B, i) (List.mem_iff_getElem?.2 ⟨i, by simp [List.getElem?_zipIdx, hB]⟩)
  simp only [rwB, hr, Bool.not_true, Bool.false_or] at a
  have b := List.all_eq_true.1 a (x, j) (List.mem_iff_getElem?.2 ⟨j, by simp [List.getElem?_zipIdx, h2]⟩)
  simp only [List.getD_eq_getElem?_getD, h1, Option.getD_some, Nat.beq_refl, Bool.not_true, Bool.or_false] at b
  exact Nat.eq_of_beq_eq_true b
/-- A call by a contract over the callee's own numbers. -/
theorem ok_callM {fx : Operand} {xs : Array Operand} {at_ : Array TypeId} {f : FuncId} [FnI P f] {a1 a2 : Array Value} {vs args : List Value} {r : Value} {mc mc' : Mem} (gl : List Nat) (hc : ACalls P f args mc r mc') (hf : ρ fx = some (.func (.func f) a1 a2)) (hxs : ArgsR ρ xs.toList vs)
    (hargs : WkL (a1.toList ++ vs ++ a2.toList) (renL (gOf gl (m.length - mc.length)) args)) (hgl : Nat.ble mc.length m.length = true) (hsub : SubM (gOf gl (m.length - mc.length)) m gl mc) (hnd : ndB gl mc = true) (hin : ∀ j ∈ gl, j < m.length)
    (hle : Nat.ble mc.length mc'.length = true) : OpOK P ⟨d, .call ⟨.value fx, xs, at_⟩, t, pp, af, g⟩ ρ m (ren (gOf gl (m.length - mc.length)) r) (backL (gOf gl (m.length - mc.length)) gl mc mc' m) := by
  have hle := Nat.le_of_ble_eq_true hle
  generalize hG : gOf gl (m.length - mc.length) = G at *
  have hgl := Nat.le_of_ble_eq_true hgl
  obtain ⟨s1, s2⟩ := hsub.spec
  have Gold : ∀ i, i < mc.length → gl[i]? = some (G i) := fun i hi => by
    have : gl[i]? = some gl[i] := List.getElem?_eq_getElem (by omega)
    rw [← hG]
    simp [gOf, this]
  have Gnew : ∀ i, mc.length ≤ i → G i = m.length + (i - mc.length) := fun i hi => by
    have : gl[i]? = none := List.getElem?_eq_none (by omega)
    rw [← hG]
    simp [gOf, this]
    omega
  have Gin : ∀ i, i < mc.length → G i < m.length := fun i hi => hin _ (List.mem_of_getElem? (Gold i hi))
  have Ginj : ∀ i j B, i < mc.length → j < mc.length → live mc i = some B → B.rw = true → G i = G j → i = j := fun i j B hi hj hB hr h => by
    have h1 := Gold i hi
    have h2 := Gold j hj
    rw [← h] at h2
    exact ndB_spec hnd hB hr h1 h2
  constructor
  intro F w0 μ A w K Q hd hm ho hk
  obtain ⟨ys, h1, h2, h3⟩ := exec_call (P := P) (d := d) (t := t) (pp := pp) (af := af) (g := g) (w := w) hf hxs rfl ho
  have hal := hargs.len
  rw [renL_eq, List.length_map] at hal
  -- the callee's map
  let μc : Mu := fun i => if i < mc.length then μ (G i) else none
  let Fc : Nat → Prop := fun k => w.heap.size ≤ k ∨ ∃ i B L, live mc i = some B ∧ Rw B L ∧ μ (G i) = some L ∧ L.b = k
  have hFc0 : ∀ k, Fc k → F k := fun k hk => by
    rcases hk with hk | ⟨i, B, L, hB, hrw, hL, rfl⟩
    · exact hm.up k (Nat.le_trans hm.size hk)
    · have hi : i < mc.length := by
        rw [live_some] at hB
        exact (List.getElem?_eq_some_iff.1 hB).1
      obtain ⟨B', e1, _, e3, _⟩ := s2 i (G i) B (Gold i hi) hB
      obtain ⟨L', k1, _, k3⟩ := hm.blk _ B' e1
      rw [hL] at k1
      cases k1
      exact k3 (hrw.of e3)
  have hmc : RepM Fc w μc mc w := by
    refine ⟨rfl, rfl, rfl, Nat.le_refl _, fun _ _ => rfl, ⟨fun k hk => .inl hk, hm.now fun k hk => ?_⟩, fun i B hB => ?_, fun i j B B' L L' hB hB' hne hL hL' hrw hb => ?_⟩
    · exact hFc0 k hk
    · have hi : i < mc.length := by
        rw [live_some] at hB
        exact (List.getElem?_eq_some_iff.1 hB).1
      obtain ⟨B', e1, e2, e3, e4⟩ := s2 i (G i) B (Gold i hi) hB
      obtain ⟨L, k1, k2, k3⟩ := hm.blk _ B' e1
      refine ⟨L, by show (if i < mc.length then μ (G i) else none) = _; rw [if_pos hi]; exact k1, ⟨fun h => k2.rw (e3 h), k2.z.trans e4, fun j x hx => ?_, fun hr hb => (show B'.cells.length = B.cells.length by have := e2.len; rwa [renL_eq, List.length_map] at this) ▸ e4 ▸ k2.row (hr.imp id e4.trans) (hb.of e3 e2.ne), fun h => k2.mN (e4.trans h)⟩, fun h => .inr ⟨i, B, L, hB, h, k1, rfl⟩⟩
      obtain ⟨u, u1, u2⟩ := e2.get hx
      obtain ⟨y, j1, j2⟩ := k2.cells j u u1
      refine ⟨y, e4 ▸ j1, ((u2.vr j2).ren).mono fun id L h => ?_⟩
      show (if id < mc.length then μ (G id) else none) = _
      rcases Nat.lt_or_ge id mc.length with hid | hid
      · rw [if_pos hid]; exact h
      · rw [hd _ (by rw [Gnew id hid]; omega)] at h; cases h
    · have hi : i < mc.length := by
        rw [live_some] at hB
        exact (List.getElem?_eq_some_iff.1 hB).1
      have hj : j < mc.length := by
        rw [live_some] at hB'
        exact (List.getElem?_eq_some_iff.1 hB').1
      obtain ⟨B1, e1, e2, e3, _⟩ := s2 i (G i) B (Gold i hi) hB
      obtain ⟨B2, f1, f2, f3, _⟩ := s2 j (G j) B' (Gold j hj) hB'
      have hL1 : μ (G i) = some L := by have : (if i < mc.length then μ (G i) else none) = some L := hL; rwa [if_pos hi] at this
      have hL2 : μ (G j) = some L' := by have : (if j < mc.length then μ (G j) else none) = some L' := hL'; rwa [if_pos hj] at this
      exact hm.excl (G i) (G j) B1 B2 L L' e1 f1 (fun h => hne (Ginj i j B hi hj hB hrw.1 h)) hL1 hL2 (hrw.of e3) (hb.of f3 f2.ne)
  have hdc : Dom μc mc.length := fun i hi => by show (if i < mc.length then μ (G i) else none) = none; rw [if_neg (by omega)]
  refine upon_of_calls h1 ((hc.calls Fc w μc w ys hdc hmc (by omega) fun i x y hx hy => ?_).mono ?_)
  · obtain ⟨u, u1, u2⟩ := hargs.get hx
    have := u2.vr (h3 i u y u1 hy)
    refine (this.ren).mono fun id L h => ?_
    show (if id < mc.length then μ (G id) else none) = _
    rcases Nat.lt_or_ge id mc.length with hid | hid
    · rw [if_pos hid]; exact h
    · rw [hd _ (by rw [Gnew id hid]; omega)] at h; cases h
  · rintro e w' ⟨μc', y, rfl, hext, hdom', hm', hy⟩
    let μ2 : Mu := fun i => if i < m.length then μ i else μc' (mc.length + (i - m.length))
    have hcomp : (fun i => μ2 (G i)) = μc' := by
      funext i
      show (if G i < m.length then μ (G i) else μc' (mc.length + (G i - m.length))) = μc' i
      rcases Nat.lt_or_ge i mc.length with hi | hi
      · rw [if_pos (Gin i hi), hext i hi]
        show _ = (if i < mc.length then μ (G i) else none)
        rw [if_pos hi]
      · rw [Gnew i hi, if_neg (by omega)]
        congr 1
        omega
    have hsub2 : ∀ id L, μ id = some L → μ2 id = some L := fun id L h => by
      show (if id < m.length then μ id else _) = _
      rcases Nat.lt_or_ge id m.length with hi | hi
      · rw [if_pos hi]; exact h
      · rw [hd id hi] at h; cases h
    have hFc : ∀ k, Fc k → F k := fun k hk => by
      rcases hk with hk | ⟨i, B, L, hB, hrw, hL, rfl⟩
      · exact hm.up k (Nat.le_trans hm.size hk)
      · have hi : i < mc.length := by
          rw [live_some] at hB
          exact (List.getElem?_eq_some_iff.1 hB).1
        obtain ⟨B', e1, _, e3, _⟩ := s2 i (G i) B (Gold i hi) hB
        obtain ⟨L', k1, _, k3⟩ := hm.blk _ B' e1
        rw [hL] at k1; cases k1
        exact k3 (hrw.of e3)
    -- every block behind the call is one that was kept, or one of the callee's
    have cls : ∀ id B, live (backL G gl mc mc' m) id = some B →
        (id < m.length ∧ live m id = some B ∧ ∀ j Bc, gl[j]? = some id → live mc j = some Bc → Bc.rw = false) ∨
        (∃ j B', id = G j ∧ live mc' j = some B' ∧ B'.rw = true ∧ B = ⟨renL G B'.cells, true, B'.z⟩) := fun id B hB => by
      rw [live_some] at hB
      obtain ⟨b1, b2⟩ := backFrom_get (G := G) (gl := gl) (mc := mc) (mc' := mc') m 0 id
      rcases Nat.lt_or_ge id m.length with hi | hi
      · have e := b1 hi
        rw [show backFrom G gl mc mc' 0 m = backL G gl mc mc' m from rfl, hB, Nat.zero_add] at e
        have e := (Option.some.inj e).symm
        rcases backB_spec (G := G) (mc' := mc') (i := id) (b := (m[id]?).join) gl mc 0 s1 with ⟨k1, k2⟩ | ⟨j, Bc, k1, k2, k3, k4⟩
        · rw [k1] at e
          exact .inl ⟨hi, e, k2⟩
        · rw [k4, Nat.zero_add] at e
          obtain ⟨B', q1, q2, q3⟩ := image_some e
          have hj : j < mc.length := by
            rw [live_some] at k2
            exact (List.getElem?_eq_some_iff.1 k2).1
          have : G j = id := Option.some.inj ((Gold j hj).symm.trans k1)
          exact .inr ⟨j, B', this.symm, q1, q2, q3⟩
      · have e := b2 hi
        rw [show backFrom G gl mc mc' 0 m = backL G gl mc mc' m from rfl, hB, List.getElem?_map, List.getElem?_drop] at e
        cases hq : mc'[mc.length + (id - m.length)]? with
        | none => rw [hq] at e; cases e
        | some b =>
          rw [hq] at e
          obtain ⟨B', q1, q2, q3⟩ := image_some (Option.some.inj e).symm
          subst q1
          exact .inr ⟨mc.length + (id - m.length), B', by rw [Gnew _ (by omega)]; omega, by rw [live_some]; exact hq, q2, q3⟩
    have keepL : ∀ {id B L}, id < m.length → live m id = some B → (∀ j Bc, gl[j]? = some id → live mc j = some Bc → Bc.rw = false) → μ id = some L → Takes B L → L.b < w.heap.size ∧ ¬ Fc L.b := fun {id B L} hi hB hkept hL hb => by
      obtain ⟨L', k1, k2, _⟩ := hm.blk id B hB
      rw [hL] at k1; cases k1
      have hlt := k2.lt hb
      refine ⟨hlt, fun hF => ?_⟩
      rcases hF with hF | ⟨i, Bc, L1, hBc, hrw, hL1, hbb⟩
      · omega
      · have hic : i < mc.length := by
          rw [live_some] at hBc
          exact (List.getElem?_eq_some_iff.1 hBc).1
        obtain ⟨B', e1, _, e3, _⟩ := s2 i (G i) Bc (Gold i hic) hBc
        have hne : G i ≠ id := fun e => by
          have := hkept i Bc (by rw [Gold i hic, e]) hBc
          rw [hrw.1] at this; cases this
        exact hm.excl (G i) id B' B L1 L e1 hB hne hL1 hL (hrw.of e3) hb hbb
    have calL : ∀ {j B'}, live mc' j = some B' → ∃ L, μc' j = some L ∧ μ2 (G j) = some L ∧ BlkOK μc' B' L w' ∧ (Rw B' L → Fc L.b) := fun {j B'} hB => by
      obtain ⟨L, k1, k2, k3⟩ := hm'.blk j B' hB
      exact ⟨L, k1, by rw [← k1, ← hcomp], k2, k3⟩
    refine ⟨y, rfl, hk μ2 y w' (fun id hi => by show (if id < m.length then μ id else _) = _; rw [if_pos hi]) (fun id hi => ?_) ⟨hm'.os.trans hm.os, hm'.tape.trans hm.tape, hm'.output.trans hm.output, Nat.le_trans hm.size hm'.size, fun k hk => ?_, hm.up, fun id B hB => ?_, fun id id' B B' L L' hB hB' hne hL hL' hrw hb => ?_⟩ ?_⟩
    · have hlen : (backL G gl mc mc' m).length = m.length + (mc'.length - mc.length) := by
        have : ∀ (m : Mem) i, (backFrom G gl mc mc' i m).length = m.length + (mc'.length - mc.length) := fun m => by
          induction m with
          | nil => intro i; simp [backFrom]
          | cons b m ih => intro i; simp [backFrom, ih]; omega
        exact this m 0
      rw [hlen] at hi
      show (if id < m.length then μ id else μc' (mc.length + (id - m.length))) = none
      rw [if_neg (by omega)]
      exact hdom' _ (by omega)
    · rw [hm'.frame k fun h => hk (hFc k h)]
      exact hm.frame k hk
    · rcases cls id B hB with ⟨h1, h2, h3⟩ | ⟨j, B', rfl, h2, h3, rfl⟩
      · obtain ⟨L, k1, k2, k3⟩ := hm.blk id B h2
        refine ⟨L, hsub2 _ _ k1, (k2.keep fun hb => ?_).mono hsub2, k3⟩
        obtain ⟨_, q2⟩ := keepL h1 h2 h3 k1 hb
        exact hm'.frame _ q2
      · obtain ⟨L, k0, k1, k2, k3⟩ := calL h2
        refine ⟨L, k1, ⟨fun _ => k2.rw h3, k2.z, fun i x hx => ?_, fun hr hb => (show (renL G B'.cells).length = B'.cells.length by rw [renL_eq, List.length_map]) ▸ k2.row hr (hb.of (fun _ => h3) (fun h h' => h (by simp only [h']; rfl))), k2.mN⟩, fun hb => hFc _ (k3 ⟨h3, hb.2⟩)⟩
        rw [renL_eq, List.getElem?_map] at hx
        cases hq : B'.cells[i]? with
        | none => rw [hq] at hx; cases hx
        | some u =>
          rw [hq] at hx
          simp only [Option.map_some, Option.some.injEq] at hx
          subst hx
          obtain ⟨v, j1, j2⟩ := k2.cells i u hq
          refine ⟨v, j1, ?_⟩
          rw [← hcomp] at j2
          exact j2.renTo
    · rcases cls id B hB with ⟨h1, h2, h3⟩ | ⟨j, B1, rfl, h2, h3, rfl⟩ <;> rcases cls id' B' hB' with ⟨g1, g2, g3⟩ | ⟨j', B2, rfl, g2, g3, rfl⟩
      · have e1 : μ id = some L := by have : (if id < m.length then μ id else _) = some L := hL; rwa [if_pos h1] at this
        have e2 : μ id' = some L' := by have : (if id' < m.length then μ id' else _) = some L' := hL'; rwa [if_pos g1] at this
        exact hm.excl id id' B B' L L' h2 g2 hne e1 e2 hrw hb
      · have e1 : μ id = some L := by have : (if id < m.length then μ id else _) = some L := hL; rwa [if_pos h1] at this
        obtain ⟨_, q⟩ := keepL h1 h2 h3 e1 (.inl hrw)
        obtain ⟨L2, _, k1, k2', k3⟩ := calL g2
        rw [k1] at hL'; cases hL'
        rcases hb with hb | hb
        · exact fun e => q (e ▸ k3 ⟨g3, hb.2⟩)
        · exact fun e => q (e ▸ k3 (k2'.act g3 (.inr fun h' => hb (by simp only [h']; rfl))))
      · have e2 : μ id' = some L' := by have : (if id' < m.length then μ id' else _) = some L' := hL'; rwa [if_pos g1] at this
        obtain ⟨_, q⟩ := keepL g1 g2 g3 e2 hb
        obtain ⟨L2, _, k1, _, k3⟩ := calL h2
        rw [k1] at hL; cases hL
        exact fun e => q (e ▸ k3 ⟨h3, hrw.2⟩)
      · obtain ⟨L1, a0, a1, _, _⟩ := calL h2
        obtain ⟨L2, b0, b1, _, _⟩ := calL g2
        rw [a1] at hL; cases hL
        rw [b1] at hL'; cases hL'
        exact hm'.excl j j' B1 B2 _ _ h2 g2 (fun e => hne (by rw [e])) a0 b0 ⟨h3, hrw.2⟩ (hb.of (fun _ => g3) (fun h h' => h (by simp only [h']; rfl)))
    · rw [← hcomp] at hy
      exact hy.renTo
end
end Go.Proofs.YtdenooeaiicheaaGreat.Av
/- Walking in numbers of one's own: laws, contracts from elsewhere, states written anew. -/
namespace Go.Proofs.YtdenooeaiicheaaGreat.Av
open Go.RowKit (Below)
/-! ### states written out -/
inductive NV : Value → Value → Prop
  | int {k n} : NV (.int k n) (.int k n)
  | bool {b} : NV (.bool b) (.bool b)
  | string {s} : NV (.string s) (.string s)
  | ptr {i o} : NV (.pointer (some ⟨i, o, none⟩)) (.pointer (some ⟨i, o, none⟩))
  | slc {i o n c} : NV (.slice (some ⟨i, o, none⟩) n c) (.slice (some ⟨i, o, none⟩) n c)
  | snil : NV (.slice none 0 0) (.slice none 0 0)
  | refl {v} : NV v v
theorem NV.eq {v v'} (h : NV v v') : v = v' := by cases h <;> rfl
inductive NL : List Value → List Value → Prop
  | nil : NL [] []
  | cons {v v' l l'} : NV v v' → NL l l' → NL (v :: l) (v' :: l')
  | u8 {g} {l : List UInt8} : NL (renL g (l.map u8v)) (l.map u8v)
  | ints {g k} {l : List Int} : NL (renL g (l.map (Value.int k))) (l.map (Value.int k))
  | strs {g} {l : List ByteArray} : NL (renL g (l.map Value.string)) (l.map Value.string)
  | flat {α : Type} {g} {f : α → List Value} [RenF f] {l : List α} : NL (renL g (l.flatMap f)) (l.flatMap f)
  | refl {l} : NL l l
theorem NL.eq {l l'} (h : NL l l') : l = l' := by
  induction h with
  | nil => rfl
  | cons h _ ih => rw [h.eq, ih]
  | u8 => exact renL_map (fun _ => rfl) _
  | ints => exact renL_map (fun _ => rfl) _
  | strs => exact renL_map (fun _ => rfl) _
  | flat => exact renL_flat _
  | refl => rfl
inductive NM : Mem → Mem → Prop
  | nil : NM [] []
  | hole {m m'} : NM m m' → NM (none :: m) (none :: m')
  | blk {cs cs' rw z m m'} : NL cs cs' → NM m m' → NM (some ⟨cs, rw, z⟩ :: m) (some ⟨cs', rw, z⟩ :: m')
theorem NM.eq {m m'} (h : NM m m') : m = m' := by
  induction h with
  | nil => rfl
  | hole _ ih => rw [ih]
  | blk h _ ih => rw [h.eq, ih]
theorem backB_ro {G : Nat → Nat} {mc' : Mem} {i : Nat} {b : Option Blk} : ∀ (gl : List Nat) (mc : Mem) (k : Nat), (mc.all fun b => !rwB b) = true → backB G mc' i b gl mc k = b
  | [], _, _, _ => by simp [backB]
  | _ :: _, [], _, _ => by simp [backB]
  | j :: gl, Bc :: mc, k, h => by
    simp only [List.all_cons, Bool.and_eq_true, Bool.not_eq_true'] at h
    simp only [backB, h.1, Bool.and_false, cond_false]
    exact backB_ro gl mc (k + 1) h.2
theorem backFrom_ro {G : Nat → Nat} {gl : List Nat} {mc : Mem} (h : (mc.all fun b => !rwB b) = true) : ∀ (i : Nat) (m : Mem), backFrom G gl mc (holes mc) i m = m
  | _, [] => by simp [backFrom, holes]
  | i, b :: m => by simp only [backFrom, backB_ro gl mc 0 h, backFrom_ro h (i + 1) m]
/-- A call that only reads the blocks that it is handed. -/
theorem ok_callR {P : Program} {ρ : Operand → Option Value} {m : Mem} {d : Option Tmp} {t : TypeId} {pp : String} {af : Array Edge} {g : Option (Nat × Bool)} {fx : Operand} {xs : Array Operand} {at_ : Array TypeId} {f : FuncId} [FnI P f] {a1 a2 : Array Value} {vs args : List Value} {r : Value} {mc : Mem} (gl : List Nat) (hc : ACalls P f args mc r (holes mc)) (hf : ρ fx = some (.func (.func f) a1 a2)) (hxs : ArgsR ρ xs.toList vs)
    (hargs : WkL (a1.toList ++ vs ++ a2.toList) (renL (gOf gl (m.length - mc.length)) args)) (hgl : Nat.ble mc.length m.length = true) (hsub : SubM (gOf gl (m.length - mc.length)) m gl mc) (hnd : ndB gl mc = true) (hin : gl.all (fun j => Nat.blt j m.length) = true)
    (hro : (mc.all fun b => !rwB b) = true) (hr : plain 6 r = true) : OpOK P ⟨d, .call ⟨.value fx, xs, at_⟩, t, pp, af, g⟩ ρ m r m := by
  have h := ok_callM (d := d) (t := t) (pp := pp) (af := af) (g := g) (at_ := at_) gl hc hf hxs hargs hgl hsub hnd (fun j hj => Nat.blt_eq.mp (List.all_eq_true.1 hin j hj)) (by simp [holes])
  rwa [plain_ren 6 r hr, show backL (gOf gl (m.length - mc.length)) gl mc (holes mc) m = m from backFrom_ro hro 0 m] at h
section
variable {P : Program} {ops : Array Oper} {l : List Oper} {σ : Slots} {m m' : Mem} {K : Slots → Mem → Prop} {d : Option Tmp} {t : TypeId} {pp : String} {af : Array Edge}
theorem st_callM {fx : Operand} {xs : Array Operand} {at_ : Array TypeId} {f : FuncId} [FnI P f] {a1 a2 : Array Value} {vs args : List Value} {r r' : Value} {mc mc' : Mem} (gl : List Nat) (hc : ACalls P f args mc r mc') (k : Run P ops K l (put σ d r') m')
    (hf : ev σ fx = some (.func (.func f) a1 a2) := by rfl) (hxs : ArgsR (ev σ) xs.toList vs := by ((repeat (apply ArgsR.cons; rfl)); exact ArgsR.nil))
    (hargs : WkL (a1.toList ++ vs ++ a2.toList) (renL (gOf gl (m.length - mc.length)) args) := by (first | exact WkL.refl _ | exact WkL.ofEq (renL_map (fun _ => rfl) _).symm | exact WkL.ofEq (renL_flat _).symm | (focus ((repeat (first | exact WkL.nil | (apply WkL.cons; (first | exact Wk.refl _ | exact Wk.nil | (apply Wk.aggL; (repeat (first | exact WkL.nil | (apply WkL.cons; (first | exact Wk.refl _ | exact Wk.nil)))); first | done | fail))))); first | done | fail))))
    (hsub : SubM (gOf gl (m.length - mc.length)) m gl mc := by ((repeat (first | exact SubM.nil | (apply SubM.rw; rfl; (first | exact WkL.refl _ | exact WkL.ofEq (renL_map (fun _ => rfl) _).symm | exact WkL.ofEq (renL_flat _).symm | (focus ((repeat (first | exact WkL.nil | (apply WkL.cons; (first | exact Wk.refl _ | exact Wk.nil | (apply Wk.aggL; (repeat (first | exact WkL.nil | (apply WkL.cons; (first | exact Wk.refl _ | exact Wk.nil)))); first | done | fail))))); first | done | fail)))) | (apply SubM.ro; rfl; (first | exact WkL.refl _ | exact WkL.ofEq (renL_map (fun _ => rfl) _).symm | exact WkL.ofEq (renL_flat _).symm | (focus ((repeat (first | exact WkL.nil | (apply WkL.cons; (first | exact Wk.refl _ | exact Wk.nil | (apply Wk.aggL; (repeat (first | exact WkL.nil | (apply WkL.cons; (first | exact Wk.refl _ | exact Wk.nil)))); first | done | fail))))); first | done | fail)))) | apply SubM.hole)); first | done | fail))
    (hgl : Nat.ble mc.length m.length = true := by rfl) (hnd : ndB gl mc = true := by rfl) (hin : gl.all (fun j => Nat.blt j m.length) = true := by rfl) (hle : Nat.ble mc.length mc'.length = true := by rfl)
    (hr : NV (ren (gOf gl (m.length - mc.length)) r) r' := by constructor) (hm : NM (backL (gOf gl (m.length - mc.length)) gl mc mc' m) m' := by repeat constructor)
    (hlm : Nat.ble m.length m'.length = true := by rfl) : Run P ops K (⟨d, .call ⟨.value fx, xs, at_⟩, t, pp, af, none⟩ :: l) σ m := by
  have e1 := hr.eq
  have e2 := hm.eq
  subst e1 e2
  exact run_step (ok_callM gl hc hf hxs hargs hgl hsub hnd (fun j hj => Nat.blt_eq.mp (List.all_eq_true.1 hin j hj)) hle) (Nat.le_of_ble_eq_true hlm) k
end
/-! ### laws -/
theorem acalls_law {P : Program} {f : FuncId} {fn : Func} {c : Code} {args : List Value} {m : Mem} {r : Value} (hf : P.funcs[f]? = some fn) (hb : fn.body = some c) (hn : Nat.ble args.length fn.ntmps = true) (hr : plain 6 r = true)
    (h : AW P fn.ntmps m.length c (PostP P fn.results.toList r) (argSlots 0 args) m) : ACalls P f args m r (holes m) :=
  acalls_of_aw hf hb hn (h.mono fun e σ m1 ⟨h1, vs, h2, h3⟩ => ⟨h1, vs, fun i => if i < m.length then i else m1.length + i, h2,
    ⟨fun i hi => if_pos hi, by simp [holes], fun i hi => by simp [holes] at hi; show m1.length ≤ (if i < m.length then i else m1.length + i); rw [if_neg (by omega)]; omega, fun i B hB => (holes_live _ _ _ hB).elim, fun i j B B' hB => (holes_live _ _ _ hB).elim⟩, by rw [h3, plain_ren 6 r hr]; exact .refl _⟩)
theorem calls_of {P : Program} {f : FuncId} {args : List Value} {m m' : Mem} {r : Value} {W : World} {μ : Mu} {ys : Array Value} (h : ACalls P f args m r m') (hr : plain 6 r = true) (hd : Dom μ m.length) (hm : RepM (fun k => W.heap.size ≤ k) W μ m W) (hl : ys.size = args.length) (hv : ∀ (i : Nat) x y, args[i]? = some x → ys[i]? = some y → VR μ x y) :
    Calls P f ys W fun e w' => e = .returned r ∧ Below W.heap.size W w' :=
  (h.calls _ W μ W ys hd hm hl hv).mono fun e w' ⟨μ', y, he, _, _, hm', hy⟩ => ⟨by rw [he, plain_eq 6 r y hr hy], ⟨hm'.os, hm'.tape, hm'.output, hm'.size, fun k hk => hm'.frame k (by omega)⟩⟩
/-- Blocks that are only read. -/
theorem repM_ro {W : World} {μ : Mu} {m : Mem} (h : ∀ id B, live m id = some B → B.rw = false ∧ ∃ L, μ id = some L ∧ L.rw = false ∧ L.z = B.z ∧ B.z ≠ mapZ ∧ CellsOK μ B.z B.cells L.b L.o W) (hA : Amb (fun k => W.heap.size ≤ k) W) : RepM (fun k => W.heap.size ≤ k) W μ m W where
  os := rfl
  tape := rfl
  output := rfl
  size := Nat.le_refl _
  frame _ _ := rfl
  up := ⟨fun _ h => h, hA⟩
  blk id B hB := by
    obtain ⟨h1, L, h2, h3, h4, hz, h5⟩ := h id B hB
    exact ⟨L, h2, ⟨fun h => (by rw [h1] at h; cases h), h4, h5, fun h => (by rcases h with h | h; (rw [h3] at h; cases h); exact absurd h hz), fun h => absurd h hz⟩, fun h => (by have h := h.1; rw [h1] at h; cases h)⟩
  excl id id' B B' L L' hB _ _ _ _ hr := by have hr := hr.1; rw [(h id B hB).1] at hr; cases hr
end Go.Proofs.YtdenooeaiicheaaGreat.Av
/- Walking in numbers of one's own: what a law's row hands in. -/
namespace Go.Proofs.YtdenooeaiicheaaGreat.Av
open Go.RowKit (Below)
open Go.ChangeShapes Go.WideShapes Go.ChangeAt Go.RowKit
/-- Blocks that came in and are only read: cells, element size, block, first cell. -/
structure RoIn where
  cells : List Value
  z : Nat
  b : Nat
  o : Nat
theorem cells_ints {μ : Mu} {k : IntKind} {Z : List Int} {b o : Nat} {W : World} (h : ∀ j x, Z[j]? = some x → W.cell? ⟨b, o + j, none⟩ = some (.int k x)) : CellsC μ (Z.map (Value.int k)) b o W := fun j x hx => by
  rw [List.getElem?_map] at hx
  cases hz : Z[j]? with
  | none => rw [hz] at hx; simp at hx
  | some z =>
    rw [hz] at hx
    simp at hx
    subst hx
    exact ⟨_, h j z hz, .int _ _⟩
/-- A slice of integers that came in. -/
inductive IntsIn (k : IntKind) (W : World) : Value → List Int → Prop
  | nil : IntsIn k W (.slice none 0 0) []
  | adr {b off n cap : Nat} {Z : List Int} : n ≤ cap → Z.length = n → (∀ j x, Z[j]? = some x → W.cell? ⟨b, off + j, none⟩ = some (.int k x)) → IntsIn k W (.slice (some ⟨b, off, none⟩) n cap) Z
/-- What an argument of this kind is called in one's own numbers. -/
theorem IntsIn.split {k : IntKind} {W : World} {v : Value} {Z : List Int} (h : IntsIn k W v Z) : (v = .slice none 0 0 ∧ Z = []) ∨ ∃ (b off n cap : Nat), v = .slice (some ⟨b, off, none⟩) n cap ∧ n ≤ cap ∧ Z.length = n ∧ (∀ μ, CellsC μ (Z.map (Value.int k)) b off W) := by
  cases h with
  | nil => exact .inl ⟨rfl, rfl⟩
  | adr a b c => exact .inr ⟨_, _, _, _, rfl, a, b, fun μ => cells_ints c⟩
theorem vr_slice_ro {μ : Mu} {id b off n c cap z : Nat} (h : μ id = some ⟨b, off, 0, z, false⟩) (hn : n ≤ cap) : VR μ (.slice (some ⟨id, 0, none⟩) n c) (.slice (some ⟨b, off, none⟩) n cap) :=
  .slc h hn (fun _ => rfl) (fun _ => rfl) (fun h => by cases h)
/-- An argument of this kind as one's own slice, be it nil or not. -/
theorem IntsIn.ro {k : IntKind} {W : World} {v : Value} {Z : List Int} (h : IntsIn k W v Z) : ∃ b off, (∀ (μ : Mu) id, μ id = some ⟨b, off, 0, 1, false⟩ → VR μ (.slice (some ⟨id, 0, none⟩) Z.length Z.length) v) ∧ ∀ μ, CellsC μ (Z.map (Value.int k)) b off W := by
  rcases h.split with ⟨rfl, rfl⟩ | ⟨b, off, n, cap, rfl, h1, h2, h3⟩
  · exact ⟨0, 0, fun _ _ _ => .slcNil, fun _ j x hx => by simp at hx⟩
  · exact ⟨b, off, fun μ id h => by rw [h2]; exact vr_slice_ro h h1, h3⟩
/-- Arguments, one by one. -/
inductive VRL (μ : Mu) : List Value → List Value → Prop
  | nil : VRL μ [] []
  | cons {x y l l'} : VR μ x y → VRL μ l l' → VRL μ (x :: l) (y :: l')
theorem VRL.at {μ : Mu} {l l' : List Value} (h : VRL μ l l') : ∀ (i : Nat) x y, l[i]? = some x → (l'.toArray)[i]? = some y → VR μ x y := by
  induction h with
  | nil => intro i x y h; simp at h
  | cons a _ ih =>
    intro i x y h1 h2
    cases i with
    | zero => simp at h1 h2; subst h1; subst h2; exact a
    | succ i => exact ih i x y (by simpa using h1) (by simpa using h2)
theorem VRL.plain {μ : Mu} {x : Value} {l l' : List Value} (h : VRL μ l l') (hp : Av.plain 6 x = true) : VRL μ (x :: l) (x :: l') := .cons (plain_refl μ 6 x hp) h
theorem trodAll_below {H : Type} {enc : TypeId × Value → H} {P : Program} (hl : laidOutB P = true) {W W' : World} (hb : Below W.heap.size W W') :
    ∀ {ts : List TypeId} {vs : List Value} {ds : List (DataW H)} {ps : List MemPlace}, ts.all (fun t => P.readableRec t && decide (t < P.types.size)) = true → (∀ x ∈ ps, x.block < W.heap.size) →
      DataW.TrodAll enc P W 0 (fun _ => true) true ts vs ds ps → DataW.TrodAll enc P W' 0 (fun b => decide (b < W.heap.size)) true ts vs ds ps
  | [], [], [], _, _, _, h => h
  | t :: ts, v :: vs, d :: ds, ps, ha, hp, h => by
    obtain ⟨p, q, h1, h2, rfl⟩ := h
    simp only [List.all_cons, Bool.and_eq_true, decide_eq_true_eq] at ha
    refine ⟨p, q, Below.trod hl ha.1.1 ha.1.2 h1 hb (fun x hx => hp x (List.mem_append_left _ hx)), trodAll_below hl hb ha.2 (fun x hx => hp x (List.mem_append_right _ hx)) h2, rfl⟩
  | [], _ :: _, _, _, _, _, h => h.elim
  | [], [], _ :: _, _, _, _, h => h.elim
  | _ :: _, [], _, _, _, _, h => h.elim
  | _ :: _, _ :: _, [], _, _, _, h => h.elim
/-- A law's end: it returned true, and what was there is as it was. -/
theorem law_post {H : Type} {enc : TypeId × Value → H} {P : Program} {f : Func} {s : ChangeSpec} {apart : Bool} {W W' : World} {args : Array Value} {ds gs : List (DataW H)} {before : List MemPlace} {tb : TypeId}
    (hl : laidOutB P = true) (hts : f.params.toList.all (fun t => P.readableRec t && decide (t < P.types.size)) = true) (hres : f.resultTypes = #[tb]) (htb : P.underlying tb = some .bool) (hvars : s.vars = [])
    (hr : (s.fn H ds).results = [.lit (.bool true)]) (ha : (s.fn H ds).args = ds) (hv : (s.fn H ds).vars = [])
    (hW : DataW.Whole enc P f.params.toList s.vars apart W args.toList ds gs before) (hb : Below W.heap.size W W') :
    s.post enc P f apart true false false W args (.bool true) W' := by
  obtain ⟨p, q, hA, hV, hbf, hz, hn⟩ := id hW
  rw [hvars] at hV
  obtain ⟨rfl, rfl⟩ := trodVars_none hV
  refine ⟨ds, [], before, [], p, [], hW, ?_, ?_, ?_, hb.frame _, fun h => by cases h⟩
  · rw [List.append_nil, hr, hres]
    exact trodAll_mk1 (shut_bool htb _)
  · rw [List.append_nil, ha]
    exact trodAll_below hl hb hts (fun x hx => hW.lt x (by rw [hbf]; exact List.mem_append_left _ hx)) hA
  · rw [List.append_nil, hv, hvars]
    rfl
end Go.Proofs.YtdenooeaiicheaaGreat.Av
/- Walking in numbers of one's own: calls that hand blocks of symbolic lists on. -/
namespace Go.Proofs.YtdenooeaiicheaaGreat.Av
theorem subl_id {g : Nat → Nat} {l l' : List Value} (h : NL (renL g l) l') : l' = renL g l := h.eq.symm
section
variable {P : Program} {ops : Array Oper} {l : List Oper} {σ : Slots} {m m' : Mem} {K : Slots → Mem → Prop} {d : Option Tmp} {t : TypeId} {pp : String} {af : Array Edge}
end
end Go.Proofs.YtdenooeaiicheaaGreat.Av
