/- Walking in numbers of one's own: a block is only read from now on, in elements of another size. -/
import Derived.Test.YtdenooeaiicheaaGreatVU
set_option linter.unusedVariables false
set_option linter.unusedSimpArgs false
namespace Go.Proofs.YtdenooeaiicheaaGreat.Av
open Go
theorem VR.view {μ : Mu} {a : Nat} {L L' : Loc} (ha : μ a = some L) (hb : L'.b = L.b) (ho : L'.o = L.o) (hr : L'.rw = false) {x y : Value} (hv : VR μ x y) : VR (μ.set a L') x y := by
  have key : ∀ {id : Nat} {K : Loc}, μ id = some K → ∃ K', (μ.set a L') id = some K' ∧ K'.b = K.b ∧ K'.o = K.o ∧ (K'.rw = true → K' = K) := fun {id K} hK => by
    unfold Mu.set
    by_cases h : id = a
    · subst h
      rw [ha] at hK
      cases hK
      exact ⟨L', if_pos rfl, hb, ho, fun h => by rw [hr] at h; cases h⟩
    · exact ⟨K, by rw [if_neg h]; exact hK, rfl, rfl, fun _ => rfl⟩
  induction hv with
  | bool b => exact .bool b
  | int k n => exact .int k n
  | string s => exact .string s
  | pnil => exact .pnil
  | ptr hL =>
    obtain ⟨K, k1, k2, k3, _⟩ := key hL
    rw [← k2, ← k3]
    exact .ptr k1
  | snil => exact .snil
  | slc hL a b c d =>
    obtain ⟨K, k1, k2, k3, k4⟩ := key hL
    refine .slc k1 a (fun h => ?_) (fun h => by rw [k3]; exact c h) (fun h => by rw [k4 h] at *; exact d h)
    rw [k2]
    exact b (h.imp id fun h => by rw [← k4 h]; exact h)
  | slcNil => exact .slcNil
  | slcLit => exact .slcLit
  | slcOdd => exact .slcOdd
  | slcCap hL a b c =>
    obtain ⟨K, k1, k2, k3, k4⟩ := key hL
    exact .slcCap k1 a (by rw [k2, k3]; exact b) (fun h => by rw [k4 h] at *; exact c h)
  | fnil => exact .fnil
  | inil => exact .inil
  | mnil => exact .mnil
  | map hL =>
    obtain ⟨K, k1, k2, _⟩ := key hL
    rw [← k2]
    exact .map k1
  | func a _ c _ ih1 ih2 => exact .func a ih1 c ih2
  | iface _ ih => exact .iface ih
  | agg a _ ih => exact .agg a ih
  | tuple a _ ih => exact .tuple a ih
theorem RepM.view {F : Nat → Prop} {w0 w : World} {μ : Mu} {m : Mem} (h : RepM F w0 μ m w) {a : Nat} {B : Blk} {L : Loc} {zz : Nat} (hB : live m a = some B) (hL : μ a = some L) (hz : B.z ≠ mapZ) (hzz : zz ≠ mapZ) : RepM F w0 (μ.set a ⟨L.b, L.o, L.N, zz, false⟩) (m.set a (some ⟨B.cells, false, zz⟩)) w := by
  have hvr : ∀ {x y}, VR μ x y → VR (μ.set a ⟨L.b, L.o, L.N, zz, false⟩) x y := fun {x y} hv => hv.view (L' := ⟨L.b, L.o, L.N, zz, false⟩) hL rfl rfl rfl
  obtain ⟨L0, k1, k2, k3⟩ := h.blk a B hB
  rw [hL] at k1; cases k1
  refine ⟨h.os, h.tape, h.output, h.size, h.frame, h.up, fun id B' hB' => ?_, fun id id' B1 B2 L1 L2 h1 h2 hne hl1 hl2 hr1 hb2 => ?_⟩
  · rcases live_set hB' with ⟨rfl, e⟩ | ⟨hne, hB'⟩
    · cases e
      refine ⟨_, Mu.set_same, ⟨fun h => (by cases h), rfl, fun j x hx => ?_, fun hr => ?_, fun h => absurd h hzz⟩, fun h => (by cases h.1)⟩
      · obtain ⟨y, y1, y2⟩ := k2.cells.cell hz hx
        exact ⟨y, by rw [zcell_ne hzz]; exact y1, hvr y2⟩
      · rcases hr with hr | hr
        · cases hr
        · exact absurd hr hzz
    · obtain ⟨L', j1, j2, j3⟩ := h.blk id B' hB'
      refine ⟨L', by unfold Mu.set; rw [if_neg hne]; exact j1, ⟨j2.rw, j2.z, fun j x hx => ?_, j2.row, j2.mN⟩, j3⟩
      obtain ⟨y, y1, y2⟩ := j2.cells j x hx
      exact ⟨y, y1, hvr y2⟩
  · have old : ∀ {id : Nat} {B' : Blk} {K : Loc}, live (m.set a (some ⟨B.cells, false, zz⟩)) id = some B' → (μ.set a ⟨L.b, L.o, L.N, zz, false⟩) id = some K → ∃ B0 K0, live m id = some B0 ∧ μ id = some K0 ∧ K0.b = K.b ∧ (Rw B' K → Rw B0 K0) ∧ (Takes B' K → Takes B0 K0) := fun {id B' K} hb hk => by
      rcases live_set hb with ⟨rfl, e⟩ | ⟨hne, hb⟩
      · cases e
        rw [Mu.set_same] at hk
        cases hk
        exact ⟨B, L, hB, hL, rfl, fun h => (by cases h.1), fun h => (by rcases h with h | h; cases h.1; exact .inr h)⟩
      · unfold Mu.set at hk
        rw [if_neg hne] at hk
        exact ⟨B', K, hb, hk, rfl, fun h => h, fun h => h⟩
    obtain ⟨C1, K1, a1, a2, a3, a4, _⟩ := old h1 hl1
    obtain ⟨C2, K2, b1, b2, b3, _, b5⟩ := old h2 hl2
    rw [← a3, ← b3]
    exact h.excl id id' C1 C2 K1 K2 a1 b1 hne a2 b2 (a4 hr1) (b5 hb2)
/-- A block is only read from now on, in elements of another size. -/
theorem aw_view {P : Program} {nt n0 : Nat} {Q : Exit → Slots → Mem → Prop} {σ : Slots} {m : Mem} {c : Code} {cs : List Value} {r : Bool} (z zz a : Nat) (hB : live m a = some ⟨cs, r, z⟩) (hn : Nat.ble n0 a = true) (hz : z ≠ mapZ) (hzz : zz ≠ mapZ) (h : AW P nt n0 c Q σ (m.set a (some ⟨cs, false, zz⟩))) : AW P nt n0 c Q σ m := ⟨fun rd F w0 μ A w hd hr => by
  obtain ⟨L, hL, _⟩ := hr.mem.blk a _ hB
  have hlt : a < m.length := by
    rw [live_some] at hB
    exact (List.getElem?_eq_some_iff.1 hB).1
  refine wpIn_mono (h.wp rd F w0 (μ.set a ⟨L.b, L.o, L.N, zz, false⟩) A w hd ⟨hr.nt, hr.defers, fun t v ht => ⟨(hr.slots t v ht).1, (hr.slots t v ht).2.view (L' := ⟨L.b, L.o, L.N, zz, false⟩) hL rfl rfl rfl⟩, hr.mem.view hB hL hz hzz, ?_⟩) fun _ _ _ => Pt.lift (Reb.refl _ _ _ _) ?_
  · intro id hid
    rw [List.length_set] at hid
    unfold Mu.set
    rw [if_neg (by omega)]
    exact hr.dom id hid
  · intro id hid
    have := Nat.le_of_ble_eq_true hn
    unfold Mu.set
    rw [if_neg (by omega)]⟩
end Go.Proofs.YtdenooeaiicheaaGreat.Av
