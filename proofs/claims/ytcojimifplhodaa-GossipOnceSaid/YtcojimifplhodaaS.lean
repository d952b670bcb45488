/- Slices that came in, opened at every index. -/
import Derived.Test.YtcojimifplhodaaF
import Derived.Deep.Slices
import Derived.Deep.RegionHeld
namespace Go.Proofs.Ytcojimifplhodaa
open Go.ChangeShapes Go.WideShapes Go.ChangeAt Go.RowKit

/-- A slice that came in: nil or empty, or its elements' cells by index. -/
theorem sl_open {H : Type} {enc : TypeId × Value → H} {P : Program} {W : World} {r : Reach} {b0 : Nat} {t e : TypeId} {v : Value} {d : DataW H} {p : List MemPlace} (ht : P.underlying t = some (.slice e)) (hc : 0 < P.cellsOf e)
    (hok : Value.okWide P W r b0 t v) (h : DataW.Trod enc P W 0 (fun _ => true) true t v d p) :
    ∃ (a : Option Addr) (n cap : Nat), v = .slice a n cap ∧ n ≤ cap ∧ cap ≤ maxLen ∧ (n = 0 ∨ ∃ (b off fuel : Nat) (D : Nat → DataW H × List MemPlace), a = some ⟨b, off, none⟩ ∧ b < W.heap.size ∧
      ∀ i, i < n → ∃ cs : List Value, cs.length = P.cellsOf e ∧ (∀ j, j < P.cellsOf e → W.cell? ⟨b, off + i * P.cellsOf e + j, none⟩ = cs[j]?) ∧ DataW.trod enc P W 0 (fun _ => true) true fuel e cs = some (D i)) := by
  obtain ⟨a, n, cap, rfl⟩ := okWide_slice ht hok
  obtain ⟨fuel, hf⟩ := h
  rcases Deep.open_slice ht hf with ⟨hcs, _⟩ | ⟨x, l, c, m, n', D, Pl, hcs, _, hl, hm, hmm, _, hi⟩
  · simp [Value.cells] at hcs
    obtain ⟨rfl, rfl, rfl⟩ := hcs
    exact ⟨_, _, _, rfl, Nat.le_refl _, Nat.zero_le _, .inl rfl⟩
  · simp [Value.cells] at hcs
    obtain ⟨rfl, rfl, rfl⟩ := hcs
    refine ⟨_, _, _, rfl, hl, hm, ?_⟩
    rcases Nat.eq_zero_or_pos n with h0 | h0
    · exact .inl h0
    right
    simp only [if_true] at hmm
    subst hmm
    have hall : ∀ i, i < n → ∃ cs : List Value, cs.length = P.cellsOf e ∧ (∀ j, j < P.cellsOf e → W.cell? ((x.add (i * P.cellsOf e)).add j) = cs[j]?) ∧ DataW.trod enc P W 0 (fun _ => true) true n' e cs = some (D i, Pl i) := fun i hin => by
      obtain ⟨cs, h1, h2⟩ := hi i (by omega)
      obtain ⟨_, hlen, hcell⟩ := World.cells?_some h1
      exact ⟨cs, hlen, hcell, h2⟩
    obtain ⟨b, off, spot⟩ := x
    obtain ⟨cs0, hl0, hc0, _⟩ := hall 0 h0
    have hh := hc0 0 hc
    have hs : cs0[0]? = some (cs0[0]'(by omega)) := List.getElem?_eq_getElem (by omega)
    rw [hs] at hh
    have hspot : spot = none := by simpa [Addr.add] using World.cell?_spot hh
    subst hspot
    have hb := World.block_lt_of_cell? W _ hh
    refine ⟨b, off, n', fun i => (D i, Pl i), rfl, by simpa [Addr.add] using hb, fun i hin => ?_⟩
    obtain ⟨cs, q1, q2, q3⟩ := hall i hin
    exact ⟨cs, q1, fun j hj => by have := q2 j hj; rwa [Go.WideShapes.add_plain, Go.WideShapes.add_plain] at this, q3⟩

theorem sound_at {H : Type} {enc : TypeId × Value → H} {W : World} {fuel : Nat} {cs : List Value} {x : DataW H × List MemPlace} (hl : cs.length = 3) (h : DataW.trod enc Try.prog W 0 (fun _ => true) true fuel 33 cs = some x) :
    ∃ q : Bool × Bool × Int, cs = [.bool q.1, .bool q.2.1, .int .u32 q.2.2] ∧ 0 ≤ q.2.2 ∧ q.2.2 ≤ 4294967295 := by
  obtain ⟨xs, n, _, _, _, hxl, hf⟩ := DataW.trod_struct Try.underlying33 h
  match cs, hl, xs, hxl with
  | [c0, c1, c2], _, [y0, y1, y2], _ =>
    have g0 := hf 0 _ rfl
    have g1 := hf 1 _ rfl
    have g2 := hf 2 _ rfl
    have c4 : Try.prog.cellsOf 4 = 1 := by kernel_rfl
    have c24 : Try.prog.cellsOf 24 = 1 := by kernel_rfl
    simp [c4, c24] at g0 g1 g2
    obtain ⟨b0, e0, _⟩ := DataW.trod_bool Try.underlying4 g0
    obtain ⟨b1, e1, _⟩ := DataW.trod_bool Try.underlying4 g1
    obtain ⟨x2, e2, _, w2⟩ := DataW.trod_int Try.underlying24 g2
    simp at e0 e1 e2
    subst e0 e1 e2
    exact ⟨(b0, b1, x2), rfl, by simpa [Lit.wf, IntKind.min, IntKind.max, IntKind.signed, IntKind.bits] using w2⟩
end Go.Proofs.Ytcojimifplhodaa
