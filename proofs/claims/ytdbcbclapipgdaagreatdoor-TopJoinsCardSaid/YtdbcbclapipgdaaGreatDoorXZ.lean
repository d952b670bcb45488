/- Join: the laid tables. -/
import Derived.Test.YtdbcbclapipgdaaGreatDoorJ
import Derived.Test.YtdbcbclapipgdaaGreatDoorRows
import Derived.Test.YtdbcbclapipgdaaGreatDoorTie
import Derived.Test.YtdbcbclapipgdaaGreatDoorCards
import Derived.ProofKit
import Derived.LaidMore
import Derived.OpenShut
import Derived.Stop.Joined
import Derived.SevenTiedAt
set_option linter.unusedVariables false
set_option linter.unusedSimpArgs false
namespace Go.Proofs.YtdbcbclapipgdaaGreatDoor
open Go Av
set_option maxRecDepth 20000
open Go.ChangeShapes Go.WideShapes Go.ChangeAt Go.RowKit
theorem gPow : Tryz.prog.globalNamed "internal/strconv.uint64pow10" = some 0 := by kernel_rfl
theorem tPow : (Tryz.prog.globals[0]?).map (·.type) = some 231 := by kernel_rfl
abbrev laids : List (String × DataW Unit) := [("math/bits.deBruijn32tab", Rows.laid_math_bits_deBruijn32tab), ("math/bits.deBruijn64tab", Rows.laid_math_bits_deBruijn64tab), ("internal/strconv.uint64pow10", Rows.laid_internal_strconv_uint64pow10)]
theorem door_met (os : Os) (args : Array Value) : laidMetH Tryz.prog laids ((World.doorLaid Tryz.prog 400 os).forCall (fun _ _ => 0) ⟨#[], args, []⟩).memory :=
  laidMetH_of_parts3 (fuel := 8) (laidMet_of_run' 8 (by kernel_rfl) (by kernel_rfl)) (by kernel_rfl) (by kernel_rfl)
theorem amb_of {W : World} (h : laidMetH Tryz.prog laids W) : Amb (fun k => W.heap.size ≤ k) W := by
  rw [MakeChecks.laidMetH_plain _ _ _ (by kernel_rfl)] at h
  obtain ⟨ps, ⟨g0, t0, cs0, f0, p0, q0, _, _, _, _, ⟨g1, t1, cs1, f1, p1, q1, _, _, _, _, ⟨g2, t2, cs2, f2, p2, q2, hg2, ht2, hv2, hd2, _, _⟩, _⟩, _⟩, _, _⟩ := h
  obtain rfl := Option.some.inj (gPow.symm.trans hg2)
  obtain rfl := Option.some.inj (tPow.symm.trans ht2)
  obtain ⟨xs, m, rfl, hx, hlen, hn, hel⟩ := DataW.trod_array Tryz.underlying231 hd2
  have c1 : Tryz.prog.cellsOf 170 = 1 := by kernel_rfl
  have cA : Tryz.prog.cellsOf 231 = 20 := by kernel_rfl
  rw [cA] at hlen
  have hL : xs.map (·.1) = (List.range 20).map fun i => (DataW.lit (.int .u64 ((10 ^ i : Nat) : Int)) : DataW Unit) := by
    have h1 := (Prod.mk.inj hx).1
    have h2 : (Rows.laid_internal_strconv_uint64pow10 : DataW Unit) = .agg ((List.range 20).map fun i => (DataW.lit (.int .u64 ((10 ^ i : Nat) : Int)) : DataW Unit)) := by kernel_rfl
    rw [h2] at h1
    exact (DataW.agg.inj h1).symm
  have key : ∀ i, i < 20 → cs2.toList[i]? = some (.int .u64 ((10 ^ i : Nat) : Int)) := fun i hi => by
    have h1 := hel i hi
    rw [c1, Nat.mul_one] at h1
    obtain ⟨x, hx'⟩ : ∃ x, xs[i]? = some x := ⟨_, List.getElem?_eq_getElem (by omega)⟩
    rw [hx'] at h1
    obtain ⟨k, e1, e2, _⟩ := DataW.trod_int Tryz.underlying170 h1
    have e3 : cs2.toList[i]? = some (.int .u64 k) := by
      have h3 := congrArg (fun l : List Value => l[0]?) e1
      simp only [List.getElem?_take, List.getElem?_drop] at h3
      simpa using h3
    have e4 : (xs.map (·.1))[i]? = some (.lit (.int .u64 k)) := by rw [List.getElem?_map, hx', e2]; rfl
    rw [hL, List.getElem?_map, List.getElem?_range hi] at e4
    simp only [Option.map_some, Option.some.injEq, DataW.lit.injEq, Lit.int.injEq, true_and] at e4
    rw [e3, e4]
  have hcs : cs2.toList = (List.range 20).map fun i => Value.int .u64 ((10 ^ i : Nat) : Int) := by
    apply List.ext_getElem?
    intro i
    by_cases hi : i < 20
    · rw [key i hi, List.getElem?_map, List.getElem?_range hi]
      rfl
    · rw [List.getElem?_eq_none (by omega), List.getElem?_eq_none (by simp; omega)]
  have hw : ∃ e b, W.heap[0]? = some (.cells cs2 e b) := by
    unfold World.var? at hv2
    rw [gPow] at hv2
    dsimp only [Option.bind_some] at hv2
    split at hv2
    · rename_i c e b hq
      cases hv2
      exact ⟨e, b, hq⟩
    · cases hv2
  obtain ⟨e, b, hq⟩ := hw
  refine ⟨fun g hg => ?_⟩
  have hg' : g = (0, (List.range 20).map fun i => Value.int .u64 ((10 ^ i : Nat) : Int)) := by
    unfold ambs at hg
    simpa using hg
  subst hg'
  refine ⟨fun hz => ?_, cs2, e, b, hq, hcs⟩
  have : W.heap[0]? = none := Array.getElem?_eq_none hz
  rw [this] at hq
  cases hq
end Go.Proofs.YtdbcbclapipgdaaGreatDoor
