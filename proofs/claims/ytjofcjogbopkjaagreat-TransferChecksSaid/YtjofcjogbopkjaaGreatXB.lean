/- TransferChecks returns true of every input: Valid, Check, Complete, Announce and Ask return what is specified for any store and update.
   Conditions: none. -/
import Derived.Test.YtjofcjogbopkjaaGreatZD
import Derived.Test.YtjofcjogbopkjaaGreatY4
import Derived.Test.YtjofcjogbopkjaaGreatJ
import Derived.Test.YtjofcjogbopkjaaGreatRows
set_option linter.unusedVariables false
set_option linter.unusedSimpArgs false
namespace Go.Proofs.YtjofcjogbopkjaaGreat
open Go Av
set_option maxRecDepth 20000
open Go.ChangeShapes Go.WideShapes Go.ChangeAt Go.RowKit
namespace transferChecks
theorem own : ownKnob Tryz.prog.godebug = none := by kernel_rfl
set_option maxRecDepth 100000 in
theorem lifted (os : Os) (started : os.Started) (H : Type) (enc : TypeId × Value → H) :
    ReturnsInHanded {} Tryz.checked os 4 .any (Rows.transferChecksSpec.pre6 enc Tryz.prog Tryz.f4 Rows.transferChecksRow.domain false) (Rows.transferChecksSpec.post enc Tryz.prog Tryz.f4 false true false false) := by
  refine returnsInHanded_of_change_sized (C := Tryz.checked) own started (by kernel_rfl) Tryz.func4
    (ChangeSpec.witness6 (enc := enc) (C := Tryz.checked) false ⟨#[], #[.agg #[.int .i64 0, .string .empty, .bool false, .int .i64 0, .int .i64 0, .int .i64 0, .int .i64 0, .slice none 0 0, .string .empty, .int .u64 0, .slice none 0 0], .agg #[.int .i64 0, .int .i64 0, .string .empty, .int .i64 0, .int .i64 0, .int .u64 0, .string .empty]], []⟩ 8 (by kernel_rfl) (by kernel_rfl) (by kernel_rfl) (by kernel_rfl)) ?_
  intro W base args ds gs before hval0 hW _ hsz _
  obtain ⟨p, q, hA0, hV, hbf, hfz, hnd⟩ := id hW
  have hA : DataW.TrodAll enc Tryz.prog W 0 (fun _ => true) true [27, 34] args.toList ds p := hA0
  have hRA0 : RdA Tryz.prog [] _ _ _ _ := inferInstance
  have hRA1 := rdA_agg (P := Tryz.prog) (t := 34) (h2 := hRA0)
  have hRA2 := rdA_agg (P := Tryz.prog) (t := 27) (h2 := hRA1)
  obtain ⟨a, hR, ls, hl, hv, hc⟩ := RdA.rd (P := Tryz.prog) hA fun j t v h1 h2 => hval0 j t v (by rw [← Array.getElem?_toList]; exact h1) (by rw [← Array.getElem?_toList]; exact h2)
  have hcall := calls_rd0 (P := Tryz.prog) (f := 4) (r := .bool true) (W := W) (by
    have e1 : IntKind.u64.min = 0 := rfl
    have e2 : IntKind.u64.max = 18446744073709551615 := rfl
    obtain ⟨h1, h2, _⟩ := id hR
    have hb := h1.2.2.2.2.2.1
    have hu := h2.2.2.2.2.2.1
    rw [e1, e2] at hb hu
    have h := law_checks ⟨a.1.1, a.1.2.1, a.1.2.2.1, a.1.2.2.2.1.1, a.1.2.2.2.1.2.1, a.1.2.2.2.1.2.2.1, a.1.2.2.2.1.2.2.2.1, a.1.2.2.2.1.2.2.2.2.1, a.1.2.2.2.2.1, (a.1.2.2.2.2.2.1).toNat, a.1.2.2.2.2.2.2.1⟩ (by show (a.1.2.2.2.2.2.1).toNat < _; omega) a.2.1.1 a.2.1.2.1 a.2.1.2.2.1 a.2.1.2.2.2.1 a.2.1.2.2.2.2.1 a.2.1.2.2.2.2.2.1.toNat a.2.1.2.2.2.2.2.2.1 (by omega)
    dsimp only at h
    rw [Int.toNat_of_nonneg hb.1, Int.toNat_of_nonneg hu.1, ← flat_strs, ← flat_strs] at h
    exact ⟨_, h⟩) rfl hl (hv 0) hc
  obtain ⟨v0, vs0, d0, ds0, p0, q0, x0, rfl, y0, h0, r0⟩ := trodAll_cons hA
  obtain ⟨v1, vs1, d1, ds1, p1, q1, x1, rfl, y1, h1, r1⟩ := trodAll_cons r0
  obtain ⟨_, rfl, _⟩ := trodAll_nil r1
  exact hcall.mono fun e W' ⟨he, hb⟩ => ⟨_, he, law_post (tb := 4) (by kernel_rfl) (by kernel_rfl) rfl Tryz.underlying4 rfl rfl rfl rfl hW hb⟩
theorem over : Rows.transferChecksRow.holds Tryz.pinned (OpenSpec.ofChange Rows.transferChecksSpec) :=
  OpenClaim.holds_of_wide 4 Tryz.f4 rfl rfl rfl rfl rfl rfl rfl ⟨rfl, rfl, rfl, rfl, rfl⟩ rfl rfl rfl rfl rfl (by kernel_rfl) Tryz.func4 (by kernel_rfl)
    (of_decide_eq_true (by kernel_rfl)) (by unfold Func.isWrapper; first | (rw [if_pos (by decide +kernel)]; kernel_rfl) | (rw [if_neg (by decide +kernel)]; exact ⟨rfl, rfl⟩))
    (fun os started H enc _ => lifted os started H enc)
theorem proved : Rows.TransferChecksSaid := over
#print axioms proved
end transferChecks
end Go.Proofs.YtjofcjogbopkjaaGreat
