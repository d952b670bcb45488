/- TransferArrives returns true of every input: a node that hears at least one answer of each round completes the image.\n   Conditions: none. -/
import Derived.Test.YtekkdoaakilafaaLH
import Derived.Test.YtekkdoaakilafaaY3
import Derived.Test.YtekkdoaakilafaaJ
import Derived.Test.YtekkdoaakilafaaRows
set_option linter.unusedVariables false
set_option linter.unusedSimpArgs false
namespace Go.Proofs.Ytekkdoaakilafaa
open Go Av
set_option maxRecDepth 20000
open Go.ChangeShapes Go.WideShapes Go.ChangeAt Go.RowKit
namespace transferArrives
theorem own : ownKnob Try.prog.godebug = none := by kernel_rfl
set_option maxRecDepth 100000 in
theorem lifted (os : Os) (started : os.Started) (H : Type) (enc : TypeId × Value → H) :
    ReturnsInHanded {} Try.checked os 4 .any (Rows.transferArrivesSpec.pre6 enc Try.prog Try.f4 Rows.transferArrivesRow.domain false) (Rows.transferArrivesSpec.post enc Try.prog Try.f4 false true false false) := by
  refine returnsInHanded_of_change_sized (C := Try.checked) own started (by kernel_rfl) Try.func4
    (ChangeSpec.witness6 (enc := enc) (C := Try.checked) false ⟨#[], #[.agg #[.int .i64 0, .int .i64 0, .int .i64 0, .int .i64 0, .slice none 0 0], .string .empty, .slice none 0 0], []⟩ 8 (by kernel_rfl) (by kernel_rfl) (by kernel_rfl) (by kernel_rfl)) ?_
  intro W base args ds gs before hval0 hW _ hsz _
  obtain ⟨p, q, hA0, hV, hbf, hfz, hnd⟩ := id hW
  have hA : DataW.TrodAll enc Try.prog W 0 (fun _ => true) true [24, 9, 37] args.toList ds p := hA0
  obtain ⟨a, hR, ls, hl, hv, hc⟩ := RdA.rd (P := Try.prog) hA fun j t v h1 h2 => hval0 j t v (by rw [← Array.getElem?_toList]; exact h1) (by rw [← Array.getElem?_toList]; exact h2)
  have hcall := calls_rd0 (P := Try.prog) (f := 4) (r := .bool true) (W := W) (by
    have e3 : IntKind.u8.min = 0 := rfl
    have e4 : IntKind.u8.max = 255 := rfl
    obtain ⟨h1, h2, h3, _⟩ := id hR
    have h := law_arrives a.1.1 a.1.2.1 a.1.2.2.1 a.1.2.2.2.1 a.1.2.2.2.2.1 a.2.1 a.2.2.1 (fun x hx => by have := h3 x hx; rw [e3, e4] at this; exact this)
    rw [← flat_strs, ← flat_u8] at h
    exact ⟨_, h⟩) rfl hl (hv 0) hc
  obtain ⟨v0, vs0, d0, ds0, p0, q0, x0, rfl, y0, h0, r0⟩ := trodAll_cons hA
  obtain ⟨v1, vs1, d1, ds1, p1, q1, x1, rfl, y1, h1, r1⟩ := trodAll_cons r0
  obtain ⟨v2, vs2, d2, ds2, p2, q2, x2, rfl, y2, h2, r2⟩ := trodAll_cons r1
  obtain ⟨_, rfl, _⟩ := trodAll_nil r2
  exact hcall.mono fun e W' ⟨he, hb⟩ => ⟨_, he, law_post (tb := 4) (by kernel_rfl) (by kernel_rfl) rfl Try.underlying4 rfl rfl rfl rfl hW hb⟩
theorem over : Rows.transferArrivesRow.holds Try.pinned (OpenSpec.ofChange Rows.transferArrivesSpec) :=
  OpenClaim.holds_of_wide 4 Try.f4 rfl rfl rfl rfl rfl rfl rfl ⟨rfl, rfl, rfl, rfl, rfl⟩ rfl rfl rfl rfl rfl (by kernel_rfl) Try.func4 (by kernel_rfl)
    (of_decide_eq_true (by kernel_rfl)) (by unfold Func.isWrapper; first | (rw [if_pos (by decide +kernel)]; kernel_rfl) | (rw [if_neg (by decide +kernel)]; exact ⟨rfl, rfl⟩))
    (fun os started H enc _ => lifted os started H enc)
theorem proved : Rows.TransferArrivesSaid := over
#print axioms proved
end transferArrives
end Go.Proofs.Ytekkdoaakilafaa
