/- DigestMixes returns true of every input: what was mixed with two words is the same exactly if it was the same before.
   Conditions: none. -/
import Derived.Test.YtclaiphadaeinaaLE
import Derived.Test.YtclaiphadaeinaaLL
import Derived.Test.YtclaiphadaeinaaJ
import Derived.Test.YtclaiphadaeinaaRows
set_option linter.unusedVariables false
set_option linter.unusedSimpArgs false
namespace Go.Proofs.Ytclaiphadaeinaa
open Go Av
set_option maxRecDepth 100000
open Go.ChangeShapes Go.WideShapes Go.ChangeAt Go.RowKit
namespace digestMixes
theorem own : ownKnob Try.prog.godebug = none := by kernel_rfl
set_option maxRecDepth 100000 in
theorem lifted (os : Os) (started : os.Started) (H : Type) (enc : TypeId × Value → H) :
    ReturnsInHanded {} Try.checked os 6 .any (Rows.digestMixesSpec.pre6 enc Try.prog Try.f6 Rows.digestMixesRow.domain false) (Rows.digestMixesSpec.post enc Try.prog Try.f6 false true false false) := by
  refine returnsInHanded_of_change_sized (C := Try.checked) own started (by kernel_rfl) Try.func6
    (ChangeSpec.witness6 (enc := enc) (C := Try.checked) false ⟨#[], #[.agg #[.int .u32 0, .int .u32 0, .int .u32 0, .int .u32 0], .agg #[.int .u32 0, .int .u32 0, .int .u32 0, .int .u32 0], .agg #[.int .u32 0, .int .u32 0]], []⟩ 8 (by kernel_rfl) (by kernel_rfl) (by kernel_rfl) (by kernel_rfl)) ?_
  intro W base args ds gs before hval0 hW _ hsz _
  obtain ⟨p, q, hA0, hV, hbf, hfz, hnd⟩ := id hW
  have hA : DataW.TrodAll enc Try.prog W 0 (fun _ => true) true [30, 30, 39] args.toList ds p := hA0
  obtain ⟨a, hR, ls, hl, hv, hc⟩ := RdA.rd (P := Try.prog) hA fun j t v h1 h2 => hval0 j t v (by rw [← Array.getElem?_toList]; exact h1) (by rw [← Array.getElem?_toList]; exact h2)
  have hcall := calls_rd (P := Try.prog) (f := 6) (r := .bool true) (W := W) (by
    obtain ⟨v, w, z, _⟩ := a
    obtain ⟨⟨hv, bv⟩, ⟨hw, bw⟩, ⟨hz, bz⟩, _⟩ := hR
    obtain ⟨v0, v1, v2, v3, rfl⟩ := list4 hv
    obtain ⟨w0, w1, w2, w3, rfl⟩ := list4 hw
    obtain ⟨x, y, rfl⟩ := list2 hz
    have e1 : IntKind.u32.min = 0 := rfl
    have e2 : IntKind.u32.max = 4294967295 := rfl
    simp only [List.mem_cons, List.not_mem_nil, or_false, forall_eq_or_imp, forall_eq, e1, e2] at bv bw
    exact ⟨_, law_mixes v0 v1 v2 v3 w0 w1 w2 w3 x y (by omega) (by omega) (by omega) (by omega) (by omega) (by omega) (by omega) (by omega)⟩) rfl hl hv hc
  obtain ⟨v0, vs0, d0, ds0, p0, q0, x0, rfl, y0, h0, r0⟩ := trodAll_cons hA
  obtain ⟨v1, vs1, d1, ds1, p1, q1, x1, rfl, y1, h1, r1⟩ := trodAll_cons r0
  obtain ⟨v2, vs2, d2, ds2, p2, q2, x2, rfl, y2, h2, r2⟩ := trodAll_cons r1
  obtain ⟨_, rfl, _⟩ := trodAll_nil r2
  exact hcall.mono fun e W' ⟨he, hb⟩ => ⟨_, he, law_post (tb := 4) (by kernel_rfl) (by kernel_rfl) rfl Try.underlying4 rfl rfl rfl rfl hW hb⟩
theorem over : Rows.digestMixesRow.holds Try.pinned (OpenSpec.ofChange Rows.digestMixesSpec) :=
  OpenClaim.holds_of_wide 6 Try.f6 rfl rfl rfl rfl rfl rfl rfl ⟨rfl, rfl, rfl, rfl, rfl⟩ rfl rfl rfl rfl rfl (by kernel_rfl) Try.func6 (by kernel_rfl)
    (of_decide_eq_true (by kernel_rfl)) (by unfold Func.isWrapper; first | (rw [if_pos (by decide +kernel)]; kernel_rfl) | (rw [if_neg (by decide +kernel)]; exact ⟨rfl, rfl⟩))
    (fun os started H enc _ => lifted os started H enc)
theorem proved : Rows.DigestMixesSaid := over
#print axioms proved
end digestMixes
end Go.Proofs.Ytclaiphadaeinaa
