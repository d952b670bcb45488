/- DigestStream returns true of every input: however a string is divided among calls of Write, the hash has its digest at each point, and counts its bytes.
   Conditions: none. -/
import Derived.Test.YtnicgkhffingmaaSL
import Derived.Test.YtnicgkhffingmaaJ
import Derived.Test.YtnicgkhffingmaaRows
set_option linter.unusedVariables false
set_option linter.unusedSimpArgs false
namespace Go.Proofs.Ytnicgkhffingmaa
open Go Av
set_option maxRecDepth 20000
namespace digestStream
open Go.ChangeShapes Go.WideShapes Go.ChangeAt Go.RowKit
theorem own : ownKnob Try.prog.godebug = none := by kernel_rfl
set_option maxRecDepth 100000 in
theorem lifted (os : Os) (started : os.Started) (H : Type) (enc : TypeId × Value → H) :
    ReturnsInHanded {} Try.checked os 3 .any (Rows.digestStreamSpec.pre6 enc Try.prog Try.f3 Rows.digestStreamRow.domain false) (Rows.digestStreamSpec.post enc Try.prog Try.f3 false true false false) := by
  refine returnsInHanded_of_change_sized (C := Try.checked) own started (by kernel_rfl) Try.func3
    (ChangeSpec.witness6 (enc := enc) (C := Try.checked) false ⟨#[], #[.slice none 0 0], []⟩ 8 (by kernel_rfl) (by kernel_rfl) (by kernel_rfl) (by kernel_rfl)) ?_
  intro W base args ds gs before hval0 hW _ hsz _
  obtain ⟨p, q, hA0, hV, hbf, hfz, hnd⟩ := id hW
  have hA : DataW.TrodAll enc Try.prog W 0 (fun _ => true) true [22] args.toList ds p := hA0
  obtain ⟨v0, vs0, d0, ds0, p0, q0, x0, rfl, y0, ⟨fuel, hf⟩, r0⟩ := trodAll_cons hA
  obtain ⟨rfl, rfl, _⟩ := trodAll_nil r0
  have hok : Value.okWide Try.prog W .any base 22 v0 := hval0 0 22 v0 (by kernel_rfl) (by rw [← Array.getElem?_toList, x0]; rfl)
  have hce := cell_of hok
  rw [hce] at hf
  have hsp := okWide_spot hok
  rw [hce] at hsp
  have hcall := calls_rows (P := Try.prog) (f := 3) (v := v0) Try.underlying22 Try.underlying26 Try.underlying9 (by kernel_rfl) (by kernel_rfl) hf hsp (fun n h _ => law_big n h) (fun n R hn _ => ⟨_, law_stream n R hn⟩)
  have hargs : args = #[v0] := by rw [← Array.toList_inj]; exact x0
  subst hargs
  exact hcall.mono fun e W' ⟨he, hb⟩ => ⟨_, he, law_post (tb := 4) (by kernel_rfl) (by kernel_rfl) rfl Try.underlying4 rfl rfl rfl rfl hW hb⟩
theorem over : Rows.digestStreamRow.holds Try.pinned (OpenSpec.ofChange Rows.digestStreamSpec) :=
  OpenClaim.holds_of_wide 3 Try.f3 rfl rfl rfl rfl rfl rfl rfl ⟨rfl, rfl, rfl, rfl, rfl⟩ rfl rfl rfl rfl rfl (by kernel_rfl) Try.func3 (by kernel_rfl)
    (of_decide_eq_true (by kernel_rfl)) (by unfold Func.isWrapper; first | (rw [if_pos (by decide +kernel)]; kernel_rfl) | (rw [if_neg (by decide +kernel)]; exact ⟨rfl, rfl⟩))
    (fun os started H enc _ => lifted os started H enc)
theorem proved : Rows.DigestStreamSaid := over
#print axioms proved
end digestStream
end Go.Proofs.Ytnicgkhffingmaa
