/- GossipQuick returns true of every input: behind an announcement that differs the interval has the least length, and a node that hears nothing more makes an announcement within so many slots.
   Conditions: none. -/
import Derived.Test.YtcojimifplhodaaQ
import Derived.Test.YtcojimifplhodaaF
namespace Go.Proofs.Ytcojimifplhodaa
open Go.ChangeShapes Go.WideShapes Go.ChangeAt Go.RowKit
namespace gossipQuick
theorem own : ownKnob Try.prog.godebug = none := by kernel_rfl
set_option maxRecDepth 100000 in
theorem lifted (os : Os) (started : os.Started) (H : Type) (enc : TypeId × Value → H) :
    ReturnsInHanded {} Try.checked os 6 .any (Rows.gossipQuickSpec.pre6 enc Try.prog Try.f6 Rows.gossipQuickRow.domain false) (Rows.gossipQuickSpec.post enc Try.prog Try.f6 false true false false) := by
  refine returnsInHanded_of_change (C := Try.checked) own started (by kernel_rfl) Try.func6
    (ChangeSpec.witness6 (enc := enc) (C := Try.checked) false ⟨#[], #[.agg #[.int .i64 0, .int .i64 0, .int .i64 0], .agg #[.int .i64 0, .int .i64 0, .int .i64 0, .int .i64 0], .int .i64 0, .int .u32 0], []⟩ 8 (by kernel_rfl) (by kernel_rfl) (by kernel_rfl) (by kernel_rfl)) ?_
  intro W base args ds gs before hval0 hW _ _
  have hval : ∀ (j : Nat) t v, Try.f6.params[j]? = some t → args[j]? = some v → Value.okWide Try.prog W .any base t v := hval0
  obtain ⟨p, q, hA0, hV, hbf, hfz, hnd⟩ := id hW
  have hA : DataW.TrodAll enc Try.prog W 0 (fun _ => true) true Try.f6.params.toList args.toList ds p := hA0
  rw [Try.params6] at hA hval
  obtain ⟨v0, vs0, d0, ds0, p0, q0, hargs, rfl, hp, h0, r0⟩ := trodAll_cons hA
  obtain ⟨v1, vs1, d1, ds1, p1, q1, rfl, rfl, rfl, h1, r1⟩ := trodAll_cons r0
  obtain ⟨v2, vs2, d2, ds2, p2, q2, rfl, rfl, rfl, h2, r2⟩ := trodAll_cons r1
  obtain ⟨v3, vs3, d3, ds3, p3, q3, rfl, rfl, rfl, h3, r3⟩ := trodAll_cons r2
  obtain ⟨rfl, rfl, rfl⟩ := trodAll_nil r3
  obtain rfl : args = #[v0, v1, v2, v3] := by cases args; simp_all
  clear hA0 hval0 hA
  obtain ⟨c0_0, c0_1, c0_2, y0_0, y0_1, y0_2, m0, rfl, e0, _, t0_0, t0_1, t0_2⟩ := Joins.open_agg3 Try.underlying23 (by kernel_rfl) (by kernel_rfl) (hval 0 23 v0 rfl rfl) h0
  obtain ⟨l, q0_0, _, w0_0⟩ := DataW.trod_int Try.underlying3 t0_0
  simp only [List.cons.injEq, and_true] at q0_0; subst q0_0
  obtain ⟨d, q0_1, _, w0_1⟩ := DataW.trod_int Try.underlying3 t0_1
  simp only [List.cons.injEq, and_true] at q0_1; subst q0_1
  obtain ⟨e, q0_2, _, w0_2⟩ := DataW.trod_int Try.underlying3 t0_2
  simp only [List.cons.injEq, and_true] at q0_2; subst q0_2
  obtain ⟨c1_0, c1_1, c1_2, c1_3, y1_0, y1_1, y1_2, y1_3, m1, rfl, e1, _, t1_0, t1_1, t1_2, t1_3⟩ := Joins.open_agg4 Try.underlying28 (by kernel_rfl) (by kernel_rfl) (hval 1 28 v1 rfl rfl) h1
  obtain ⟨i, q1_0, _, w1_0⟩ := DataW.trod_int Try.underlying3 t1_0
  simp only [List.cons.injEq, and_true] at q1_0; subst q1_0
  obtain ⟨b, q1_1, _, w1_1⟩ := DataW.trod_int Try.underlying3 t1_1
  simp only [List.cons.injEq, and_true] at q1_1; subst q1_1
  obtain ⟨p, q1_2, _, w1_2⟩ := DataW.trod_int Try.underlying3 t1_2
  simp only [List.cons.injEq, and_true] at q1_2; subst q1_2
  obtain ⟨h, q1_3, _, w1_3⟩ := DataW.trod_int Try.underlying3 t1_3
  simp only [List.cons.injEq, and_true] at q1_3; subst q1_3
  obtain ⟨s, rfl, e2, _, w2⟩ := open_int Try.underlying3 (hval 2 3 v2 rfl rfl) h2
  obtain ⟨x, rfl, e3, _, w3⟩ := open_int Try.underlying24 (hval 3 24 v3 rfl rfl) h3
  have hx : 0 ≤ x ∧ x ≤ 4294967295 := by simpa [Lit.wf, IntKind.min, IntKind.max, IntKind.signed, IntKind.bits] using w3
  have hcall := quick_any l d e i b p h s x W hx.1 hx.2
  exact hcall.mono fun e W' ⟨he, hb⟩ => ⟨_, he, law_post (tb := 4) (by kernel_rfl) (by kernel_rfl) rfl Try.underlying4 rfl rfl rfl rfl hW hb⟩
theorem over : Rows.gossipQuickRow.holds Try.pinned (OpenSpec.ofChange Rows.gossipQuickSpec) :=
  OpenClaim.holds_of_wide 6 Try.f6 rfl rfl rfl rfl rfl rfl rfl ⟨rfl, rfl, rfl, rfl, rfl⟩ rfl rfl rfl rfl rfl (by kernel_rfl) Try.func6 (by kernel_rfl)
    (of_decide_eq_true (by kernel_rfl)) (by unfold Func.isWrapper; first | (rw [if_pos (by decide +kernel)]; kernel_rfl) | (rw [if_neg (by decide +kernel)]; exact ⟨rfl, rfl⟩))
    (fun os started H enc _ => lifted os started H enc)
theorem proved : Rows.GossipQuickSaid := over
#print axioms proved
end gossipQuick
end Go.Proofs.Ytcojimifplhodaa
