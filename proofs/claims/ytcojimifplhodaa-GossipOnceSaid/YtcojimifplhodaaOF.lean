/- GossipOnce returns true of every input: in each interval at most one announcement is made, in its second half, and states stay valid.
   Conditions: none. -/
import Derived.Test.YtcojimifplhodaaO
import Derived.Test.YtcojimifplhodaaF
import Derived.Test.YtcojimifplhodaaS
namespace Go.Proofs.Ytcojimifplhodaa
open Go.ChangeShapes Go.WideShapes Go.ChangeAt Go.RowKit
theorem st_s {l d e s : Int} (h : stE l d e s = 0) : 0 ≤ s ∧ s ≤ 1073741824 := by
  unfold stE at h
  split at h
  · split at h
    · assumption
    · omega
  · omega
theorem st_g {l d e s : Int} (h : stE l d e s = 0) : gok l d e = true := by
  unfold stE at h
  split at h
  · assumption
  · omega
namespace gossipOnce
theorem own : ownKnob Try.prog.godebug = none := by kernel_rfl
set_option maxRecDepth 100000 in
theorem lifted (os : Os) (started : os.Started) (H : Type) (enc : TypeId × Value → H) :
    ReturnsInHanded {} Try.checked os 4 .any (Rows.gossipOnceSpec.pre6 enc Try.prog Try.f4 Rows.gossipOnceRow.domain false) (Rows.gossipOnceSpec.post enc Try.prog Try.f4 false true false false) := by
  refine returnsInHanded_of_change (C := Try.checked) own started (by kernel_rfl) Try.func4
    (ChangeSpec.witness6 (enc := enc) (C := Try.checked) false ⟨#[], #[.agg #[.int .i64 0, .int .i64 0, .int .i64 0], .int .i64 0, .int .u32 0, .slice none 0 0], []⟩ 8 (by kernel_rfl) (by kernel_rfl) (by kernel_rfl) (by kernel_rfl)) ?_
  intro W base args ds gs before hval0 hW _ _
  have hval : ∀ (j : Nat) t v, Try.f4.params[j]? = some t → args[j]? = some v → Value.okWide Try.prog W .any base t v := hval0
  obtain ⟨p, q, hA0, hV, hbf, hfz, hnd⟩ := id hW
  have hA : DataW.TrodAll enc Try.prog W 0 (fun _ => true) true Try.f4.params.toList args.toList ds p := hA0
  rw [Try.params4] at hA hval
  obtain ⟨v0, vs0, d0, ds0, p0, q0, hargs, rfl, hp, h0, r0⟩ := trodAll_cons hA
  obtain ⟨v1, vs1, d1, ds1, p1, q1, rfl, rfl, rfl, h1, r1⟩ := trodAll_cons r0
  obtain ⟨v2, vs2, d2, ds2, p2, q2, rfl, rfl, rfl, h2, r2⟩ := trodAll_cons r1
  obtain ⟨v3, vs3, d3, ds3, p3, q3, rfl, rfl, rfl, h3, r3⟩ := trodAll_cons r2
  obtain ⟨rfl, rfl, rfl⟩ := trodAll_nil r3
  obtain rfl : args = #[v0, v1, v2, v3] := by cases args; simp_all
  clear hA0 hval0 hA
  obtain ⟨c0_0, c0_1, c0_2, y0_0, y0_1, y0_2, m0, rfl, e0, _, t0_0, t0_1, t0_2⟩ := Joins.open_agg3 Try.underlying23 (by kernel_rfl) (by kernel_rfl) (hval 0 23 v0 rfl rfl) h0
  obtain ⟨l, q0_0, _, w0_0⟩ := DataW.trod_int Try.underlying3 t0_0
  simp only [List.cons.injEq, and_true] at q0_0; subst q0_0
  obtain ⟨d, q0_1, _, w0_1⟩ := DataW.trod_int Try.underlying3 t0_1
  simp only [List.cons.injEq, and_true] at q0_1; subst q0_1
  obtain ⟨e, q0_2, _, w0_2⟩ := DataW.trod_int Try.underlying3 t0_2
  simp only [List.cons.injEq, and_true] at q0_2; subst q0_2
  obtain ⟨s, rfl, e1, _, w1⟩ := open_int Try.underlying3 (hval 1 3 v1 rfl rfl) h1
  obtain ⟨x, rfl, e2, _, w2⟩ := open_int Try.underlying24 (hval 2 24 v2 rfl rfl) h2
  have hx : 0 ≤ x ∧ x ≤ 4294967295 := by simpa [Lit.wf, IntKind.min, IntKind.max, IntKind.signed, IntKind.bits] using w2
  obtain ⟨a, n, cap, rfl, hnc, hcm, hel⟩ := sl_open Try.underlying25 (by rw [show Try.prog.cellsOf 33 = 3 from by kernel_rfl]; omega) (hval 3 25 v3 rfl rfl) h3
  unfold maxLen at hcm
  have hcall : Calls Try.prog 4 #[.agg #[.int .i64 l, .int .i64 d, .int .i64 e], .int .i64 s, .int .u32 x, .slice a n cap] W (Ret (.bool true) W) := by
    by_cases hn : 200 < n ∨ 536870912 < s
    · exact once_long l d e s x n cap a W hn (by omega)
    by_cases hE : stE l d e s = 0
    · have hs : 0 ≤ s ∧ s ≤ 1073741824 := st_s hE
      have hR : stR l d e s x = bgn l s x := by simp [stR, hE]
      have hg := st_g hE
      have hO : On l d e (bgn l s x).i (bgn l s x).b (bgn l s x).p (bgn l s x).h 0 s := ⟨vE_bgn (n := l) (t := s) (x := x) hg ((kn_iff l l _).2 ⟨0, by have := (gok_t hg); omega, by simp⟩) hs.1 hs.2, Int.le_refl _, .inl rfl⟩
      rcases hel with rfl | ⟨b, off, fuel, D, rfl, hb, hi⟩
      · exact once_0 l d e s x cap a W hE (by omega) hx.1 hx.2
      · rw [show Try.prog.cellsOf 33 = 3 from by kernel_rfl] at hi
        obtain ⟨S, hS⟩ := Deep.choose_lt (α := Bool × Bool × Int) (p := fun i q => At3c W b (off + i * 3) (.bool q.1) (.bool q.2.1) (.int .u32 q.2.2) ∧ 0 ≤ q.2.2 ∧ q.2.2 ≤ 4294967295) (fun i hin => by
          obtain ⟨cs, hl, hc, ht⟩ := hi i hin
          obtain ⟨q, rfl, q1, q2⟩ := sound_at hl ht
          exact ⟨q, ⟨by simpa using hc 0 (by omega), by simpa using hc 1 (by omega), by simpa using hc 2 (by omega)⟩, q1, q2⟩)
        exact once_m l d e s x n cap b off S W (by omega) hE hs.1 (by omega) hx.1 hx.2 hb (fun i hi => (hS i hi).2) _ hR hO (Lib.hid fun i hi => (hS i hi).1)
    · exact once_bad l d e s x _ n cap a W (by omega) (by omega) hx.1 hx.2 rfl (by simpa using hE) (by simp [stR, hE])
  exact hcall.mono fun e W' ⟨he, hb⟩ => ⟨_, he, law_post (tb := 4) (by kernel_rfl) (by kernel_rfl) rfl Try.underlying4 rfl rfl rfl rfl hW hb⟩
theorem over : Rows.gossipOnceRow.holds Try.pinned (OpenSpec.ofChange Rows.gossipOnceSpec) :=
  OpenClaim.holds_of_wide 4 Try.f4 rfl rfl rfl rfl rfl rfl rfl ⟨rfl, rfl, rfl, rfl, rfl⟩ rfl rfl rfl rfl rfl (by kernel_rfl) Try.func4 (by kernel_rfl)
    (of_decide_eq_true (by kernel_rfl)) (by unfold Func.isWrapper; first | (rw [if_pos (by decide +kernel)]; kernel_rfl) | (rw [if_neg (by decide +kernel)]; exact ⟨rfl, rfl⟩))
    (fun os started H enc _ => lifted os started H enc)
theorem proved : Rows.GossipOnceSaid := over
#print axioms proved
end gossipOnce
end Go.Proofs.Ytcojimifplhodaa
