/- GossipSpeaks returns true of every input: each interval of the first ones carries one announcement, and the interval's length doubles up to the greatest.
   Conditions: none. -/
import Derived.Test.YtcojimifplhodaaGS
namespace Go.Proofs.Ytcojimifplhodaa
open Go.ChangeShapes Go.WideShapes Go.ChangeAt Go.RowKit Av
theorem speaks_nil (l d e s : Int) : ACalls Try.prog 5 [.agg #[.int .i64 l, .int .i64 d, .int .i64 e], .int .i64 s, .slice none 0 0] [] (.bool true) [] := by
  refine acalls_law Try.func5 rfl rfl rfl ?_
  repeat' first
    | refine st ?_
    | refine st_call (aw_awake) ?_
    | refine stm ?_
    | refine run_want rfl rfl ?_
    | refine run_unwant rfl rfl ?_
    | refine run_guard1t rfl rfl (by omega) ?_
    | refine run_guard1f rfl rfl (by omega) ?_
    | refine run_guard0t rfl rfl (by omega) ?_
    | refine run_guard0f rfl rfl (by omega) ?_
    | refine run_guard1 rfl rfl (fun h1 => ?_) (fun h1 => ?_)
    | refine run_guard0 rfl rfl (fun h1 => ?_) (fun h1 => ?_)
    | refine run_guard rfl rfl (fun h1 => ?_) (fun h1 => ?_)
    | refine run_nil ?_
    | refine sd ?_
    | refine sdl ?_
    | refine sd_call (aw_awake) ?_
    | refine sdm ?_
    | refine sdb ?_
    | refine rund_want rfl rfl ?_
    | refine rund_unwant rfl rfl ?_
    | refine rund_guard1 rfl rfl (fun h1 => ?_) (fun h1 => ?_)
    | refine rund_guard0 rfl rfl (fun h1 => ?_) (fun h1 => ?_)
    | refine rund_guard rfl rfl (fun h1 => ?_) (fun h1 => ?_)
    | refine rund_nil ?_
    | refine aw_seq ?_
    | refine aw_region (by kernel_rfl) (Nat.le_of_ble_eq_true rfl) ?_
    | refine aw_region_d (id := 3) [0, 0, 0, 4, 12, 31, 63, 127, 127, 0, 767, 2047] 10 (by kernel_rfl) (by kernel_rfl) (by kernel_rfl) (Nat.le_of_ble_eq_true rfl) ?_
    | refine aw_region_d (id := 14) [0, 0, 0, 0, 0, 24, 56, 127, 255, 511, 511, 511, 1023, 6143, 16383] 12 (by kernel_rfl) (by kernel_rfl) (by kernel_rfl) (Nat.le_of_ble_eq_true rfl) ?_
    | refine aw_block ?_
    | refine aw_cond_t rfl ?_
    | refine aw_cond_f rfl ?_
    | refine aw_cond_tp rfl (by omega) ?_
    | refine aw_cond_fp rfl (by omega) ?_
    | refine aw_cond1 rfl (fun h1 => ?_) (fun h1 => ?_)
    | refine aw_cond rfl (fun h1 => ?_) (fun h1 => ?_)
    | refine aw_skip ?_
    | refine aw_exit ?_
    | refine aw_ret ?_
    | refine pp_ret ?_
    | refine pp_normal ?_
  all_goals rfl
namespace gossipSpeaks
theorem own : ownKnob Try.prog.godebug = none := by kernel_rfl
set_option maxRecDepth 100000 in
theorem lifted (os : Os) (started : os.Started) (H : Type) (enc : TypeId × Value → H) :
    ReturnsInHanded {} Try.checked os 5 .any (Rows.gossipSpeaksSpec.pre6 enc Try.prog Try.f5 Rows.gossipSpeaksRow.domain false) (Rows.gossipSpeaksSpec.post enc Try.prog Try.f5 false true false false) := by
  refine returnsInHanded_of_change (C := Try.checked) own started (by kernel_rfl) Try.func5
    (ChangeSpec.witness6 (enc := enc) (C := Try.checked) false ⟨#[], #[.agg #[.int .i64 0, .int .i64 0, .int .i64 0], .int .i64 0, .slice none 0 0], []⟩ 8 (by kernel_rfl) (by kernel_rfl) (by kernel_rfl) (by kernel_rfl)) ?_
  intro W base args ds gs before hval0 hW _ _
  have hval : ∀ (j : Nat) t v, Try.f5.params[j]? = some t → args[j]? = some v → Value.okWide Try.prog W .any base t v := hval0
  obtain ⟨p, q, hA0, hV, hbf, hfz, hnd⟩ := id hW
  have hA : DataW.TrodAll enc Try.prog W 0 (fun _ => true) true Try.f5.params.toList args.toList ds p := hA0
  rw [Try.params5] at hA hval
  obtain ⟨v0, vs0, d0, ds0, p0, q0, hargs, rfl, hp, h0, r0⟩ := trodAll_cons hA
  obtain ⟨v1, vs1, d1, ds1, p1, q1, rfl, rfl, rfl, h1, r1⟩ := trodAll_cons r0
  obtain ⟨v2, vs2, d2, ds2, p2, q2, rfl, rfl, rfl, h2, r2⟩ := trodAll_cons r1
  obtain ⟨rfl, rfl, rfl⟩ := trodAll_nil r2
  obtain rfl : args = #[v0, v1, v2] := by cases args; simp_all
  clear hA0 hval0 hA
  obtain ⟨c0_0, c0_1, c0_2, y0_0, y0_1, y0_2, m0, rfl, e0, _, t0_0, t0_1, t0_2⟩ := Joins.open_agg3 Try.underlying23 (by kernel_rfl) (by kernel_rfl) (hval 0 23 v0 rfl rfl) h0
  obtain ⟨l, q0_0, _, w0_0⟩ := DataW.trod_int Try.underlying3 t0_0
  simp only [List.cons.injEq, and_true] at q0_0; subst q0_0
  obtain ⟨d, q0_1, _, w0_1⟩ := DataW.trod_int Try.underlying3 t0_1
  simp only [List.cons.injEq, and_true] at q0_1; subst q0_1
  obtain ⟨e, q0_2, _, w0_2⟩ := DataW.trod_int Try.underlying3 t0_2
  simp only [List.cons.injEq, and_true] at q0_2; subst q0_2
  obtain ⟨s, rfl, e1, _, w1⟩ := open_int Try.underlying3 (hval 1 3 v1 rfl rfl) h1
  obtain ⟨Z, hZ0, hZr⟩ := sl_ints Try.underlying40 Try.underlying24 (by kernel_rfl) (hval 2 40 v2 rfl rfl) h2
  have hcall : Calls Try.prog 5 #[.agg #[.int .i64 l, .int .i64 d, .int .i64 e], .int .i64 s, v2] W fun e w' => e = .returned (.bool true) ∧ Below W.heap.size W w' := by
    rcases hZ0.split with ⟨rfl, rfl⟩ | ⟨b, off, n, cap, rfl, hn, hl, hc⟩
    · exact calls_of (speaks_nil l d e s) rfl (dom_ro []) (repM_ros [] (by simp)) rfl (VRL.plain (VRL.plain (VRL.plain .nil rfl) rfl) rfl).at
    · exact calls_of (speaks l d e s Z n hl (getD_range hZr (by decide) (by decide))) rfl (dom_ro [⟨Z.map (.int .u32), 1, b, off⟩]) (repM_ros [⟨Z.map (.int .u32), 1, b, off⟩] (by simpa using hc _)) rfl (VRL.plain (VRL.plain (.cons (vr_slice_ro rfl hn) .nil) rfl) rfl).at
  exact hcall.mono fun e W' ⟨he, hb⟩ => ⟨_, he, law_post (tb := 4) (by kernel_rfl) (by kernel_rfl) rfl Try.underlying4 rfl rfl rfl rfl hW hb⟩
theorem over : Rows.gossipSpeaksRow.holds Try.pinned (OpenSpec.ofChange Rows.gossipSpeaksSpec) :=
  OpenClaim.holds_of_wide 5 Try.f5 rfl rfl rfl rfl rfl rfl rfl ⟨rfl, rfl, rfl, rfl, rfl⟩ rfl rfl rfl rfl rfl (by kernel_rfl) Try.func5 (by kernel_rfl)
    (of_decide_eq_true (by kernel_rfl)) (by unfold Func.isWrapper; first | (rw [if_pos (by decide +kernel)]; kernel_rfl) | (rw [if_neg (by decide +kernel)]; exact ⟨rfl, rfl⟩))
    (fun os started H enc _ => lifted os started H enc)
theorem proved : Rows.GossipSpeaksSaid := over
#print axioms proved
end gossipSpeaks
end Go.Proofs.Ytcojimifplhodaa
