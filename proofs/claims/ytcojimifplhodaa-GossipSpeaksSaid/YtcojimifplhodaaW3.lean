/- Start, Step, Hear and Due, of the program and of the reference. -/
import Derived.Test.YtcojimifplhodaaW2
namespace Go.Proofs.Ytcojimifplhodaa
open Go.RowKit

structure Ok (l d e : Int) (r : Rm) (s : Int) : Prop where
  g : gok l d e = true
  l1 : 2 ≤ l
  l2 : l ≤ 1024
  d1 : 0 ≤ d
  d2 : d ≤ 8
  e1 : 0 ≤ e
  e2 : e ≤ 16
  i1 : l ≤ r.i
  i2 : r.i ≤ 262144
  b1 : 0 ≤ r.b
  b2 : r.b ≤ 1073741824
  p1 : r.b + r.i / 2 ≤ r.p
  p2 : r.p < r.b + r.i
  h1 : 0 ≤ r.h
  h2 : r.h ≤ 1048576
  s1 : 0 ≤ s
  s2 : s ≤ 1073741824
  s3 : r.b ≤ s
theorem vE_out {l d e : Int} {r : Rm} (h : vE l d e r = 0) : gok l d e = true ∧ vok l d r = true := by
  unfold vE at h
  split at h
  · split at h
    · constructor <;> assumption
    · omega
  · omega
theorem cE_out {l d e : Int} {r : Rm} {s : Int} (h : cE l d e r s = 0) : Ok l d e r s := by
  unfold cE at h
  split at h
  · rename_i hv
    obtain ⟨hg, hk⟩ := vE_out hv
    obtain ⟨h1, h2, h3, h4, h5, h6⟩ := gok_t hg
    unfold vok at hk
    simp only [Bool.and_eq_true, decide_eq_true_eq] at hk
    obtain ⟨k1, k2, k3, k4, k5, k6, k7⟩ := hk
    obtain ⟨i1, i2⟩ := kn_bd k1 (by omega) h1 h2
    split at h
    · split at h
      · omega
      · constructor <;> first | assumption | omega
    · omega
  · exact absurd h ‹_›

theorem gE_01 (l d e : Int) : (gok l d e = true ∧ gE l d e = 0) ∨ (gok l d e = false ∧ gE l d e = 2) := by
  cases h : gok l d e <;> simp [gE, h]
theorem st_cases (l d e s : Int) (hok : ¬ (gok l d e = true ∧ 0 ≤ s ∧ s ≤ 1073741824)) : gE l d e = 2 ∨ (gE l d e = 0 ∧ s < 0) ∨ (gE l d e = 0 ∧ 0 ≤ s ∧ 1073741824 < s) := by
  rcases gE_01 l d e with ⟨hg, h⟩ | ⟨hg, h⟩
  · have h2 : ¬ (0 ≤ s ∧ s ≤ 1073741824) := fun h' => hok ⟨hg, h'⟩
    by_cases hs : s < 0
    · exact .inr (.inl ⟨h, hs⟩)
    · exact .inr (.inr ⟨h, by omega, by omega⟩)
  · exact .inl h

set_option maxHeartbeats 1600000 in
theorem Start_any (l d e s x : Int) (w : World) (hx : 0 ≤ x) (hx2 : x ≤ 4294967295) :
    Calls Try.prog 10 #[.agg #[.int .i64 l, .int .i64 d, .int .i64 e], .int .i64 s, .int .u32 x] w (Ret (.tuple #[.agg #[.int .i64 (stR l d e s x).i, .int .i64 (stR l d e s x).b, .int .i64 (stR l d e s x).p, .int .i64 (stR l d e s x).h], .int .i64 (stE l d e s)]) w) := by
  by_cases hok : gok l d e = true ∧ 0 ≤ s ∧ s ≤ 1073741824
  · obtain ⟨hg, s1, s2⟩ := hok
    have E1 : stE l d e s = 0 := by simp [stE, hg, s1, s2]
    have E2 : stR l d e s x = bgn l s x := by simp [stR, E1]
    have HE : gE l d e = 0 := by simp [gE, hg]
    obtain ⟨h1, h2, h3, h4, h5, h6⟩ := gok_t hg
    rw [E1, E2]
    clear E1 E2 hg
    go_enter Try.func10, Try.ntmps10
    go_wp2_with (first
      | (go_at_call 18; (refine (check_any _ _ _ _).mono ?_); rintro e w' ⟨rfl, hb⟩; rw [HE]; obtain ⟨hc, hf⟩ := bcell hb; have hz : w.heap.size + 1 < w'.heap.size := by (have := hb.size; simp at this; omega))
      | (go_at_call 21; (refine (begin_any _ _ _ _ (by omega) (by omega) (by omega) (by omega) (by omega) (by omega)).mono ?_); rintro e w'' ⟨rfl, hb2⟩; obtain ⟨hc2, hf2⟩ := bcell hb2))
    all_goals first
      | (exfalso; omega)
      | exact bodyPost_ret (v := .tuple #[.agg #[.int .i64 (bgn l s x).i, .int .i64 (bgn l s x).b, .int .i64 (bgn l s x).p, .int .i64 (bgn l s x).h], .int .i64 0]) (by simp [results, Try.results10, go_sem, *]) rfl ⟨rfl, bs4 (bt (bl2 hb) hb2) (by omega) _ _ _ _⟩
  · have E1 : stE l d e s = 2 := by
      unfold stE
      split
      · rename_i hg; rw [if_neg (fun h => hok ⟨hg, h.1, h.2⟩)]
      · rfl
    have E2 : stR l d e s x = zR := by simp [stR, E1]
    have hcase : gE l d e = 2 ∨ (gE l d e = 0 ∧ s < 0) ∨ (gE l d e = 0 ∧ 0 ≤ s ∧ 1073741824 < s) := by
      exact st_cases l d e s hok
    rw [E1, E2]
    clear E1 E2 hok
    rcases hcase with HE | ⟨HE, g1⟩ | ⟨HE, g1, g2⟩
    all_goals
      go_enter Try.func10, Try.ntmps10
      go_wp2_with (go_at_call 18; (refine (check_any _ _ _ _).mono ?_); rintro e w' ⟨rfl, hb⟩; rw [HE]; obtain ⟨hc, hf⟩ := bcell hb; have hz : w.heap.size + 1 < w'.heap.size := by (have := hb.size; simp at this; omega))
      all_goals first
        | (exfalso; omega)
        | exact bodyPost_ret (v := .tuple #[.agg #[.int .i64 0, .int .i64 0, .int .i64 0, .int .i64 0], .int .i64 2]) (by simp [results, Try.results10, go_sem, *]) rfl ⟨rfl, bs4 (bl2 hb) (by omega) _ _ _ _⟩

set_option maxHeartbeats 1600000 in
theorem rStart_any (l d e s x : Int) (w : World) (hx : 0 ≤ x) (hx2 : x ≤ 4294967295) :
    Calls Try.prog 11 #[.agg #[.int .i64 l, .int .i64 d, .int .i64 e], .int .i64 s, .int .u32 x] w (Ret (.tuple #[.agg #[.int .i64 (stR l d e s x).i, .int .i64 (stR l d e s x).b, .int .i64 (stR l d e s x).p, .int .i64 (stR l d e s x).h], .int .i64 (stE l d e s)]) w) := by
  by_cases hok : gok l d e = true ∧ 0 ≤ s ∧ s ≤ 1073741824
  · obtain ⟨hg, s1, s2⟩ := hok
    have E1 : stE l d e s = 0 := by simp [stE, hg, s1, s2]
    have E2 : stR l d e s x = bgn l s x := by simp [stR, E1]
    have HE : gE l d e = 0 := by simp [gE, hg]
    obtain ⟨h1, h2, h3, h4, h5, h6⟩ := gok_t hg
    rw [E1, E2]
    clear E1 E2 hg
    go_enter Try.func11, Try.ntmps11
    go_wp2_with (first
      | (go_at_call 22; (refine (rcheck_any _ _ _ _).mono ?_); rintro e w' ⟨rfl, hb⟩; rw [HE]; obtain ⟨hc, hf⟩ := bcell hb; have hz : w.heap.size + 1 < w'.heap.size := by (have := hb.size; simp at this; omega))
      | (go_at_call 23; (refine (rbegin_any _ _ _ _ (by omega) (by omega) (by omega) (by omega) (by omega) (by omega)).mono ?_); rintro e w'' ⟨rfl, hb2⟩; obtain ⟨hc2, hf2⟩ := bcell hb2))
    all_goals first
      | (exfalso; omega)
      | exact bodyPost_ret (v := .tuple #[.agg #[.int .i64 (bgn l s x).i, .int .i64 (bgn l s x).b, .int .i64 (bgn l s x).p, .int .i64 (bgn l s x).h], .int .i64 0]) (by simp [results, Try.results11, go_sem, *]) rfl ⟨rfl, bs4 (bt (bl2 hb) hb2) (by omega) _ _ _ _⟩
  · have E1 : stE l d e s = 2 := by
      unfold stE
      split
      · rename_i hg; rw [if_neg (fun h => hok ⟨hg, h.1, h.2⟩)]
      · rfl
    have E2 : stR l d e s x = zR := by simp [stR, E1]
    have hcase : gE l d e = 2 ∨ (gE l d e = 0 ∧ s < 0) ∨ (gE l d e = 0 ∧ 0 ≤ s ∧ 1073741824 < s) := by
      exact st_cases l d e s hok
    rw [E1, E2]
    clear E1 E2 hok
    rcases hcase with HE | ⟨HE, g1⟩ | ⟨HE, g1, g2⟩
    all_goals
      go_enter Try.func11, Try.ntmps11
      go_wp2_with (go_at_call 22; (refine (rcheck_any _ _ _ _).mono ?_); rintro e w' ⟨rfl, hb⟩; rw [HE]; obtain ⟨hc, hf⟩ := bcell hb; have hz : w.heap.size + 1 < w'.heap.size := by (have := hb.size; simp at this; omega))
      all_goals first
        | (exfalso; omega)
        | exact bodyPost_ret (v := .tuple #[.agg #[.int .i64 0, .int .i64 0, .int .i64 0, .int .i64 0], .int .i64 2]) (by simp [results, Try.results11, go_sem, *]) rfl ⟨rfl, bs4 (bl2 hb) (by omega) _ _ _ _⟩
end Go.Proofs.Ytcojimifplhodaa
