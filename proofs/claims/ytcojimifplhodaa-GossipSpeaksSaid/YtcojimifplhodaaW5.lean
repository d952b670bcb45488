/- Hear and Due, of the program and of the reference. -/
import Derived.Test.YtcojimifplhodaaW4
namespace Go.Proofs.Ytcojimifplhodaa
open Go.RowKit
attribute [local go_sem ↓] Go.wp_at_zero Go.wp_at_succ

set_option maxHeartbeats 1600000 in
theorem Hear_no (l d e i b p h s x : Int) (w : World) (q : Bool) (E : Int) (hc0 : cE l d e ⟨i, b, p, h⟩ s = E) (hE : (E != 0) = true) :
    Calls Try.prog 14 #[.agg #[.int .i64 l, .int .i64 d, .int .i64 e], .agg #[.int .i64 i, .int .i64 b, .int .i64 p, .int .i64 h], .bool q, .int .i64 s, .int .u32 x] w (Ret (.tuple #[.agg #[.int .i64 0, .int .i64 0, .int .i64 0, .int .i64 0], .int .i64 E]) w) := by
  go_enter Try.func14, Try.ntmps14
  go_wp2_with (first | (go_at_call 24; (refine (chk_any _ _ _ _ _ _ _ _ _).mono ?_); rintro e w' ⟨rfl, hb⟩; rw [hc0]; obtain ⟨hc, hf⟩ := bcell hb; have hz : w.heap.size + 2 < w'.heap.size := (by have := hb.size; simp at this; omega); have hz1 : w.heap.size + 1 < w'.heap.size := (by omega); have hz0 : w.heap.size < w'.heap.size := (by omega)))
  exact bodyPost_ret (v := .tuple #[.agg #[.int .i64 0, .int .i64 0, .int .i64 0, .int .i64 0], .int .i64 E]) (by simp [results, Try.results14, go_sem, *]) rfl ⟨rfl, bs4 (bl3 hb) (by omega) _ _ _ _⟩

set_option maxHeartbeats 1600000 in
theorem Hear_eq (l d e i b p h s x : Int) (w : World) (hok : Ok l d e ⟨i, b, p, h⟩ s) (hc0 : cE l d e ⟨i, b, p, h⟩ s = 0) (m : Int) (hm : (if 1048576 < h + 1 then 1048576 else h + 1) = m) :
    Calls Try.prog 14 #[.agg #[.int .i64 l, .int .i64 d, .int .i64 e], .agg #[.int .i64 i, .int .i64 b, .int .i64 p, .int .i64 h], .bool true, .int .i64 s, .int .u32 x] w (Ret (.tuple #[.agg #[.int .i64 i, .int .i64 b, .int .i64 p, .int .i64 m], .int .i64 0]) w) := by
  obtain ⟨hg, l1, l2, d1, d2, e1, e2, i1, i2, b1, b2, p1, p2, h1, h2, s1, s2, s3⟩ := hok
  simp only [] at i1 i2 b1 b2 p1 p2 h1 h2 s3
  clear hg
  go_enter Try.func14, Try.ntmps14
  go_wp2_with (first | (go_at_call 24; (refine (chk_any _ _ _ _ _ _ _ _ _).mono ?_); rintro e w' ⟨rfl, hb⟩; rw [hc0]; obtain ⟨hc, hf⟩ := bcell hb; have hz : w.heap.size + 2 < w'.heap.size := (by have := hb.size; simp at this; omega); have hz1 : w.heap.size + 1 < w'.heap.size := (by omega); have hz0 : w.heap.size < w'.heap.size := (by omega)))
  exact bodyPost_ret (v := .tuple #[.agg #[.int .i64 i, .int .i64 b, .int .i64 p, .int .i64 m], .int .i64 0]) (by simp [results, Try.results14, go_sem, *]) rfl ⟨rfl, bs4 (bs1 (bl3 hb) (by omega) _) (by omega) _ _ _ _⟩

set_option maxHeartbeats 1600000 in
theorem Hear_keep (l d e i b p h s x : Int) (w : World) (hok : Ok l d e ⟨i, b, p, h⟩ s) (hc0 : cE l d e ⟨i, b, p, h⟩ s = 0) (hli : ¬ l < i) :
    Calls Try.prog 14 #[.agg #[.int .i64 l, .int .i64 d, .int .i64 e], .agg #[.int .i64 i, .int .i64 b, .int .i64 p, .int .i64 h], .bool false, .int .i64 s, .int .u32 x] w (Ret (.tuple #[.agg #[.int .i64 i, .int .i64 b, .int .i64 p, .int .i64 h], .int .i64 0]) w) := by
  obtain ⟨hg, l1, l2, d1, d2, e1, e2, i1, i2, b1, b2, p1, p2, h1, h2, s1, s2, s3⟩ := hok
  simp only [] at i1 i2 b1 b2 p1 p2 h1 h2 s3
  clear hg
  go_enter Try.func14, Try.ntmps14
  go_wp2_with (first | (go_at_call 24; (refine (chk_any _ _ _ _ _ _ _ _ _).mono ?_); rintro e w' ⟨rfl, hb⟩; rw [hc0]; obtain ⟨hc, hf⟩ := bcell hb; have hz : w.heap.size + 2 < w'.heap.size := (by have := hb.size; simp at this; omega); have hz1 : w.heap.size + 1 < w'.heap.size := (by omega); have hz0 : w.heap.size < w'.heap.size := (by omega)))
  exact bodyPost_ret (v := .tuple #[.agg #[.int .i64 i, .int .i64 b, .int .i64 p, .int .i64 h], .int .i64 0]) (by simp [results, Try.results14, go_sem, *]) rfl ⟨rfl, bs4 (bl3 hb) (by omega) _ _ _ _⟩

set_option maxHeartbeats 1600000 in
theorem Hear_new (l d e i b p h s x : Int) (w : World) (hok : Ok l d e ⟨i, b, p, h⟩ s) (hc0 : cE l d e ⟨i, b, p, h⟩ s = 0) (hx : 0 ≤ x) (hx2 : x ≤ 4294967295) (hli : l < i) :
    Calls Try.prog 14 #[.agg #[.int .i64 l, .int .i64 d, .int .i64 e], .agg #[.int .i64 i, .int .i64 b, .int .i64 p, .int .i64 h], .bool false, .int .i64 s, .int .u32 x] w (Ret (.tuple #[.agg #[.int .i64 (bgn l s x).i, .int .i64 (bgn l s x).b, .int .i64 (bgn l s x).p, .int .i64 (bgn l s x).h], .int .i64 0]) w) := by
  obtain ⟨hg, l1, l2, d1, d2, e1, e2, i1, i2, b1, b2, p1, p2, h1, h2, s1, s2, s3⟩ := hok
  simp only [] at i1 i2 b1 b2 p1 p2 h1 h2 s3
  clear hg
  go_enter Try.func14, Try.ntmps14
  go_wp2_with (first | (go_at_call 24; (refine (chk_any _ _ _ _ _ _ _ _ _).mono ?_); rintro e w' ⟨rfl, hb⟩; rw [hc0]; obtain ⟨hc, hf⟩ := bcell hb; have hz : w.heap.size + 2 < w'.heap.size := (by have := hb.size; simp at this; omega); have hz1 : w.heap.size + 1 < w'.heap.size := (by omega); have hz0 : w.heap.size < w'.heap.size := (by omega)) | (go_at_call 21; (refine (begin_any _ _ _ _ l1 (by omega) s1 s2 hx hx2).mono ?_); rintro e w2 ⟨rfl, hb2⟩; obtain ⟨hc2, hf2⟩ := bcell hb2))
  exact bodyPost_ret (v := .tuple #[.agg #[.int .i64 (bgn l s x).i, .int .i64 (bgn l s x).b, .int .i64 (bgn l s x).p, .int .i64 (bgn l s x).h], .int .i64 0]) (by simp [results, Try.results14, go_sem, *]) rfl ⟨rfl, bs4 (bs4 (bt (bl3 hb) hb2) (by omega) _ _ _ _) (by omega) _ _ _ _⟩

theorem Hear_any (l d e i b p h s x : Int) (q : Bool) (w : World) (hx : 0 ≤ x) (hx2 : x ≤ 4294967295) :
    Calls Try.prog 14 #[.agg #[.int .i64 l, .int .i64 d, .int .i64 e], .agg #[.int .i64 i, .int .i64 b, .int .i64 p, .int .i64 h], .bool q, .int .i64 s, .int .u32 x] w (Ret (.tuple #[.agg #[.int .i64 (hrR l d e ⟨i, b, p, h⟩ q s x).i, .int .i64 (hrR l d e ⟨i, b, p, h⟩ q s x).b, .int .i64 (hrR l d e ⟨i, b, p, h⟩ q s x).p, .int .i64 (hrR l d e ⟨i, b, p, h⟩ q s x).h], .int .i64 (cE l d e ⟨i, b, p, h⟩ s)]) w) := by
  by_cases hc : cE l d e ⟨i, b, p, h⟩ s = 0
  · have hok := cE_out hc
    cases q
    · by_cases hli : l < i
      · have E1 : hrR l d e ⟨i, b, p, h⟩ false s x = bgn l s x := by simp [hrR, hc, hr, hli]
        rw [E1, hc]
        exact Hear_new l d e i b p h s x w hok hc hx hx2 hli
      · have E1 : hrR l d e ⟨i, b, p, h⟩ false s x = ⟨i, b, p, h⟩ := by simp [hrR, hc, hr, hli]
        rw [E1, hc]
        exact Hear_keep l d e i b p h s x w hok hc hli
    · have E1 : hrR l d e ⟨i, b, p, h⟩ true s x = ⟨i, b, p, if 1048576 < h + 1 then 1048576 else h + 1⟩ := by simp [hrR, hc, hr]
      rw [E1, hc]
      exact Hear_eq l d e i b p h s x w hok hc _ rfl
  · have E1 : hrR l d e ⟨i, b, p, h⟩ q s x = zR := by simp [hrR, hc]
    rw [E1]
    exact Hear_no l d e i b p h s x w q _ rfl (by simpa using hc)

set_option maxHeartbeats 1600000 in
theorem rHear_no (l d e i b p h s x : Int) (w : World) (q : Bool) (E : Int) (hc0 : cE l d e ⟨i, b, p, h⟩ s = E) (hE : (E != 0) = true) :
    Calls Try.prog 15 #[.agg #[.int .i64 l, .int .i64 d, .int .i64 e], .agg #[.int .i64 i, .int .i64 b, .int .i64 p, .int .i64 h], .bool q, .int .i64 s, .int .u32 x] w (Ret (.tuple #[.agg #[.int .i64 0, .int .i64 0, .int .i64 0, .int .i64 0], .int .i64 E]) w) := by
  go_enter Try.func15, Try.ntmps15
  go_wp2_with (first | (go_at_call 27; (refine (rchk_any _ _ _ _ _ _ _ _ _).mono ?_); rintro e w' ⟨rfl, hb⟩; rw [hc0]; obtain ⟨hc, hf⟩ := bcell hb; have hz : w.heap.size + 2 < w'.heap.size := (by have := hb.size; simp at this; omega); have hz1 : w.heap.size + 1 < w'.heap.size := (by omega); have hz0 : w.heap.size < w'.heap.size := (by omega)))
  exact bodyPost_ret (v := .tuple #[.agg #[.int .i64 0, .int .i64 0, .int .i64 0, .int .i64 0], .int .i64 E]) (by simp [results, Try.results15, go_sem, *]) rfl ⟨rfl, bs4 (bl3 hb) (by omega) _ _ _ _⟩

set_option maxHeartbeats 1600000 in
theorem rHear_eq (l d e i b p h s x : Int) (w : World) (hok : Ok l d e ⟨i, b, p, h⟩ s) (hc0 : cE l d e ⟨i, b, p, h⟩ s = 0) (m : Int) (hm : (if 1048576 < h + 1 then 1048576 else h + 1) = m) :
    Calls Try.prog 15 #[.agg #[.int .i64 l, .int .i64 d, .int .i64 e], .agg #[.int .i64 i, .int .i64 b, .int .i64 p, .int .i64 h], .bool true, .int .i64 s, .int .u32 x] w (Ret (.tuple #[.agg #[.int .i64 i, .int .i64 b, .int .i64 p, .int .i64 m], .int .i64 0]) w) := by
  obtain ⟨hg, l1, l2, d1, d2, e1, e2, i1, i2, b1, b2, p1, p2, h1, h2, s1, s2, s3⟩ := hok
  simp only [] at i1 i2 b1 b2 p1 p2 h1 h2 s3
  clear hg
  go_enter Try.func15, Try.ntmps15
  go_wp2_with (first | (go_at_call 27; (refine (rchk_any _ _ _ _ _ _ _ _ _).mono ?_); rintro e w' ⟨rfl, hb⟩; rw [hc0]; obtain ⟨hc, hf⟩ := bcell hb; have hz : w.heap.size + 2 < w'.heap.size := (by have := hb.size; simp at this; omega); have hz1 : w.heap.size + 1 < w'.heap.size := (by omega); have hz0 : w.heap.size < w'.heap.size := (by omega)))
  exact bodyPost_ret (v := .tuple #[.agg #[.int .i64 i, .int .i64 b, .int .i64 p, .int .i64 m], .int .i64 0]) (by simp [results, Try.results15, go_sem, *]) rfl ⟨rfl, bs4 (bs1 (bl3 hb) (by omega) _) (by omega) _ _ _ _⟩

set_option maxHeartbeats 1600000 in
theorem rHear_keep (l d e i b p h s x : Int) (w : World) (hok : Ok l d e ⟨i, b, p, h⟩ s) (hc0 : cE l d e ⟨i, b, p, h⟩ s = 0) (hli : ¬ l < i) :
    Calls Try.prog 15 #[.agg #[.int .i64 l, .int .i64 d, .int .i64 e], .agg #[.int .i64 i, .int .i64 b, .int .i64 p, .int .i64 h], .bool false, .int .i64 s, .int .u32 x] w (Ret (.tuple #[.agg #[.int .i64 i, .int .i64 b, .int .i64 p, .int .i64 h], .int .i64 0]) w) := by
  obtain ⟨hg, l1, l2, d1, d2, e1, e2, i1, i2, b1, b2, p1, p2, h1, h2, s1, s2, s3⟩ := hok
  simp only [] at i1 i2 b1 b2 p1 p2 h1 h2 s3
  clear hg
  go_enter Try.func15, Try.ntmps15
  go_wp2_with (first | (go_at_call 27; (refine (rchk_any _ _ _ _ _ _ _ _ _).mono ?_); rintro e w' ⟨rfl, hb⟩; rw [hc0]; obtain ⟨hc, hf⟩ := bcell hb; have hz : w.heap.size + 2 < w'.heap.size := (by have := hb.size; simp at this; omega); have hz1 : w.heap.size + 1 < w'.heap.size := (by omega); have hz0 : w.heap.size < w'.heap.size := (by omega)))
  exact bodyPost_ret (v := .tuple #[.agg #[.int .i64 i, .int .i64 b, .int .i64 p, .int .i64 h], .int .i64 0]) (by simp [results, Try.results15, go_sem, *]) rfl ⟨rfl, bs4 (bl3 hb) (by omega) _ _ _ _⟩

set_option maxHeartbeats 1600000 in
theorem rHear_new (l d e i b p h s x : Int) (w : World) (hok : Ok l d e ⟨i, b, p, h⟩ s) (hc0 : cE l d e ⟨i, b, p, h⟩ s = 0) (hx : 0 ≤ x) (hx2 : x ≤ 4294967295) (hli : l < i) :
    Calls Try.prog 15 #[.agg #[.int .i64 l, .int .i64 d, .int .i64 e], .agg #[.int .i64 i, .int .i64 b, .int .i64 p, .int .i64 h], .bool false, .int .i64 s, .int .u32 x] w (Ret (.tuple #[.agg #[.int .i64 (bgn l s x).i, .int .i64 (bgn l s x).b, .int .i64 (bgn l s x).p, .int .i64 (bgn l s x).h], .int .i64 0]) w) := by
  obtain ⟨hg, l1, l2, d1, d2, e1, e2, i1, i2, b1, b2, p1, p2, h1, h2, s1, s2, s3⟩ := hok
  simp only [] at i1 i2 b1 b2 p1 p2 h1 h2 s3
  clear hg
  go_enter Try.func15, Try.ntmps15
  go_wp2_with (first | (go_at_call 27; (refine (rchk_any _ _ _ _ _ _ _ _ _).mono ?_); rintro e w' ⟨rfl, hb⟩; rw [hc0]; obtain ⟨hc, hf⟩ := bcell hb; have hz : w.heap.size + 2 < w'.heap.size := (by have := hb.size; simp at this; omega); have hz1 : w.heap.size + 1 < w'.heap.size := (by omega); have hz0 : w.heap.size < w'.heap.size := (by omega)) | (go_at_call 23; (refine (rbegin_any _ _ _ _ l1 (by omega) s1 s2 hx hx2).mono ?_); rintro e w2 ⟨rfl, hb2⟩; obtain ⟨hc2, hf2⟩ := bcell hb2))
  exact bodyPost_ret (v := .tuple #[.agg #[.int .i64 (bgn l s x).i, .int .i64 (bgn l s x).b, .int .i64 (bgn l s x).p, .int .i64 (bgn l s x).h], .int .i64 0]) (by simp [results, Try.results15, go_sem, *]) rfl ⟨rfl, bs4 (bs4 (bt (bl3 hb) hb2) (by omega) _ _ _ _) (by omega) _ _ _ _⟩

theorem rHear_any (l d e i b p h s x : Int) (q : Bool) (w : World) (hx : 0 ≤ x) (hx2 : x ≤ 4294967295) :
    Calls Try.prog 15 #[.agg #[.int .i64 l, .int .i64 d, .int .i64 e], .agg #[.int .i64 i, .int .i64 b, .int .i64 p, .int .i64 h], .bool q, .int .i64 s, .int .u32 x] w (Ret (.tuple #[.agg #[.int .i64 (hrR l d e ⟨i, b, p, h⟩ q s x).i, .int .i64 (hrR l d e ⟨i, b, p, h⟩ q s x).b, .int .i64 (hrR l d e ⟨i, b, p, h⟩ q s x).p, .int .i64 (hrR l d e ⟨i, b, p, h⟩ q s x).h], .int .i64 (cE l d e ⟨i, b, p, h⟩ s)]) w) := by
  by_cases hc : cE l d e ⟨i, b, p, h⟩ s = 0
  · have hok := cE_out hc
    cases q
    · by_cases hli : l < i
      · have E1 : hrR l d e ⟨i, b, p, h⟩ false s x = bgn l s x := by simp [hrR, hc, hr, hli]
        rw [E1, hc]
        exact rHear_new l d e i b p h s x w hok hc hx hx2 hli
      · have E1 : hrR l d e ⟨i, b, p, h⟩ false s x = ⟨i, b, p, h⟩ := by simp [hrR, hc, hr, hli]
        rw [E1, hc]
        exact rHear_keep l d e i b p h s x w hok hc hli
    · have E1 : hrR l d e ⟨i, b, p, h⟩ true s x = ⟨i, b, p, if 1048576 < h + 1 then 1048576 else h + 1⟩ := by simp [hrR, hc, hr]
      rw [E1, hc]
      exact rHear_eq l d e i b p h s x w hok hc _ rfl
  · have E1 : hrR l d e ⟨i, b, p, h⟩ q s x = zR := by simp [hrR, hc]
    rw [E1]
    exact rHear_no l d e i b p h s x w q _ rfl (by simpa using hc)

theorem vE_of {l d e : Int} {r : Rm} {s : Int} (h : cE l d e r s = 0) : vE l d e r = 0 := by
  unfold cE at h; split at h <;> assumption
set_option maxHeartbeats 1600000 in
theorem Due_no (l d e i b p h f t : Int) (w : World) (hv : vE l d e ⟨i, b, p, h⟩ = 0) (hf : 0 ≤ f) (hft : f ≤ t) (hq : quiet e ⟨i, b, p, h⟩ = false) :
    Calls Try.prog 20 #[.agg #[.int .i64 l, .int .i64 d, .int .i64 e], .agg #[.int .i64 i, .int .i64 b, .int .i64 p, .int .i64 h], .int .i64 f, .int .i64 t] w (Ret (.tuple #[.int .i64 0, .bool false, .int .i64 0]) w) := by
  by_cases h1 : p < f
  · go_enter Try.func20, Try.ntmps20
    go_wp2_with (first | (go_at_call 16; (refine (valid_any _ _ _ _ _ _ _ _).mono ?_); rintro e w' ⟨rfl, hb⟩; rw [hv]; obtain ⟨hc, hfz⟩ := bcell hb; have hz1 : w.heap.size + 1 < w'.heap.size := (by have := hb.size; simp at this; omega); have hz0 : w.heap.size < w'.heap.size := (by omega)))
    all_goals first | (exfalso; omega) | (go_ret3; exact ⟨rfl, bl2 hb⟩)
  by_cases h2 : t < p
  · go_enter Try.func20, Try.ntmps20
    go_wp2_with (first | (go_at_call 16; (refine (valid_any _ _ _ _ _ _ _ _).mono ?_); rintro e w' ⟨rfl, hb⟩; rw [hv]; obtain ⟨hc, hfz⟩ := bcell hb; have hz1 : w.heap.size + 1 < w'.heap.size := (by have := hb.size; simp at this; omega); have hz0 : w.heap.size < w'.heap.size := (by omega)))
    all_goals first | (exfalso; omega) | (go_ret3; exact ⟨rfl, bl2 hb⟩)
  go_enter Try.func20, Try.ntmps20
  go_wp2_with (first | (go_at_call 16; (refine (valid_any _ _ _ _ _ _ _ _).mono ?_); rintro e w' ⟨rfl, hb⟩; rw [hv]; obtain ⟨hc, hfz⟩ := bcell hb; have hz1 : w.heap.size + 1 < w'.heap.size := (by have := hb.size; simp at this; omega); have hz0 : w.heap.size < w'.heap.size := (by omega)) | (go_at_call 26; (refine (quiet_any _ _ _ _ _ _ _ _).mono ?_); rintro e w2 ⟨rfl, hb2⟩; rw [hq]))
  all_goals first | (exfalso; omega) | (go_ret3; exact ⟨rfl, bt (bl2 hb) hb2⟩)
end Go.Proofs.Ytcojimifplhodaa
