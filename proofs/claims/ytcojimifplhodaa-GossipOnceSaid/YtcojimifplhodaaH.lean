/- GossipHushed: once Enough equal announcements were heard in an interval, before its Point, no announcement is made in it. -/
import Derived.Test.YtcojimifplhodaaQ
namespace Go.Proofs.Ytcojimifplhodaa
open Go.RowKit

set_option maxHeartbeats 1600000 in
theorem hushed_v (l d e s x y : Int) (w : World) (hv : (gE l d e != 0) = true) : Calls Try.prog 8 #[.agg #[.int .i64 l, .int .i64 d, .int .i64 e], .int .i64 s, .int .u32 x, .int .u8 y] w (Ret (.bool true) w) := by
  go_enter Try.func8, Try.ntmps8
  go_wp2_with (first | (go_at_call 9; (refine (awake_true _).mono ?_); rintro e w1 ⟨rfl, hb1⟩; obtain ⟨hc1, hf1⟩ := bcell hb1; have hz1 : w.heap.size < w1.heap.size := (by have := hb1.size; simp at this; omega)) | (go_at_call 18; (refine (check_any _ _ _ _).mono ?_); rintro e w2 ⟨rfl, hb2⟩; obtain ⟨hc2, hf2⟩ := bcell hb2; have hz2 : w.heap.size < w2.heap.size := (by have := hb2.size; omega)) | (go_at_call 9; (refine (awake_true _).mono ?_); rintro e w9 ⟨rfl, hb9⟩))
  go_ret
  exact ⟨rfl, bt (bt (bl1 hb1) hb2) hb9⟩
set_option maxHeartbeats 1600000 in
theorem hushed_s (l d e s x y : Int) (w : World) (hv : gE l d e = 0) (hs : ¬ (e ≠ 0 ∧ 0 ≤ s ∧ s ≤ 1048576)) : Calls Try.prog 8 #[.agg #[.int .i64 l, .int .i64 d, .int .i64 e], .int .i64 s, .int .u32 x, .int .u8 y] w (Ret (.bool true) w) := by
  cases he : (e == 0)
  · have he' : e ≠ 0 := by simpa using he
    have h : s < 0 ∨ (0 ≤ s ∧ 1048576 < s) := by omega
    clear hs he'
    rcases h with h1 | ⟨h1, h2⟩
    all_goals
      go_enter Try.func8, Try.ntmps8
      go_wp2_with (first | (go_at_call 9; (refine (awake_true _).mono ?_); rintro e w1 ⟨rfl, hb1⟩; obtain ⟨hc1, hf1⟩ := bcell hb1; have hz1 : w.heap.size < w1.heap.size := (by have := hb1.size; simp at this; omega)) | (go_at_call 18; (refine (check_any _ _ _ _).mono ?_); rintro e w2 ⟨rfl, hb2⟩; obtain ⟨hc2, hf2⟩ := bcell hb2; have hz2 : w.heap.size < w2.heap.size := (by have := hb2.size; omega); rw [hv]) | (go_at_call 9; (refine (awake_true _).mono ?_); rintro e w9 ⟨rfl, hb9⟩))
      all_goals first
        | (exfalso; omega)
        | (go_ret; exact ⟨rfl, bt (bt (bl1 hb1) hb2) hb9⟩)
  · clear hs
    go_enter Try.func8, Try.ntmps8
    go_wp2_with (first | (go_at_call 9; (refine (awake_true _).mono ?_); rintro e w1 ⟨rfl, hb1⟩; obtain ⟨hc1, hf1⟩ := bcell hb1; have hz1 : w.heap.size < w1.heap.size := (by have := hb1.size; simp at this; omega)) | (go_at_call 18; (refine (check_any _ _ _ _).mono ?_); rintro e w2 ⟨rfl, hb2⟩; obtain ⟨hc2, hf2⟩ := bcell hb2; have hz2 : w.heap.size < w2.heap.size := (by have := hb2.size; omega); rw [hv]) | (go_at_call 9; (refine (awake_true _).mono ?_); rintro e w9 ⟨rfl, hb9⟩))
    all_goals (go_ret; exact ⟨rfl, bt (bt (bl1 hb1) hb2) hb9⟩)

set_option maxHeartbeats 3200000 in
theorem hushed_m (l d e s x y p : Int) (w : World) (hv : gE l d e = 0) (he : (e == 0) = false) (he1 : 1 ≤ e) (he2 : e ≤ 16) (hl1 : 2 ≤ l) (hl2 : l ≤ 1024) (hs : 0 ≤ s) (hs2 : s ≤ 1048576) (hy : 0 ≤ y) (hy2 : y ≤ 255)
    (H1 : Hid (∀ w, Calls Try.prog 10 #[.agg #[.int .i64 l, .int .i64 d, .int .i64 e], .int .i64 s, .int .u32 x] w (Ret (.tuple #[.agg #[.int .i64 l, .int .i64 s, .int .i64 p, .int .i64 0], .int .i64 0]) w)))
    (H2 : Hid (∀ (h : Int) w, 0 ≤ h → h ≤ 20 → Calls Try.prog 14 #[.agg #[.int .i64 l, .int .i64 d, .int .i64 e], .agg #[.int .i64 l, .int .i64 s, .int .i64 p, .int .i64 h], .bool true, .int .i64 s, .int .u32 x] w (Ret (.tuple #[.agg #[.int .i64 l, .int .i64 s, .int .i64 p, .int .i64 (h + 1)], .int .i64 0]) w)))
    (H3 : Hid (∀ (h : Int) w, e ≤ h → h ≤ 20 → Calls Try.prog 20 #[.agg #[.int .i64 l, .int .i64 d, .int .i64 e], .agg #[.int .i64 l, .int .i64 s, .int .i64 p, .int .i64 h], .int .i64 s, .int .i64 (s + l)] w (Ret (.tuple #[.int .i64 0, .bool false, .int .i64 0]) w)))
    (H4 : Hid (∀ (h t : Int) w, e ≤ h → h ≤ 20 → s ≤ t → t < s + l → Calls Try.prog 12 #[.agg #[.int .i64 l, .int .i64 d, .int .i64 e], .agg #[.int .i64 l, .int .i64 s, .int .i64 p, .int .i64 h], .int .i64 t, .int .u32 x] w (Ret (.tuple #[.agg #[.int .i64 l, .int .i64 s, .int .i64 p, .int .i64 h], .bool false, .int .i64 0]) w))) :
    Calls Try.prog 8 #[.agg #[.int .i64 l, .int .i64 d, .int .i64 e], .int .i64 s, .int .u32 x, .int .u8 y] w (Ret (.bool true) w) := by
  have hy4 : 0 ≤ y % 4 ∧ y % 4 ≤ 3 := by omega
  obtain ⟨y1, y2⟩ := hy4
  go_enter Try.func8, Try.ntmps8
  go_wp2_with (first | (go_at_call 9; (refine (awake_true _).mono ?_); rintro e w1 ⟨rfl, hb1⟩; obtain ⟨hc1, hf1⟩ := bcell hb1; have hz1 : w.heap.size < w1.heap.size := (by have := hb1.size; simp at this; omega)) | (go_at_call 18; (refine (check_any _ _ _ _).mono ?_); rintro e w2 ⟨rfl, hb2⟩; obtain ⟨hc2, hf2⟩ := bcell hb2; have hz2 : w.heap.size < w2.heap.size := (by have := hb2.size; omega); rw [hv]) | (go_at_call 10; (refine (H1.out _).mono ?_); rintro e w3 ⟨rfl, hb3⟩; obtain ⟨hc3, hf3⟩ := bcell hb3; have hz3 : w.heap.size < w3.heap.size := (by have := hb3.size; omega)))
  all_goals try (exfalso; omega)
  have c0 : At3 (w3.alloc (.cells #[.int .i64 l, .int .i64 s, .int .i64 p, .int .i64 0] 28)) w.heap.size (.int .i64 l) (.int .i64 d) (.int .i64 e) := At3.al ⟨by simp [go_sem, *], by simp [go_sem, *], by simp [go_sem, *]⟩ hz3 _
  have r0 : At4 (w3.alloc (.cells #[.int .i64 l, .int .i64 s, .int .i64 p, .int .i64 0] 28)) w3.heap.size (.int .i64 l) (.int .i64 s) (.int .i64 p) (.int .i64 0) := At4.nw _ _ _ _
  have f0 : Fz4 (w3.alloc (.cells #[.int .i64 l, .int .i64 s, .int .i64 p, .int .i64 0] 28)) w3.heap.size := Fz4.nw _ _ _ _
  have B0 : Below w.heap.size w (w3.alloc (.cells #[.int .i64 l, .int .i64 s, .int .i64 p, .int .i64 0] 28)) := bt (bt (bt (bl1 hb1) hb2) hb3) (bl0 _)
  clear hb1 hb2 hb3 hc1 hc2 hc3 hf1 hf2 hf3 H1
  go_loopw [10, 52] (fun e1 c wr => ∃ k : Nat, (k : Int) ≤ e + y % 4 ∧ c = .int .i64 k ∧ e1 = .int .i64 0 ∧ At3 wr w.heap.size (.int .i64 l) (.int .i64 d) (.int .i64 e) ∧ At4 wr w3.heap.size (.int .i64 l) (.int .i64 s) (.int .i64 p) (.int .i64 k) ∧ Fz4 wr w3.heap.size ∧ Below w.heap.size w wr ∧ w3.heap.size < wr.heap.size) (fun _ c _ => (e + y % 4 - intOf c).toNat)
  case atStart => exact ⟨0, by omega, rfl, rfl, c0, r0, f0, B0, by simp⟩
  case round =>
    obtain ⟨k, hk, rfl, rfl, ck, rk, fk, Bk, zk⟩ := hrel
    obtain ⟨ck0, ck1, ck2⟩ := id ck
    obtain ⟨rk0, rk1, rk2, rk3⟩ := id rk
    by_cases hkq : (k : Int) < e + y % 4
    · go_wp2_with (go_at_call 14; (refine (H2.out _ _ (by omega) (by omega)).mono ?_); rintro e w4 ⟨rfl, hb4⟩; have c4 := ck.keep hb4 (by omega); obtain ⟨c40, c41, c42⟩ := id c4; have r4 := rk.keep hb4 zk; obtain ⟨r40, r41, r42, r43⟩ := id r4; have f4 := fk.keep hb4 zk; obtain ⟨f40, f41, f42, f43⟩ := id f4)
      go_roundw
      case rel => exact ⟨k + 1, by omega, by go_num, rfl, c4.oth4 (by omega) _ _ _ _, by have := r4.st (.int .i64 l) (.int .i64 s) (.int .i64 p) (.int .i64 ((k : Int) + 1)); exact this, f4.st _ _ _ _, bs4 (bt Bk hb4) (by omega) _ _ _ _, by simp; have := hb4.size; omega⟩
      case measure => simp [intOf]; omega
    · go_wp2_with (go_at_call 20; (refine (H3.out _ _ (by omega) (by omega)).mono ?_); rintro e w4 ⟨rfl, hb4⟩; have c4 := ck.keep hb4 (by omega); obtain ⟨c40, c41, c42⟩ := id c4; have r4 := rk.keep hb4 zk; obtain ⟨r40, r41, r42, r43⟩ := id r4; have f4 := fk.keep hb4 zk; obtain ⟨f40, f41, f42, f43⟩ := id f4)
      all_goals try (exfalso; omega)
      obtain ⟨wo, rfl⟩ : ∃ wo : World, wo = wr := ⟨_, rfl⟩
      go_loopw [10, 14, 15, 84] (fun e1 _ _ c wr => ∃ j : Nat, (j : Int) ≤ l ∧ c = .int .i64 j ∧ e1 = .int .i64 0 ∧ At3 wr w.heap.size (.int .i64 l) (.int .i64 d) (.int .i64 e) ∧ At4 wr w3.heap.size (.int .i64 l) (.int .i64 s) (.int .i64 p) (.int .i64 k) ∧ Fz4 wr w3.heap.size ∧ Below w.heap.size w wr ∧ w3.heap.size < wr.heap.size) (fun _ _ _ c _ => (l - intOf c).toNat)
      case atStart => exact ⟨0, by omega, rfl, rfl, c4, r4, f4, bt Bk hb4, by have := hb4.size; omega⟩
      case round =>
        clear ck rk fk Bk zk ck0 ck1 ck2 rk0 rk1 rk2 rk3 c4 c40 c41 c42 r4 r40 r41 r42 r43 f4 f40 f41 f42 f43 hb4
        obtain ⟨j, hj, rfl, rfl, ck, rk, fk, Bk, zk⟩ := hrel
        obtain ⟨ck0, ck1, ck2⟩ := id ck
        obtain ⟨rk0, rk1, rk2, rk3⟩ := id rk
        by_cases hjl : (j : Int) < l
        · go_wp2_with (go_at_call 12; (refine (H4.out _ _ _ (by omega) (by omega) (by omega) (by omega)).mono ?_); rintro e w4 ⟨rfl, hb4⟩; have c4 := ck.keep hb4 (by omega); obtain ⟨c40, c41, c42⟩ := id c4; have r4 := rk.keep hb4 zk; obtain ⟨r40, r41, r42, r43⟩ := id r4; have f4 := fk.keep hb4 zk; obtain ⟨f40, f41, f42, f43⟩ := id f4)
          all_goals try (exfalso; omega)
          go_roundw
          case rel => exact ⟨j + 1, by omega, by go_num, rfl, c4.oth4 (by omega) _ _ _ _, r4.st _ _ _ _, f4.st _ _ _ _, bs4 (bt Bk hb4) (by omega) _ _ _ _, by simp; have := hb4.size; omega⟩
          case measure => simp [intOf]; omega
        · go_wp2
          go_ret
          exact ⟨rfl, Bk⟩

theorem gE_ok {l d e : Int} (h : gE l d e = 0) : gok l d e = true := by
  unfold gE at h
  split at h
  · assumption
  · omega
theorem hushed_any (l d e s x y : Int) (w : World) (hx : 0 ≤ x) (hx2 : x ≤ 4294967295) (hy : 0 ≤ y) (hy2 : y ≤ 255) : Calls Try.prog 8 #[.agg #[.int .i64 l, .int .i64 d, .int .i64 e], .int .i64 s, .int .u32 x, .int .u8 y] w (Ret (.bool true) w) := by
  by_cases hv : gE l d e = 0
  · have hg := gE_ok hv
    obtain ⟨l1, l2, d1, d2, e1, e2⟩ := gok_t hg
    by_cases hs : e ≠ 0 ∧ 0 ≤ s ∧ s ≤ 1048576
    · obtain ⟨he, s1, s2⟩ := hs
      have hm := md_bd l x l1 (by omega)
      have hp1 : s + l / 2 ≤ (bgn l s x).p := by simp only [bgn]; omega
      have hp2 : (bgn l s x).p < s + l := by simp only [bgn]; omega
      have hcE : ∀ h t : Int, 0 ≤ h → h ≤ 20 → s ≤ t → t < s + l → cE l d e ⟨l, s, (bgn l s x).p, h⟩ t = 0 := fun h t h1 h2 t1 t2 => cE_least hg s1 (by omega) hp1 hp2 h1 (by omega) (by omega) (by omega) t1
      have hqt : ∀ h : Int, e ≤ h → quiet e ⟨l, s, (bgn l s x).p, h⟩ = false := fun h hh => by
        simp only [quiet, Bool.or_eq_false_iff, beq_eq_false_iff_ne, decide_eq_false_iff_not]; omega
      refine hushed_m l d e s x y (bgn l s x).p w hv (by simpa using he) (by omega) e2 l1 l2 s1 s2 hy hy2 (Lib.hid fun w => ?_) (Lib.hid fun h w h1 h2 => ?_) (Lib.hid fun h w h1 h2 => ?_) (Lib.hid fun h t w h1 h2 t1 t2 => ?_)
      · have hst := Start_any l d e s x w hx hx2
        have E1 : stE l d e s = 0 := by simp [stE, hg]; omega
        have E2 : stR l d e s x = bgn l s x := by simp [stR, E1]
        rw [E1, E2] at hst
        exact hst
      · have hc := hcE h s h1 h2 (Int.le_refl _) (by omega)
        exact Hear_eq l d e l s (bgn l s x).p h s x w (cE_out hc) hc (h + 1) (if_neg (by omega))
      · have hc := hcE h s (by omega) h2 (Int.le_refl _) (by omega)
        exact Due_no l d e l s (bgn l s x).p h s (s + l) w (vE_of hc) s1 (by omega) (hqt h h1)
      · have hc := hcE h t (by omega) h2 t1 t2
        have hst := Step_any l d e l s (bgn l s x).p h t x w hx hx2
        have E0 : nxt l d ⟨l, s, (bgn l s x).p, h⟩ t x = ⟨l, s, (bgn l s x).p, h⟩ := by unfold nxt; exact if_neg (by simp only []; omega)
        have E1 : spR l d e ⟨l, s, (bgn l s x).p, h⟩ t x = ⟨l, s, (bgn l s x).p, h⟩ := by simp [spR, hc, E0]
        have E2 : spB l d e ⟨l, s, (bgn l s x).p, h⟩ t x = false := by simp [spB, hc, E0, hqt h h1]
        rw [E1, E2, hc] at hst
        exact hst
    · exact hushed_s l d e s x y w hv hs
  · exact hushed_v l d e s x y w (by simpa using hv)
end Go.Proofs.Ytcojimifplhodaa
