/- GossipQuick: behind an announcement that differs the interval has the least length, and soon an announcement is made. -/
import Derived.Test.YtcojimifplhodaaB
namespace Go.Proofs.Ytcojimifplhodaa
open Go.RowKit

theorem cE_ok {l d e : Int} {r : Rm} {s : Int} (h : vE l d e r = 0) (h1 : 0 ≤ s) (h2 : s ≤ 1073741824) (h3 : r.b ≤ s) : cE l d e r s = 0 :=
  (cE_0 (by simp [h]) ⟨h1, h2⟩ (by omega)).symm
theorem ok_b {l d e : Int} {r : Rm} (h : vE l d e r = 0) : 0 ≤ r.b ∧ r.b ≤ 1073741824 := by
  have := (vE_out h).2
  unfold vok at this
  simp only [Bool.and_eq_true, decide_eq_true_eq] at this
  omega
set_option maxHeartbeats 1600000 in
theorem quick_v (l d e i b p h s x : Int) (w : World) (hv : (vE l d e ⟨i, b, p, h⟩ != 0) = true) :
    Calls Try.prog 6 #[.agg #[.int .i64 l, .int .i64 d, .int .i64 e], .agg #[.int .i64 i, .int .i64 b, .int .i64 p, .int .i64 h], .int .i64 s, .int .u32 x] w (Ret (.bool true) w) := by
  go_enter Try.func6, Try.ntmps6
  go_wp2_with (first | (go_at_call 9; (refine (awake_true _).mono ?_); rintro e w1 ⟨rfl, hb1⟩; obtain ⟨hc1, hf1⟩ := bcell hb1; have hz1 : w.heap.size + 1 < w1.heap.size := (by have := hb1.size; simp at this; omega); have hz0 : w.heap.size < w1.heap.size := (by omega)) | (go_at_call 16; (refine (valid_any _ _ _ _ _ _ _ _).mono ?_); rintro e w2 ⟨rfl, hb2⟩; obtain ⟨hc2, hf2⟩ := bcell hb2; have hz2 : w.heap.size + 1 < w2.heap.size := (by have := hb2.size; omega); have hz3 : w.heap.size < w2.heap.size := (by omega)) | (go_at_call 9; (refine (awake_true _).mono ?_); rintro e w9 ⟨rfl, hb9⟩))
  go_ret
  exact ⟨rfl, bt (bt (bl2 hb1) hb2) hb9⟩

set_option maxHeartbeats 1600000 in
theorem quick_s (l d e i b p h s x : Int) (w : World) (hv : vE l d e ⟨i, b, p, h⟩ = 0) (hB : 0 ≤ b ∧ b ≤ 1073741824 ∧ l ≤ i ∧ 2 ≤ l ∧ i ≤ 262144) (hs : ¬ (b ≤ s ∧ s ≤ 536870912 ∧ s < b + i)) :
    Calls Try.prog 6 #[.agg #[.int .i64 l, .int .i64 d, .int .i64 e], .agg #[.int .i64 i, .int .i64 b, .int .i64 p, .int .i64 h], .int .i64 s, .int .u32 x] w (Ret (.bool true) w) := by
  obtain ⟨b1, b2, i1, i2, i3⟩ := hB
  have h : s < b ∨ (b ≤ s ∧ 536870912 < s) ∨ (b ≤ s ∧ s ≤ 536870912 ∧ b + i ≤ s) := by omega
  clear hs
  rcases h with h1 | ⟨h1, h2⟩ | ⟨h1, h2, h3⟩
  all_goals
    go_enter Try.func6, Try.ntmps6
    go_wp2_with (first | (go_at_call 9; (refine (awake_true _).mono ?_); rintro e w1 ⟨rfl, hb1⟩; obtain ⟨hc1, hf1⟩ := bcell hb1; have hz1 : w.heap.size + 1 < w1.heap.size := (by have := hb1.size; simp at this; omega); have hz0 : w.heap.size < w1.heap.size := (by omega)) | (go_at_call 16; (refine (valid_any _ _ _ _ _ _ _ _).mono ?_); rintro e w2 ⟨rfl, hb2⟩; obtain ⟨hc2, hf2⟩ := bcell hb2; have hz2 : w.heap.size + 1 < w2.heap.size := (by have := hb2.size; omega); have hz3 : w.heap.size < w2.heap.size := (by omega); rw [hv]) | (go_at_call 9; (refine (awake_true _).mono ?_); rintro e w9 ⟨rfl, hb9⟩))
    all_goals first
      | (exfalso; omega)
      | (go_ret; exact ⟨rfl, bt (bt (bl2 hb1) hb2) hb9⟩)

set_option maxHeartbeats 1600000 in
theorem quick_1 (l d e i b p h s x : Int) (w : World) (hv : vE l d e ⟨i, b, p, h⟩ = 0) (hB : 0 ≤ b ∧ b ≤ 1073741824 ∧ l ≤ i ∧ 2 ≤ l ∧ i ≤ 262144) (hs : b ≤ s ∧ s ≤ 536870912 ∧ s < b + i) (hi : i = l)
    (HH : Hid (∀ w, Calls Try.prog 14 #[.agg #[.int .i64 l, .int .i64 d, .int .i64 e], .agg #[.int .i64 i, .int .i64 b, .int .i64 p, .int .i64 h], .bool false, .int .i64 s, .int .u32 x] w (Ret (.tuple #[.agg #[.int .i64 i, .int .i64 b, .int .i64 p, .int .i64 h], .int .i64 0]) w))) :
    Calls Try.prog 6 #[.agg #[.int .i64 l, .int .i64 d, .int .i64 e], .agg #[.int .i64 i, .int .i64 b, .int .i64 p, .int .i64 h], .int .i64 s, .int .u32 x] w (Ret (.bool true) w) := by
  obtain ⟨b1, b2, i1, i2, i3⟩ := hB
  obtain ⟨s1, s2, s3⟩ := hs
  subst hi
  go_enter Try.func6, Try.ntmps6
  go_wp2_with (first | (go_at_call 9; (refine (awake_true _).mono ?_); rintro e w1 ⟨rfl, hb1⟩; obtain ⟨hc1, hf1⟩ := bcell hb1; have hz1 : w.heap.size + 1 < w1.heap.size := (by have := hb1.size; simp at this; omega); have hz0 : w.heap.size < w1.heap.size := (by omega)) | (go_at_call 16; (refine (valid_any _ _ _ _ _ _ _ _).mono ?_); rintro e w2 ⟨rfl, hb2⟩; obtain ⟨hc2, hf2⟩ := bcell hb2; have hz2 : w.heap.size + 1 < w2.heap.size := (by have := hb2.size; omega); have hz3 : w.heap.size < w2.heap.size := (by omega); rw [hv]) | (go_at_call 14; (with_reducible refine (HH.out _).mono ?_); rintro e w3 ⟨rfl, hb3⟩; obtain ⟨hc3, hf3⟩ := bcell hb3; have hz4 : w.heap.size + 1 < w3.heap.size := (by have := hb3.size; omega); have hz5 : w.heap.size < w3.heap.size := (by omega)))
  all_goals first
    | (exfalso; omega)
    | (go_ret; exact ⟨rfl, (bt (bt (bt (bl2 hb1) hb2) hb3) (bl0 _))⟩)

set_option maxHeartbeats 1600000 in
theorem quick_2 (l d e i b p h s x q : Int) (w : World) (hv : vE l d e ⟨i, b, p, h⟩ = 0) (hB : 0 ≤ b ∧ b ≤ 1073741824 ∧ l ≤ i ∧ 2 ≤ l ∧ i ≤ 262144) (hs : b ≤ s ∧ s ≤ 536870912 ∧ s < b + i) (hi : l < i) (hl : l ≤ 1024) (hq : s ≤ q ∧ q < s + l)
    (HH : Hid (∀ w, Calls Try.prog 14 #[.agg #[.int .i64 l, .int .i64 d, .int .i64 e], .agg #[.int .i64 i, .int .i64 b, .int .i64 p, .int .i64 h], .bool false, .int .i64 s, .int .u32 x] w (Ret (.tuple #[.agg #[.int .i64 l, .int .i64 s, .int .i64 q, .int .i64 0], .int .i64 0]) w)))
    (HS : Hid (∀ (t : Int) w, s ≤ t → t < s + l → Calls Try.prog 12 #[.agg #[.int .i64 l, .int .i64 d, .int .i64 e], .agg #[.int .i64 l, .int .i64 s, .int .i64 q, .int .i64 0], .int .i64 t, .int .u32 x] w (Ret (.tuple #[.agg #[.int .i64 l, .int .i64 s, .int .i64 q, .int .i64 0], .bool (t == q), .int .i64 0]) w))) :
    Calls Try.prog 6 #[.agg #[.int .i64 l, .int .i64 d, .int .i64 e], .agg #[.int .i64 i, .int .i64 b, .int .i64 p, .int .i64 h], .int .i64 s, .int .u32 x] w (Ret (.bool true) w) := by
  obtain ⟨b1, b2, i1, i2, i3⟩ := hB
  obtain ⟨s1, s2, s3⟩ := hs
  obtain ⟨q1, q2⟩ := hq
  have hil : (i == l) = false := by simp; omega
  go_enter Try.func6, Try.ntmps6
  go_wp2_with (first | (go_at_call 9; (refine (awake_true _).mono ?_); rintro e w1 ⟨rfl, hb1⟩; obtain ⟨hc1, hf1⟩ := bcell hb1; have hz1 : w.heap.size + 1 < w1.heap.size := (by have := hb1.size; simp at this; omega); have hz0 : w.heap.size < w1.heap.size := (by omega)) | (go_at_call 16; (refine (valid_any _ _ _ _ _ _ _ _).mono ?_); rintro e w2 ⟨rfl, hb2⟩; obtain ⟨hc2, hf2⟩ := bcell hb2; have hz2 : w.heap.size + 1 < w2.heap.size := (by have := hb2.size; omega); have hz3 : w.heap.size < w2.heap.size := (by omega); rw [hv]) | (go_at_call 14; (with_reducible refine (HH.out _).mono ?_); rintro e w3 ⟨rfl, hb3⟩; obtain ⟨hc3, hf3⟩ := bcell hb3; have hz4 : w.heap.size + 1 < w3.heap.size := (by have := hb3.size; omega); have hz5 : w.heap.size < w3.heap.size := (by omega)))
  all_goals try (exfalso; omega)
  have c0 : At3 (w3.alloc (.cells #[.int .i64 l, .int .i64 s, .int .i64 q, .int .i64 0] 28)) w.heap.size (.int .i64 l) (.int .i64 d) (.int .i64 e) :=
    At3.al ⟨by simp [go_sem, *], by simp [go_sem, *], by simp [go_sem, *]⟩ hz5 _
  have r0 : At4 (w3.alloc (.cells #[.int .i64 l, .int .i64 s, .int .i64 q, .int .i64 0] 28)) w3.heap.size (.int .i64 l) (.int .i64 s) (.int .i64 q) (.int .i64 0) := At4.nw _ _ _ _
  have f0 : Fz4 (w3.alloc (.cells #[.int .i64 l, .int .i64 s, .int .i64 q, .int .i64 0] 28)) w3.heap.size := Fz4.nw _ _ _ _
  have B0 : Below w.heap.size w (w3.alloc (.cells #[.int .i64 l, .int .i64 s, .int .i64 q, .int .i64 0] 28)) := bt (bt (bt (bl2 hb1) hb2) hb3) (bl0 _)
  clear hb1 hb2 hb3 hc1 hc2 hc3 hf1 hf2 hf3 HH
  go_loopw [10, 11, 12, 77] (fun e1 _ _ c wr => ∃ k : Nat, (k : Int) ≤ q - s ∧ c = .int .i64 k ∧ e1 = .int .i64 0 ∧ At3 wr w.heap.size (.int .i64 l) (.int .i64 d) (.int .i64 e) ∧ At4 wr w3.heap.size (.int .i64 l) (.int .i64 s) (.int .i64 q) (.int .i64 0) ∧ Fz4 wr w3.heap.size ∧ Below w.heap.size w wr ∧ w3.heap.size < wr.heap.size) (fun _ _ _ c _ => (l - intOf c).toNat)
  case atStart => exact ⟨0, by omega, rfl, rfl, c0, r0, f0, B0, by simp⟩
  case round =>
    obtain ⟨k, hk, rfl, rfl, ck, rk, fk, Bk, zk⟩ := hrel
    obtain ⟨ck0, ck1, ck2⟩ := id ck
    obtain ⟨rk0, rk1, rk2, rk3⟩ := id rk
    by_cases hkq : (k : Int) = q - s
    all_goals
      go_wp2_with (go_at_call 12; (refine (HS.out _ _ (by omega) (by omega)).mono ?_); rintro e w4 ⟨rfl, hb4⟩; have c4 := ck.keep hb4 (by omega); obtain ⟨c40, c41, c42⟩ := id c4; have r4 := rk.keep hb4 zk; obtain ⟨r40, r41, r42, r43⟩ := id r4; have f4 := fk.keep hb4 zk; obtain ⟨f40, f41, f42, f43⟩ := id f4)
    all_goals first
      | (exfalso; omega)
      | (go_ret; exact ⟨rfl, bs4 (bt Bk hb4) (by omega) _ _ _ _⟩)
      | skip
    go_roundw
    case rel => exact ⟨k + 1, by omega, by go_num, rfl, c4.oth4 (by omega) _ _ _ _, r4.st _ _ _ _, f4.st _ _ _ _, bs4 (bt Bk hb4) (by omega) _ _ _ _, by simp; have := hb4.size; omega⟩
    case measure => simp [intOf]; omega

theorem vE_ok {l d e : Int} {r : Rm} (h : vE l d e r = 0) : gok l d e = true ∧ 2 ≤ l ∧ l ≤ 1024 ∧ 0 ≤ d ∧ d ≤ 8 ∧ 0 ≤ e ∧ e ≤ 16 ∧ l ≤ r.i ∧ r.i ≤ 262144 ∧ 0 ≤ r.b ∧ r.b ≤ 1073741824 ∧ r.b + r.i / 2 ≤ r.p ∧ r.p < r.b + r.i ∧ 0 ≤ r.h ∧ r.h ≤ 1048576 := by
  have hc := cE_out (cE_ok (s := r.b) h (ok_b h).1 (ok_b h).2 (Int.le_refl _))
  exact ⟨hc.g, hc.l1, hc.l2, hc.d1, hc.d2, hc.e1, hc.e2, hc.i1, hc.i2, hc.b1, hc.b2, hc.p1, hc.p2, hc.h1, hc.h2⟩
/-- A state within an interval of the least length is valid. -/
theorem cE_least {l d e b p h s : Int} (hg : gok l d e = true) (hb : 0 ≤ b) (hb2 : b ≤ 1073741824) (hp : b + l / 2 ≤ p) (hp2 : p < b + l) (hh : 0 ≤ h) (hh2 : h ≤ 1048576) (h1 : 0 ≤ s) (h2 : s ≤ 1073741824) (h3 : b ≤ s) : cE l d e ⟨l, b, p, h⟩ s = 0 := by
  obtain ⟨g1, g2, g3, g4, g5, g6⟩ := gok_t hg
  refine cE_ok (vE_0 hg ?_ ⟨hb, hb2, hp, hp2, hh, hh2⟩).symm h1 h2 h3
  exact (kn_iff _ _ _).2 ⟨0, by omega, by simp⟩
theorem quick_any (l d e i b p h s x : Int) (w : World) (hx : 0 ≤ x) (hx2 : x ≤ 4294967295) : Calls Try.prog 6 #[.agg #[.int .i64 l, .int .i64 d, .int .i64 e], .agg #[.int .i64 i, .int .i64 b, .int .i64 p, .int .i64 h], .int .i64 s, .int .u32 x] w (Ret (.bool true) w) := by
  by_cases hv : vE l d e ⟨i, b, p, h⟩ = 0
  · obtain ⟨hg, l1, l2, d1, d2, e1, e2, i1, i2, b1, b2, p1, p2, h1, h2⟩ := vE_ok hv
    simp only [] at i1 i2 b1 b2 p1 p2 h1 h2
    by_cases hs : b ≤ s ∧ s ≤ 536870912 ∧ s < b + i
    · have hc0 : cE l d e ⟨i, b, p, h⟩ s = 0 := cE_ok hv (by omega) (by omega) hs.1
      have hok := cE_out hc0
      by_cases hi : i = l
      · exact quick_1 l d e i b p h s x w hv ⟨b1, b2, i1, l1, i2⟩ hs hi (Lib.hid fun w => Hear_keep l d e i b p h s x w hok hc0 (by omega))
      · have hm := md_bd l x l1 (by omega)
        refine quick_2 l d e i b p h s x (bgn l s x).p w hv ⟨b1, b2, i1, l1, i2⟩ hs (by omega) l2 ?_ (Lib.hid fun w => Hear_new l d e i b p h s x w hok hc0 hx hx2 (by omega)) (Lib.hid fun t w ht ht2 => ?_)
        · simp only [bgn]; omega
        · have hc1 : cE l d e (bgn l s x) t = 0 := cE_least hg (by omega) (by omega) (by omega) (by omega) (by omega) (by omega) (by omega) (by omega) ht
          have hst := Step_any l d e (bgn l s x).i (bgn l s x).b (bgn l s x).p (bgn l s x).h t x w hx hx2
          have E0 : nxt l d (bgn l s x) t x = bgn l s x := by unfold nxt; exact if_neg (by simp only [bgn]; omega)
          have E1 : spR l d e (bgn l s x) t x = bgn l s x := by simp [spR, hc1, E0]
          have E2 : spB l d e (bgn l s x) t x = (t == (bgn l s x).p) := by
            have hq : quiet e (bgn l s x) = true := by
              rcases (by omega : e = 0 ∨ 0 < e) with hh | hh <;> simp [quiet, bgn, hh]
            simp [spB, hc1, E0, hq]
          have hst : Calls Try.prog 12 #[.agg #[.int .i64 l, .int .i64 d, .int .i64 e], .agg #[.int .i64 (bgn l s x).i, .int .i64 (bgn l s x).b, .int .i64 (bgn l s x).p, .int .i64 (bgn l s x).h], .int .i64 t, .int .u32 x] w (Ret (.tuple #[.agg #[.int .i64 (spR l d e (bgn l s x) t x).i, .int .i64 (spR l d e (bgn l s x) t x).b, .int .i64 (spR l d e (bgn l s x) t x).p, .int .i64 (spR l d e (bgn l s x) t x).h], .bool (spB l d e (bgn l s x) t x), .int .i64 (cE l d e (bgn l s x) t)]) w) := hst
          rw [E1, E2, hc1] at hst
          exact hst
    · exact quick_s l d e i b p h s x w hv ⟨b1, b2, i1, l1, i2⟩ hs
  · exact quick_v l d e i b p h s x w (by simpa using hv)
end Go.Proofs.Ytcojimifplhodaa
