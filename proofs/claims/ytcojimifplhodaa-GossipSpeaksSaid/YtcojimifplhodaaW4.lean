/- Step, of the program and of the reference. -/
import Derived.Test.YtcojimifplhodaaW3
namespace Go.Proofs.Ytcojimifplhodaa
open Go.RowKit
attribute [local go_sem ↓] Go.wp_at_zero Go.wp_at_succ

set_option maxHeartbeats 1600000 in
theorem Step_no (l d e i b p h s x E : Int) (w : World) (hc0 : cE l d e ⟨i, b, p, h⟩ s = E) (hE : (E != 0) = true) :
    Calls Try.prog 12 #[.agg #[.int .i64 l, .int .i64 d, .int .i64 e], .agg #[.int .i64 i, .int .i64 b, .int .i64 p, .int .i64 h], .int .i64 s, .int .u32 x] w (Ret (.tuple #[.agg #[.int .i64 0, .int .i64 0, .int .i64 0, .int .i64 0], .bool false, .int .i64 E]) w) := by
  go_enter Try.func12, Try.ntmps12
  go_wp2_with (go_at_call 24; (refine (chk_any _ _ _ _ _ _ _ _ _).mono ?_); rintro e w' ⟨rfl, hb⟩; rw [hc0]; obtain ⟨hc, hf⟩ := bcell hb; have hz : w.heap.size + 2 < w'.heap.size := (by have := hb.size; simp at this; omega))
  exact bodyPost_ret (v := .tuple #[.agg #[.int .i64 0, .int .i64 0, .int .i64 0, .int .i64 0], .bool false, .int .i64 E]) (by simp [results, Try.results12, go_sem, *]) rfl ⟨rfl, bs4 (bl3 hb) (by omega) _ _ _ _⟩

set_option maxHeartbeats 1600000 in
theorem Step_iny (l d e i b p h s x : Int) (w : World) (hok : Ok l d e ⟨i, b, p, h⟩ s) (hc0 : cE l d e ⟨i, b, p, h⟩ s = 0) (hlt : s < b + i) (hne : (s == p) = true) :
    Calls Try.prog 12 #[.agg #[.int .i64 l, .int .i64 d, .int .i64 e], .agg #[.int .i64 i, .int .i64 b, .int .i64 p, .int .i64 h], .int .i64 s, .int .u32 x] w (Ret (.tuple #[.agg #[.int .i64 i, .int .i64 b, .int .i64 p, .int .i64 h], .bool (quiet e ⟨i, b, p, h⟩), .int .i64 0]) w) := by
  obtain ⟨hg, l1, l2, d1, d2, e1, e2, i1, i2, b1, b2, p1, p2, h1, h2, s1, s2, s3⟩ := hok
  simp only [] at i1 i2 b1 b2 p1 p2 h1 h2 s3
  clear hg
  go_enter Try.func12, Try.ntmps12
  go_wp2_with (go_at_call 24; (refine (chk_any _ _ _ _ _ _ _ _ _).mono ?_); rintro e w' ⟨rfl, hb⟩; rw [hc0]; obtain ⟨hc, hf⟩ := bcell hb; have hz : w.heap.size + 2 < w'.heap.size := (by have := hb.size; simp at this; omega))
  clear hc0
  have c : At3 w' (w.heap.size) (.int .i64 l) (.int .i64 d) (.int .i64 e) := ⟨by simp [go_sem, hc], by simp [go_sem, hc], by simp [go_sem, hc]⟩
  have r : At4 w' (w.heap.size + 1) (.int .i64 i) (.int .i64 b) (.int .i64 p) (.int .i64 h) := ⟨by simp [go_sem, hc], by simp [go_sem, hc], by simp [go_sem, hc], by simp [go_sem, hc]⟩
  have rF : Fz4 w' (w.heap.size + 1) := ⟨by simp [go_sem, hf], by simp [go_sem, hf], by simp [go_sem, hf], by simp [go_sem, hf]⟩
  have z : At4 w' (w.heap.size + 1 + 1) (.int .i64 0) (.int .i64 0) (.int .i64 0) (.int .i64 0) := ⟨by simp [go_sem, hc], by simp [go_sem, hc], by simp [go_sem, hc], by simp [go_sem, hc]⟩
  have zF : Fz4 w' (w.heap.size + 1 + 1) := ⟨by simp [go_sem, hf], by simp [go_sem, hf], by simp [go_sem, hf], by simp [go_sem, hf]⟩
  have n2 : ¬ (w.heap.size + 1 + 1 = w.heap.size) := by omega
  have r' := r
  have c' := c
  obtain ⟨ra0, ra1, ra2, ra3⟩ := r'
  obtain ⟨ca0, ca1, ca2⟩ := c'
  go_region_held3 (fun w1 => w1.cell? ⟨w.heap.size, 0, none⟩ = some (.int .i64 l) ∧ w1.cell? ⟨w.heap.size, 1, none⟩ = some (.int .i64 d) ∧ w1.cell? ⟨w.heap.size, 2, none⟩ = some (.int .i64 e) ∧ w1.cell? ⟨w.heap.size + 1, 0, none⟩ = some (.int .i64 i) ∧ w1.cell? ⟨w.heap.size + 1, 1, none⟩ = some (.int .i64 b) ∧ w1.cell? ⟨w.heap.size + 1, 2, none⟩ = some (.int .i64 p) ∧ w1.cell? ⟨w.heap.size + 1, 3, none⟩ = some (.int .i64 h)) (go_keep)
    (first | (go_at_call 26; (refine (quiet_any _ _ _ _ _ _ _ _).mono ?_); rintro e w2 ⟨rfl, hb2⟩; have ck := c.keepd hb2 (by first | omega | (simp; omega) | simp); obtain ⟨ck0, ck1, ck2⟩ := id ck; have rk := r.keepd hb2 (by first | omega | (simp; omega) | simp); obtain ⟨rk0, rk1, rk2, rk3⟩ := id rk; have rFk := rF.keepd hb2 (by first | omega | (simp; omega) | simp); obtain ⟨rfk0, rfk1, rfk2, rfk3⟩ := id rFk; have zk := z.keepd hb2 (by first | omega | (simp; omega) | simp); obtain ⟨zk0, zk1, zk2, zk3⟩ := id zk; have zFk := zF.keepd hb2 (by first | omega | (simp; omega) | simp); obtain ⟨zfk0, zfk1, zfk2, zfk3⟩ := id zFk))
  go_wp2
  exact bodyPost_ret (v := .tuple #[.agg #[.int .i64 i, .int .i64 b, .int .i64 p, .int .i64 h], .bool (quiet e ⟨i, b, p, h⟩), .int .i64 0]) (by simp [results, Try.results12, go_sem, *]) rfl ⟨rfl, bs4 (bt (bl3 hb).drew hb2) (by omega) _ _ _ _⟩

set_option maxHeartbeats 1600000 in
theorem Step_inn (l d e i b p h s x : Int) (w : World) (hok : Ok l d e ⟨i, b, p, h⟩ s) (hc0 : cE l d e ⟨i, b, p, h⟩ s = 0) (hlt : s < b + i) (hne : (s == p) = false) :
    Calls Try.prog 12 #[.agg #[.int .i64 l, .int .i64 d, .int .i64 e], .agg #[.int .i64 i, .int .i64 b, .int .i64 p, .int .i64 h], .int .i64 s, .int .u32 x] w (Ret (.tuple #[.agg #[.int .i64 i, .int .i64 b, .int .i64 p, .int .i64 h], .bool (false), .int .i64 0]) w) := by
  obtain ⟨hg, l1, l2, d1, d2, e1, e2, i1, i2, b1, b2, p1, p2, h1, h2, s1, s2, s3⟩ := hok
  simp only [] at i1 i2 b1 b2 p1 p2 h1 h2 s3
  clear hg
  go_enter Try.func12, Try.ntmps12
  go_wp2_with (go_at_call 24; (refine (chk_any _ _ _ _ _ _ _ _ _).mono ?_); rintro e w' ⟨rfl, hb⟩; rw [hc0]; obtain ⟨hc, hf⟩ := bcell hb; have hz : w.heap.size + 2 < w'.heap.size := (by have := hb.size; simp at this; omega))
  clear hc0
  have c : At3 w' (w.heap.size) (.int .i64 l) (.int .i64 d) (.int .i64 e) := ⟨by simp [go_sem, hc], by simp [go_sem, hc], by simp [go_sem, hc]⟩
  have r : At4 w' (w.heap.size + 1) (.int .i64 i) (.int .i64 b) (.int .i64 p) (.int .i64 h) := ⟨by simp [go_sem, hc], by simp [go_sem, hc], by simp [go_sem, hc], by simp [go_sem, hc]⟩
  have rF : Fz4 w' (w.heap.size + 1) := ⟨by simp [go_sem, hf], by simp [go_sem, hf], by simp [go_sem, hf], by simp [go_sem, hf]⟩
  have z : At4 w' (w.heap.size + 1 + 1) (.int .i64 0) (.int .i64 0) (.int .i64 0) (.int .i64 0) := ⟨by simp [go_sem, hc], by simp [go_sem, hc], by simp [go_sem, hc], by simp [go_sem, hc]⟩
  have zF : Fz4 w' (w.heap.size + 1 + 1) := ⟨by simp [go_sem, hf], by simp [go_sem, hf], by simp [go_sem, hf], by simp [go_sem, hf]⟩
  have n2 : ¬ (w.heap.size + 1 + 1 = w.heap.size) := by omega
  obtain ⟨ra0, ra1, ra2, ra3⟩ := r
  obtain ⟨ca0, ca1, ca2⟩ := c
  obtain ⟨za0, za1, za2, za3⟩ := z
  obtain ⟨zf0, zf1, zf2, zf3⟩ := zF
  go_region
  go_wp2
  exact bodyPost_ret (v := .tuple #[.agg #[.int .i64 i, .int .i64 b, .int .i64 p, .int .i64 h], .bool false, .int .i64 0]) (by simp [results, Try.results12, go_sem, *]) rfl ⟨rfl, (bs4 (bl3 hb) (by omega) _ _ _ _).drew⟩

set_option maxHeartbeats 3200000 in
theorem Step_out (l d e i b p h s x n : Int) (w : World) (hx : 0 ≤ x) (hx2 : x ≤ 4294967295) (hok : Ok l d e ⟨i, b, p, h⟩ s) (hc0 : cE l d e ⟨i, b, p, h⟩ s = 0) (hlt : b + i ≤ s) (hn : (if top l d < 2 * i then top l d else 2 * i) = n) (hn1 : 2 ≤ n) (hn2 : n ≤ 262144) :
    Calls Try.prog 12 #[.agg #[.int .i64 l, .int .i64 d, .int .i64 e], .agg #[.int .i64 i, .int .i64 b, .int .i64 p, .int .i64 h], .int .i64 s, .int .u32 x] w (Ret (.tuple #[.agg #[.int .i64 (bgn n s x).i, .int .i64 (bgn n s x).b, .int .i64 (bgn n s x).p, .int .i64 (bgn n s x).h], .bool false, .int .i64 0]) w) := by
  obtain ⟨hg, l1, l2, d1, d2, e1, e2, i1, i2, b1, b2, p1, p2, h1, h2, s1, s2, s3⟩ := hok
  simp only [] at i1 i2 b1 b2 p1 p2 h1 h2 s3
  have HG := Lib.hid hg
  clear hg
  obtain ⟨m1, m2, m3, m4⟩ := md_bd n x hn1 hn2
  have hP : (s == (bgn n s x).p) = false := by simp only [bgn, beq_eq_false_iff_ne]; omega
  go_enter Try.func12, Try.ntmps12
  go_wp2_with (go_at_call 24; (refine (chk_any _ _ _ _ _ _ _ _ _).mono ?_); rintro e w' ⟨rfl, hb⟩; rw [hc0]; obtain ⟨hc, hf⟩ := bcell hb; have hz : w.heap.size + 2 < w'.heap.size := (by have := hb.size; simp at this; omega))
  clear hc0
  have c : At3 w' (w.heap.size) (.int .i64 l) (.int .i64 d) (.int .i64 e) := ⟨by simp [go_sem, hc], by simp [go_sem, hc], by simp [go_sem, hc]⟩
  have r : At4 w' (w.heap.size + 1) (.int .i64 i) (.int .i64 b) (.int .i64 p) (.int .i64 h) := ⟨by simp [go_sem, hc], by simp [go_sem, hc], by simp [go_sem, hc], by simp [go_sem, hc]⟩
  have rF : Fz4 w' (w.heap.size + 1) := ⟨by simp [go_sem, hf], by simp [go_sem, hf], by simp [go_sem, hf], by simp [go_sem, hf]⟩
  have z : At4 w' (w.heap.size + 1 + 1) (.int .i64 0) (.int .i64 0) (.int .i64 0) (.int .i64 0) := ⟨by simp [go_sem, hc], by simp [go_sem, hc], by simp [go_sem, hc], by simp [go_sem, hc]⟩
  have zF : Fz4 w' (w.heap.size + 1 + 1) := ⟨by simp [go_sem, hf], by simp [go_sem, hf], by simp [go_sem, hf], by simp [go_sem, hf]⟩
  have n2 : ¬ (w.heap.size + 1 + 1 = w.heap.size) := by omega
  have r' := r
  have c' := c
  obtain ⟨ra0, ra1, ra2, ra3⟩ := r'
  obtain ⟨ca0, ca1, ca2⟩ := c'
  have hw2 : IntKind.i64.wrap (2 * i) = 2 * i := IntWalk.i64_in _ (by omega)
  go_region_with (first | (go_at_call 25; (refine (greatest_any _ _ _ _ HG.out).mono ?_); rintro e w2 ⟨rfl, hb2⟩; have hz2 : w.heap.size + 2 < w2.heap.size := (by have := hb2.size; first | omega | (simp at this; omega)); have ck := c.keepd hb2 (by first | omega | (simp; omega) | simp); obtain ⟨ck0, ck1, ck2⟩ := id ck; have rk := r.keepd hb2 (by first | omega | (simp; omega) | simp); obtain ⟨rk0, rk1, rk2, rk3⟩ := id rk; have rFk := rF.keepd hb2 (by first | omega | (simp; omega) | simp); obtain ⟨rfk0, rfk1, rfk2, rfk3⟩ := id rFk; have zk := z.keepd hb2 (by first | omega | (simp; omega) | simp); obtain ⟨zk0, zk1, zk2, zk3⟩ := id zk; have zFk := zF.keepd hb2 (by first | omega | (simp; omega) | simp); obtain ⟨zfk0, zfk1, zfk2, zfk3⟩ := id zFk) | (go_at_call 21; (refine (begin_any _ _ _ _ hn1 hn2 (by omega) (by omega) hx hx2).mono ?_); rintro e w3 ⟨rfl, hb3⟩; have hz3 : w.heap.size + 2 < w3.heap.size := (by have := hb3.size; first | omega | (simp at this; omega)); have rm := rk.keep hb3 (by first | omega | (simp; omega) | simp); obtain ⟨rm0, rm1, rm2, rm3⟩ := id rm; have rFm := rFk.keep hb3 (by first | omega | (simp; omega) | simp); obtain ⟨rfm0, rfm1, rfm2, rfm3⟩ := id rFm; have zm := zk.keep hb3 (by first | omega | (simp; omega) | simp); obtain ⟨zm0, zm1, zm2, zm3⟩ := id zm; have zFm := zFk.keep hb3 (by first | omega | (simp; omega) | simp); obtain ⟨zfm0, zfm1, zfm2, zfm3⟩ := id zFm))
  all_goals go_wp2
  all_goals go_region
  all_goals go_wp2
  all_goals exact bodyPost_ret (v := .tuple #[.agg #[.int .i64 (bgn n s x).i, .int .i64 (bgn n s x).b, .int .i64 (bgn n s x).p, .int .i64 (bgn n s x).h], .bool false, .int .i64 0]) (by simp [results, Try.results12, go_sem, *]) rfl ⟨rfl, (bs4 (bs4 (bt (bt (bl3 hb).drew hb2) hb3) (by omega) _ _ _ _) (by omega) _ _ _ _).drew⟩

theorem Step_any (l d e i b p h s x : Int) (w : World) (hx : 0 ≤ x) (hx2 : x ≤ 4294967295) :
    Calls Try.prog 12 #[.agg #[.int .i64 l, .int .i64 d, .int .i64 e], .agg #[.int .i64 i, .int .i64 b, .int .i64 p, .int .i64 h], .int .i64 s, .int .u32 x] w (Ret (.tuple #[.agg #[.int .i64 (spR l d e ⟨i, b, p, h⟩ s x).i, .int .i64 (spR l d e ⟨i, b, p, h⟩ s x).b, .int .i64 (spR l d e ⟨i, b, p, h⟩ s x).p, .int .i64 (spR l d e ⟨i, b, p, h⟩ s x).h], .bool (spB l d e ⟨i, b, p, h⟩ s x), .int .i64 (cE l d e ⟨i, b, p, h⟩ s)]) w) := by
  by_cases hc : cE l d e ⟨i, b, p, h⟩ s = 0
  · have hok := cE_out hc
    by_cases hlt : s < b + i
    · have hn : nxt l d ⟨i, b, p, h⟩ s x = ⟨i, b, p, h⟩ := by unfold nxt; exact if_neg (by simp only []; omega)
      have E1 : spR l d e ⟨i, b, p, h⟩ s x = ⟨i, b, p, h⟩ := by simp [spR, hc, hn]
      cases hsp : (s == p)
      · have E2 : spB l d e ⟨i, b, p, h⟩ s x = false := by simp only [spB, hc, hn, hsp]; simp
        rw [E1, E2, hc]
        exact Step_inn l d e i b p h s x w hok hc hlt hsp
      · have E2 : spB l d e ⟨i, b, p, h⟩ s x = quiet e ⟨i, b, p, h⟩ := by simp only [spB, hc, hn, hsp]; simp
        rw [E1, E2, hc]
        exact Step_iny l d e i b p h s x w hok hc hlt hsp
    · have hn : nxt l d ⟨i, b, p, h⟩ s x = bgn (if top l d < 2 * i then top l d else 2 * i) s x := by unfold nxt; exact if_pos (by simp only []; omega)
      obtain ⟨hg, l1, l2, d1, d2, e1, e2, i1, i2, b1, b2, p1, p2, h1, h2, s1, s2, s3⟩ := id hok
      simp only [] at i1 i2
      have ht := lpow l d.toNat (by omega) l1 l2
      have hq : 2 ≤ (if top l d < 2 * i then top l d else 2 * i) ∧ (if top l d < 2 * i then top l d else 2 * i) ≤ 262144 := by
        unfold top
        split <;> omega
      generalize hnn : (if top l d < 2 * i then top l d else 2 * i) = n at *
      have hm := md_bd n x hq.1 hq.2
      have E1 : spR l d e ⟨i, b, p, h⟩ s x = bgn n s x := by simp [spR, hc, hn]
      have E2 : spB l d e ⟨i, b, p, h⟩ s x = false := by
        have : (s == (bgn n s x).p) = false := by simp only [bgn, beq_eq_false_iff_ne]; omega
        simp [spB, hc, hn, this]
      rw [E1, E2, hc]
      exact Step_out l d e i b p h s x n w hx hx2 hok hc (by omega) hnn hq.1 hq.2
  · have E1 : spR l d e ⟨i, b, p, h⟩ s x = zR := by simp [spR, hc]
    have E2 : spB l d e ⟨i, b, p, h⟩ s x = false := by simp [spB, hc]
    rw [E1, E2]
    exact Step_no l d e i b p h s x _ w rfl (by simpa using hc)

set_option maxHeartbeats 1600000 in
theorem rStep_no (l d e i b p h s x E : Int) (w : World) (hc0 : cE l d e ⟨i, b, p, h⟩ s = E) (hE : (E != 0) = true) :
    Calls Try.prog 13 #[.agg #[.int .i64 l, .int .i64 d, .int .i64 e], .agg #[.int .i64 i, .int .i64 b, .int .i64 p, .int .i64 h], .int .i64 s, .int .u32 x] w (Ret (.tuple #[.agg #[.int .i64 0, .int .i64 0, .int .i64 0, .int .i64 0], .bool false, .int .i64 E]) w) := by
  go_enter Try.func13, Try.ntmps13
  go_wp2_with (go_at_call 27; (refine (rchk_any _ _ _ _ _ _ _ _ _).mono ?_); rintro e w' ⟨rfl, hb⟩; rw [hc0]; obtain ⟨hc, hf⟩ := bcell hb; have hz : w.heap.size + 2 < w'.heap.size := (by have := hb.size; simp at this; omega))
  exact bodyPost_ret (v := .tuple #[.agg #[.int .i64 0, .int .i64 0, .int .i64 0, .int .i64 0], .bool false, .int .i64 E]) (by simp [results, Try.results13, go_sem, *]) rfl ⟨rfl, bs4 (bl3 hb) (by omega) _ _ _ _⟩

set_option maxHeartbeats 1600000 in
theorem rStep_iny (l d e i b p h s x : Int) (w : World) (hok : Ok l d e ⟨i, b, p, h⟩ s) (hc0 : cE l d e ⟨i, b, p, h⟩ s = 0) (hlt : s < b + i) (hne : (s == p) = true) (q1 q2 : Bool) (hq1 : (e == 0) = q1) (hq2 : decide (h < e) = q2) :
    Calls Try.prog 13 #[.agg #[.int .i64 l, .int .i64 d, .int .i64 e], .agg #[.int .i64 i, .int .i64 b, .int .i64 p, .int .i64 h], .int .i64 s, .int .u32 x] w (Ret (.tuple #[.agg #[.int .i64 i, .int .i64 b, .int .i64 p, .int .i64 h], .bool (q1 || q2), .int .i64 0]) w) := by
  obtain ⟨hg, l1, l2, d1, d2, e1, e2, i1, i2, b1, b2, p1, p2, h1, h2, s1, s2, s3⟩ := hok
  simp only [] at i1 i2 b1 b2 p1 p2 h1 h2 s3
  cases q1
  all_goals
    clear hg
    go_enter Try.func13, Try.ntmps13
    go_wp2_with (go_at_call 27; (refine (rchk_any _ _ _ _ _ _ _ _ _).mono ?_); rintro e w' ⟨rfl, hb⟩; rw [hc0]; obtain ⟨hc, hf⟩ := bcell hb; have hz : w.heap.size + 2 < w'.heap.size := (by have := hb.size; simp at this; omega))
    clear hc0
    have c : At3 w' (w.heap.size) (.int .i64 l) (.int .i64 d) (.int .i64 e) := ⟨by simp [go_sem, hc], by simp [go_sem, hc], by simp [go_sem, hc]⟩
    have r : At4 w' (w.heap.size + 1) (.int .i64 i) (.int .i64 b) (.int .i64 p) (.int .i64 h) := ⟨by simp [go_sem, hc], by simp [go_sem, hc], by simp [go_sem, hc], by simp [go_sem, hc]⟩
    have rF : Fz4 w' (w.heap.size + 1) := ⟨by simp [go_sem, hf], by simp [go_sem, hf], by simp [go_sem, hf], by simp [go_sem, hf]⟩
    have z : At4 w' (w.heap.size + 1 + 1) (.int .i64 0) (.int .i64 0) (.int .i64 0) (.int .i64 0) := ⟨by simp [go_sem, hc], by simp [go_sem, hc], by simp [go_sem, hc], by simp [go_sem, hc]⟩
    have zF : Fz4 w' (w.heap.size + 1 + 1) := ⟨by simp [go_sem, hf], by simp [go_sem, hf], by simp [go_sem, hf], by simp [go_sem, hf]⟩
    have n2 : ¬ (w.heap.size + 1 + 1 = w.heap.size) := by omega
    obtain ⟨ra0, ra1, ra2, ra3⟩ := r
    obtain ⟨ca0, ca1, ca2⟩ := c
    obtain ⟨za0, za1, za2, za3⟩ := z
    obtain ⟨zf0, zf1, zf2, zf3⟩ := zF
    go_region
    go_wp2
    exact bodyPost_ret (v := .tuple #[.agg #[.int .i64 i, .int .i64 b, .int .i64 p, .int .i64 h], .bool _, .int .i64 0]) (by simp [results, Try.results13, go_sem, *]) rfl ⟨rfl, (bs4 (bl3 hb) (by omega) _ _ _ _).drew⟩

set_option maxHeartbeats 1600000 in
theorem rStep_inn (l d e i b p h s x : Int) (w : World) (hok : Ok l d e ⟨i, b, p, h⟩ s) (hc0 : cE l d e ⟨i, b, p, h⟩ s = 0) (hlt : s < b + i) (hne : (s == p) = false) :
    Calls Try.prog 13 #[.agg #[.int .i64 l, .int .i64 d, .int .i64 e], .agg #[.int .i64 i, .int .i64 b, .int .i64 p, .int .i64 h], .int .i64 s, .int .u32 x] w (Ret (.tuple #[.agg #[.int .i64 i, .int .i64 b, .int .i64 p, .int .i64 h], .bool (false), .int .i64 0]) w) := by
  obtain ⟨hg, l1, l2, d1, d2, e1, e2, i1, i2, b1, b2, p1, p2, h1, h2, s1, s2, s3⟩ := hok
  simp only [] at i1 i2 b1 b2 p1 p2 h1 h2 s3
  clear hg
  go_enter Try.func13, Try.ntmps13
  go_wp2_with (go_at_call 27; (refine (rchk_any _ _ _ _ _ _ _ _ _).mono ?_); rintro e w' ⟨rfl, hb⟩; rw [hc0]; obtain ⟨hc, hf⟩ := bcell hb; have hz : w.heap.size + 2 < w'.heap.size := (by have := hb.size; simp at this; omega))
  clear hc0
  have c : At3 w' (w.heap.size) (.int .i64 l) (.int .i64 d) (.int .i64 e) := ⟨by simp [go_sem, hc], by simp [go_sem, hc], by simp [go_sem, hc]⟩
  have r : At4 w' (w.heap.size + 1) (.int .i64 i) (.int .i64 b) (.int .i64 p) (.int .i64 h) := ⟨by simp [go_sem, hc], by simp [go_sem, hc], by simp [go_sem, hc], by simp [go_sem, hc]⟩
  have rF : Fz4 w' (w.heap.size + 1) := ⟨by simp [go_sem, hf], by simp [go_sem, hf], by simp [go_sem, hf], by simp [go_sem, hf]⟩
  have z : At4 w' (w.heap.size + 1 + 1) (.int .i64 0) (.int .i64 0) (.int .i64 0) (.int .i64 0) := ⟨by simp [go_sem, hc], by simp [go_sem, hc], by simp [go_sem, hc], by simp [go_sem, hc]⟩
  have zF : Fz4 w' (w.heap.size + 1 + 1) := ⟨by simp [go_sem, hf], by simp [go_sem, hf], by simp [go_sem, hf], by simp [go_sem, hf]⟩
  have n2 : ¬ (w.heap.size + 1 + 1 = w.heap.size) := by omega
  obtain ⟨ra0, ra1, ra2, ra3⟩ := r
  obtain ⟨ca0, ca1, ca2⟩ := c
  obtain ⟨za0, za1, za2, za3⟩ := z
  obtain ⟨zf0, zf1, zf2, zf3⟩ := zF
  go_region
  go_wp2
  exact bodyPost_ret (v := .tuple #[.agg #[.int .i64 i, .int .i64 b, .int .i64 p, .int .i64 h], .bool false, .int .i64 0]) (by simp [results, Try.results13, go_sem, *]) rfl ⟨rfl, (bs4 (bl3 hb) (by omega) _ _ _ _).drew⟩

set_option maxHeartbeats 3200000 in
theorem rStep_out (l d e i b p h s x n : Int) (w : World) (hx : 0 ≤ x) (hx2 : x ≤ 4294967295) (hok : Ok l d e ⟨i, b, p, h⟩ s) (hc0 : cE l d e ⟨i, b, p, h⟩ s = 0) (hlt : b + i ≤ s) (hn : (if top l d < 2 * i then top l d else 2 * i) = n) (hn1 : 2 ≤ n) (hn2 : n ≤ 262144) :
    Calls Try.prog 13 #[.agg #[.int .i64 l, .int .i64 d, .int .i64 e], .agg #[.int .i64 i, .int .i64 b, .int .i64 p, .int .i64 h], .int .i64 s, .int .u32 x] w (Ret (.tuple #[.agg #[.int .i64 (bgn n s x).i, .int .i64 (bgn n s x).b, .int .i64 (bgn n s x).p, .int .i64 (bgn n s x).h], .bool false, .int .i64 0]) w) := by
  obtain ⟨hg, l1, l2, d1, d2, e1, e2, i1, i2, b1, b2, p1, p2, h1, h2, s1, s2, s3⟩ := hok
  simp only [] at i1 i2 b1 b2 p1 p2 h1 h2 s3
  have HG := Lib.hid hg
  clear hg
  obtain ⟨m1, m2, m3, m4⟩ := md_bd n x hn1 hn2
  have hP : (s == (bgn n s x).p) = false := by simp only [bgn, beq_eq_false_iff_ne]; omega
  go_enter Try.func13, Try.ntmps13
  go_wp2_with (go_at_call 27; (refine (rchk_any _ _ _ _ _ _ _ _ _).mono ?_); rintro e w' ⟨rfl, hb⟩; rw [hc0]; obtain ⟨hc, hf⟩ := bcell hb; have hz : w.heap.size + 2 < w'.heap.size := (by have := hb.size; simp at this; omega))
  clear hc0
  have c : At3 w' (w.heap.size) (.int .i64 l) (.int .i64 d) (.int .i64 e) := ⟨by simp [go_sem, hc], by simp [go_sem, hc], by simp [go_sem, hc]⟩
  have r : At4 w' (w.heap.size + 1) (.int .i64 i) (.int .i64 b) (.int .i64 p) (.int .i64 h) := ⟨by simp [go_sem, hc], by simp [go_sem, hc], by simp [go_sem, hc], by simp [go_sem, hc]⟩
  have rF : Fz4 w' (w.heap.size + 1) := ⟨by simp [go_sem, hf], by simp [go_sem, hf], by simp [go_sem, hf], by simp [go_sem, hf]⟩
  have z : At4 w' (w.heap.size + 1 + 1) (.int .i64 0) (.int .i64 0) (.int .i64 0) (.int .i64 0) := ⟨by simp [go_sem, hc], by simp [go_sem, hc], by simp [go_sem, hc], by simp [go_sem, hc]⟩
  have zF : Fz4 w' (w.heap.size + 1 + 1) := ⟨by simp [go_sem, hf], by simp [go_sem, hf], by simp [go_sem, hf], by simp [go_sem, hf]⟩
  have n2 : ¬ (w.heap.size + 1 + 1 = w.heap.size) := by omega
  have r' := r
  have c' := c
  obtain ⟨ra0, ra1, ra2, ra3⟩ := r'
  obtain ⟨ca0, ca1, ca2⟩ := c'
  have hw2 : IntKind.i64.wrap (2 * i) = 2 * i := IntWalk.i64_in _ (by omega)
  go_region_with (first | (go_at_call 28; (refine (rGreatest_any _ _ _ _ HG.out).mono ?_); rintro e w2 ⟨rfl, hb2⟩; have hz2 : w.heap.size + 2 < w2.heap.size := (by have := hb2.size; first | omega | (simp at this; omega)); have ck := c.keepd hb2 (by first | omega | (simp; omega) | simp); obtain ⟨ck0, ck1, ck2⟩ := id ck; have rk := r.keepd hb2 (by first | omega | (simp; omega) | simp); obtain ⟨rk0, rk1, rk2, rk3⟩ := id rk; have rFk := rF.keepd hb2 (by first | omega | (simp; omega) | simp); obtain ⟨rfk0, rfk1, rfk2, rfk3⟩ := id rFk; have zk := z.keepd hb2 (by first | omega | (simp; omega) | simp); obtain ⟨zk0, zk1, zk2, zk3⟩ := id zk; have zFk := zF.keepd hb2 (by first | omega | (simp; omega) | simp); obtain ⟨zfk0, zfk1, zfk2, zfk3⟩ := id zFk) | (go_at_call 23; (refine (rbegin_any _ _ _ _ hn1 hn2 (by omega) (by omega) hx hx2).mono ?_); rintro e w3 ⟨rfl, hb3⟩; have hz3 : w.heap.size + 2 < w3.heap.size := (by have := hb3.size; first | omega | (simp at this; omega)); have rm := rk.keep hb3 (by first | omega | (simp; omega) | simp); obtain ⟨rm0, rm1, rm2, rm3⟩ := id rm; have rFm := rFk.keep hb3 (by first | omega | (simp; omega) | simp); obtain ⟨rfm0, rfm1, rfm2, rfm3⟩ := id rFm; have zm := zk.keep hb3 (by first | omega | (simp; omega) | simp); obtain ⟨zm0, zm1, zm2, zm3⟩ := id zm; have zFm := zFk.keep hb3 (by first | omega | (simp; omega) | simp); obtain ⟨zfm0, zfm1, zfm2, zfm3⟩ := id zFm))
  all_goals go_wp2
  all_goals go_region
  all_goals go_wp2
  all_goals exact bodyPost_ret (v := .tuple #[.agg #[.int .i64 (bgn n s x).i, .int .i64 (bgn n s x).b, .int .i64 (bgn n s x).p, .int .i64 (bgn n s x).h], .bool false, .int .i64 0]) (by simp [results, Try.results13, go_sem, *]) rfl ⟨rfl, (bs4 (bs4 (bt (bt (bl3 hb).drew hb2) hb3) (by omega) _ _ _ _) (by omega) _ _ _ _).drew⟩

theorem rStep_any (l d e i b p h s x : Int) (w : World) (hx : 0 ≤ x) (hx2 : x ≤ 4294967295) :
    Calls Try.prog 13 #[.agg #[.int .i64 l, .int .i64 d, .int .i64 e], .agg #[.int .i64 i, .int .i64 b, .int .i64 p, .int .i64 h], .int .i64 s, .int .u32 x] w (Ret (.tuple #[.agg #[.int .i64 (spR l d e ⟨i, b, p, h⟩ s x).i, .int .i64 (spR l d e ⟨i, b, p, h⟩ s x).b, .int .i64 (spR l d e ⟨i, b, p, h⟩ s x).p, .int .i64 (spR l d e ⟨i, b, p, h⟩ s x).h], .bool (spB l d e ⟨i, b, p, h⟩ s x), .int .i64 (cE l d e ⟨i, b, p, h⟩ s)]) w) := by
  by_cases hc : cE l d e ⟨i, b, p, h⟩ s = 0
  · have hok := cE_out hc
    by_cases hlt : s < b + i
    · have hn : nxt l d ⟨i, b, p, h⟩ s x = ⟨i, b, p, h⟩ := by unfold nxt; exact if_neg (by simp only []; omega)
      have E1 : spR l d e ⟨i, b, p, h⟩ s x = ⟨i, b, p, h⟩ := by simp [spR, hc, hn]
      cases hsp : (s == p)
      · have E2 : spB l d e ⟨i, b, p, h⟩ s x = false := by simp only [spB, hc, hn, hsp]; simp
        rw [E1, E2, hc]
        exact rStep_inn l d e i b p h s x w hok hc hlt hsp
      · have E2 : spB l d e ⟨i, b, p, h⟩ s x = quiet e ⟨i, b, p, h⟩ := by simp only [spB, hc, hn, hsp]; simp
        rw [E1, E2, hc]
        exact rStep_iny l d e i b p h s x w hok hc hlt hsp (e == 0) (decide (h < e)) rfl rfl
    · have hn : nxt l d ⟨i, b, p, h⟩ s x = bgn (if top l d < 2 * i then top l d else 2 * i) s x := by unfold nxt; exact if_pos (by simp only []; omega)
      obtain ⟨hg, l1, l2, d1, d2, e1, e2, i1, i2, b1, b2, p1, p2, h1, h2, s1, s2, s3⟩ := id hok
      simp only [] at i1 i2
      have ht := lpow l d.toNat (by omega) l1 l2
      have hq : 2 ≤ (if top l d < 2 * i then top l d else 2 * i) ∧ (if top l d < 2 * i then top l d else 2 * i) ≤ 262144 := by
        unfold top
        split <;> omega
      generalize hnn : (if top l d < 2 * i then top l d else 2 * i) = n at *
      have hm := md_bd n x hq.1 hq.2
      have E1 : spR l d e ⟨i, b, p, h⟩ s x = bgn n s x := by simp [spR, hc, hn]
      have E2 : spB l d e ⟨i, b, p, h⟩ s x = false := by
        have : (s == (bgn n s x).p) = false := by simp only [bgn, beq_eq_false_iff_ne]; omega
        simp [spB, hc, hn, this]
      rw [E1, E2, hc]
      exact rStep_out l d e i b p h s x n w hx hx2 hok hc (by omega) hnn hq.1 hq.2
  · have E1 : spR l d e ⟨i, b, p, h⟩ s x = zR := by simp [spR, hc]
    have E2 : spB l d e ⟨i, b, p, h⟩ s x = false := by simp [spB, hc]
    rw [E1, E2]
    exact rStep_no l d e i b p h s x _ w rfl (by simpa using hc)
end Go.Proofs.Ytcojimifplhodaa
