/- GossipOnce: in each interval at most one announcement is made, in its second half; states stay valid. -/
import Derived.Test.YtcojimifplhodaaR
import Derived.Lib.QuietBelow
namespace Go.Proofs.Ytcojimifplhodaa
open Go.RowKit Go.Sort

theorem bne_f {a b : Int} (h : (a != b) = false) : a = b := by simpa using h
/-- What holds of a state ahead of slot t, with m announcements made in its interval. -/
structure On (l d e : Int) (i b p h m t : Int) : Prop where
  v : vE l d e ⟨i, b, p, h⟩ = 0
  bt : b ≤ t
  m : m = 0 ∨ (m = 1 ∧ p < t)
theorem top_bd {l d e : Int} (hg : gok l d e = true) : l ≤ top l d ∧ top l d ≤ 262144 := by
  obtain ⟨l1, l2, d1, d2, e1, e2⟩ := gok_t hg
  exact lpow l d.toNat (by omega) l1 l2
theorem kn_top {l d e i : Int} (hg : gok l d e = true) (h : kn i l (d + 1).toNat = true) : i ≤ top l d ∧ kn (if top l d < 2 * i then top l d else 2 * i) l (d + 1).toNat = true := by
  obtain ⟨l1, l2, d1, d2, e1, e2⟩ := gok_t hg
  obtain ⟨j, hj, rfl⟩ := (kn_iff _ _ _).1 h
  have hm : ∀ a b : Nat, a ≤ b → b ≤ 8 → l * 2 ^ a ≤ l * 2 ^ b := fun a b hab hb => by
    apply Int.mul_le_mul_of_nonneg_left _ (by omega)
    exact_mod_cast Nat.pow_le_pow_right (by omega) hab
  constructor
  · exact hm j d.toNat (by omega) (by omega)
  · by_cases hjd : j = d.toNat
    · subst hjd
      have : top l d < 2 * (l * 2 ^ d.toNat) := by
        have := (lpow l d.toNat (by omega) l1 l2).1
        unfold top; omega
      rw [if_pos this]
      exact (kn_iff _ _ _).2 ⟨d.toNat, by omega, rfl⟩
    · have h2 : 2 * (l * 2 ^ j) = l * 2 ^ (j + 1) := by rw [Int.pow_succ, Int.mul_left_comm, Int.mul_comm 2]
      have h3 := hm (j + 1) d.toNat (by omega) (by omega)
      unfold top
      rw [if_neg (by omega), h2]
      exact (kn_iff _ _ _).2 ⟨j + 1, by omega, rfl⟩

theorem vE_mk {l d e : Int} {r : Rm} (hg : gok l d e = true) (hk : kn r.i l (d + 1).toNat = true) (h : 0 ≤ r.b ∧ r.b ≤ 1073741824 ∧ r.b + r.i / 2 ≤ r.p ∧ r.p < r.b + r.i ∧ 0 ≤ r.h ∧ r.h ≤ 1048576) : vE l d e r = 0 :=
  (vE_0 (i := r.i) (b := r.b) (p := r.p) (h := r.h) hg hk h).symm
theorem vE_kn {l d e : Int} {r : Rm} (h : vE l d e r = 0) : kn r.i l (d + 1).toNat = true := by
  have := (vE_out h).2
  unfold vok at this
  simp only [Bool.and_eq_true] at this
  exact this.1
theorem vE_bgn {l d e n t x : Int} (hg : gok l d e = true) (hk : kn n l (d + 1).toNat = true) (h0 : 0 ≤ t) (h1 : t ≤ 1073741824) : vE l d e (bgn n t x) = 0 := by
  obtain ⟨l1, l2, d1, d2, e1, e2⟩ := gok_t hg
  obtain ⟨i1, i2⟩ := kn_bd hk (by omega) l1 l2
  have hm := md_bd n x (by omega) (by omega)
  refine vE_mk hg hk ?_
  simp only [bgn]; omega
theorem once_step {l d e i b p h m t x : Int} (ho : On l d e i b p h m t) (ht : t ≤ 1073741824) (hx : 0 ≤ x) (hx2 : x ≤ 4294967295) : ∃ (i1 b1 p1 h1 : Int) (q1 : Bool),
    Hid (∀ w, Calls Try.prog 12 #[.agg #[.int .i64 l, .int .i64 d, .int .i64 e], .agg #[.int .i64 i, .int .i64 b, .int .i64 p, .int .i64 h], .int .i64 t, .int .u32 x] w (Ret (.tuple #[.agg #[.int .i64 i1, .int .i64 b1, .int .i64 p1, .int .i64 h1], .bool q1, .int .i64 0]) w)) ∧
    vE l d e ⟨i1, b1, p1, h1⟩ = 0 ∧ i1 ≤ top l d ∧ b1 ≤ t ∧ (q1 = true → t < b1 + i1 ∧ i1 ≤ 2 * (t - b1) + 1 ∧ p1 = t) ∧ (b1 ≠ b → q1 = false) ∧ (b1 = b → p1 = p) := by
  obtain ⟨hv, hbt, hm⟩ := ho
  obtain ⟨hg, l1, l2, d1, d2, e1, e2, i1, i2, b1, b2, p1, p2, h1, h2⟩ := vE_ok hv
  simp only [] at i1 i2 b1 b2 p1 p2 h1 h2
  have hc : cE l d e ⟨i, b, p, h⟩ t = 0 := cE_ok hv (by omega) ht hbt
  have hst := fun w => Step_any l d e i b p h t x w hx hx2
  have hk := vE_kn hv
  have hkt := kn_top hg hk
  simp only [] at hk hkt
  refine ⟨_, _, _, _, spB l d e ⟨i, b, p, h⟩ t x, Lib.hid (by rw [hc] at hst; exact hst), ?_⟩
  by_cases hlt : b + i ≤ t
  · have E0 : nxt l d ⟨i, b, p, h⟩ t x = bgn (if top l d < 2 * i then top l d else 2 * i) t x := by unfold nxt; exact if_pos (by simp only []; omega)
    have hkn := hkt.2
    have hn : 2 ≤ (if top l d < 2 * i then top l d else 2 * i) ∧ (if top l d < 2 * i then top l d else 2 * i) ≤ 262144 ∧ (if top l d < 2 * i then top l d else 2 * i) ≤ top l d := by
      have := top_bd hg
      split <;> omega
    generalize (if top l d < 2 * i then top l d else 2 * i) = n at *
    have hmd := md_bd n x hn.1 hn.2.1
    have E1 : spR l d e ⟨i, b, p, h⟩ t x = bgn n t x := by simp [spR, hc, E0]
    have E2 : spB l d e ⟨i, b, p, h⟩ t x = false := by
      have : (t == (bgn n t x).p) = false := by simp only [bgn, beq_eq_false_iff_ne]; omega
      simp [spB, hc, E0, this]
    rw [E1, E2]
    refine ⟨vE_bgn (n := n) (t := t) (x := x) hg hkn (by omega) ht, ?_⟩
    simp only [bgn]
    exact ⟨hn.2.2, Int.le_refl _, by simp, by simp, fun h => by omega⟩
  · have E0 : nxt l d ⟨i, b, p, h⟩ t x = ⟨i, b, p, h⟩ := by unfold nxt; exact if_neg (by simp only []; omega)
    have E1 : spR l d e ⟨i, b, p, h⟩ t x = ⟨i, b, p, h⟩ := by simp [spR, hc, E0]
    have E2 : spB l d e ⟨i, b, p, h⟩ t x = (t == p && quiet e ⟨i, b, p, h⟩) := by simp [spB, hc, E0]
    rw [E1, E2]
    refine ⟨hv, hkt.1, hbt, fun hq => ?_, fun h => absurd rfl h, fun _ => rfl⟩
    simp only [Bool.and_eq_true, beq_iff_eq] at hq
    obtain ⟨q1, _⟩ := hq
    dsimp only
    omega
theorem once_hear {l d e i b p h t x : Int} (q : Bool) (hv : vE l d e ⟨i, b, p, h⟩ = 0) (hbt : b ≤ t) (ht : t ≤ 1073741824) (hx : 0 ≤ x) (hx2 : x ≤ 4294967295) : ∃ (i1 b1 p1 h1 : Int),
    Hid (∀ w, Calls Try.prog 14 #[.agg #[.int .i64 l, .int .i64 d, .int .i64 e], .agg #[.int .i64 i, .int .i64 b, .int .i64 p, .int .i64 h], .bool q, .int .i64 t, .int .u32 x] w (Ret (.tuple #[.agg #[.int .i64 i1, .int .i64 b1, .int .i64 p1, .int .i64 h1], .int .i64 0]) w)) ∧
    vE l d e ⟨i1, b1, p1, h1⟩ = 0 ∧ b1 ≤ t ∧ (b1 = b → p1 = p ∨ b = t) := by
  obtain ⟨hg, l1, l2, d1, d2, e1, e2, i1, i2, b1, b2, p1, p2, h1, h2⟩ := vE_ok hv
  simp only [] at i1 i2 b1 b2 p1 p2 h1 h2
  have hc : cE l d e ⟨i, b, p, h⟩ t = 0 := cE_ok hv (by omega) ht hbt
  have hst := fun w => Hear_any l d e i b p h t x q w hx hx2
  have hk := vE_kn hv
  simp only [] at hk
  refine ⟨_, _, _, _, Lib.hid (by rw [hc] at hst; exact hst), ?_⟩
  have E1 : hrR l d e ⟨i, b, p, h⟩ q t x = hr l ⟨i, b, p, h⟩ q t x := by simp [hrR, hc]
  rw [E1]
  unfold hr
  by_cases hq : q = true
  · rw [if_pos hq]
    refine ⟨vE_mk hg hk ?_, hbt, fun _ => .inl rfl⟩
    simp only []
    split <;> omega
  · rw [if_neg hq]
    by_cases hl : l < i
    · rw [if_pos hl]
      refine ⟨vE_bgn (n := l) (t := t) (x := x) hg ((kn_iff l l _).2 ⟨0, by omega, by simp⟩) (by omega) ht, ?_⟩
      simp only [bgn]
      exact ⟨Int.le_refl _, fun h => .inr h.symm⟩
    · rw [if_neg hl]
      exact ⟨hv, hbt, fun _ => .inl rfl⟩

set_option maxHeartbeats 1600000 in
theorem once_long (l d e s x : Int) (n cap : Nat) (a : Option Addr) (w : World) (hn : 200 < n ∨ 536870912 < s) (hn2 : n ≤ 9223372036854775807) : Calls Try.prog 4 #[.agg #[.int .i64 l, .int .i64 d, .int .i64 e], .int .i64 s, .int .u32 x, .slice a n cap] w (Ret (.bool true) w) := by
  rcases hn with hn | hn
  all_goals
    go_enter Try.func4, Try.ntmps4
    go_wp2_with (first | (go_at_call 9; (refine (awake_true _).mono ?_); rintro e w1 ⟨rfl, hb1⟩; obtain ⟨hc1, hf1⟩ := bcell hb1; have hz1 : w.heap.size < w1.heap.size := (by have := hb1.size; simp at this; omega)) | (go_at_call 9; (refine (awake_true _).mono ?_); rintro e w9 ⟨rfl, hb9⟩))
    all_goals first
      | (exfalso; omega)
      | (go_ret; exact ⟨rfl, bt (bl1 hb1) hb9⟩)
set_option maxHeartbeats 1600000 in
theorem once_bad (l d e s x E : Int) (n cap : Nat) (a : Option Addr) (w : World) (hn : n ≤ 200) (hs : s ≤ 536870912) (hx : 0 ≤ x) (hx2 : x ≤ 4294967295) (hE : stE l d e s = E) (hE0 : (E != 0) = true) (hR : stR l d e s x = zR) : Calls Try.prog 4 #[.agg #[.int .i64 l, .int .i64 d, .int .i64 e], .int .i64 s, .int .u32 x, .slice a n cap] w (Ret (.bool true) w) := by
  go_enter Try.func4, Try.ntmps4
  go_wp2_with (first | (go_at_call 9; (refine (awake_true _).mono ?_); rintro e w1 ⟨rfl, hb1⟩; obtain ⟨hc1, hf1⟩ := bcell hb1; have hz1 : w.heap.size < w1.heap.size := (by have := hb1.size; simp at this; omega)) | (go_at_call 10; (refine (Start_any _ _ _ _ _ _ hx hx2).mono ?_); rw [hE, hR]; rintro e w2 ⟨rfl, hb2⟩; obtain ⟨hc2, hf2⟩ := bcell hb2; have hz2 : w.heap.size < w2.heap.size := (by have := hb2.size; omega)))
  all_goals first
    | (exfalso; omega)
    | (go_ret; exact ⟨rfl, bt (bt (bl1 hb1) hb2) (bl0 _)⟩)

set_option maxRecDepth 100000 in
set_option maxHeartbeats 6400000 in
theorem once_m (l d e s x : Int) (n cap b off : Nat) (S : Nat → Bool × Bool × Int) (w : World) (hn : n ≤ 200) (hE : stE l d e s = 0) (hs : 0 ≤ s) (hs2 : s ≤ 536870912)
   (hx : 0 ≤ x) (hx2 : x ≤ 4294967295) (hbw : b < w.heap.size) (hS : ∀ i, i < n → 0 ≤ (S i).2.2 ∧ (S i).2.2 ≤ 4294967295) (R : Rm) (hR : stR l d e s x = R) (hO : On l d e R.i R.b R.p R.h 0 s)
   (hL : Hid (∀ i, i < n → At3c w b (off + i * 3) (.bool (S i).1) (.bool (S i).2.1) (.int .u32 (S i).2.2)))
   : Calls Try.prog 4 #[.agg #[.int .i64 l, .int .i64 d, .int .i64 e], .int .i64 s, .int .u32 x, .slice (some ⟨b, off, none⟩) n cap] w (Ret (.bool true) w) := by
  go_enter Try.func4, Try.ntmps4
  go_wp2_with (first | (go_at_call 9; (refine (awake_true _).mono ?_); rintro e w1 ⟨rfl, hb1⟩; obtain ⟨hc1, hf1⟩ := bcell hb1; have hz1 : w.heap.size < w1.heap.size := (by have := hb1.size; simp at this; omega)) | (go_at_call 10; (refine (Start_any _ _ _ _ _ _ hx hx2).mono ?_); rw [hE, hR]; rintro e w2 ⟨rfl, hb2⟩; obtain ⟨hc2, hf2⟩ := bcell hb2; have hz2 : w.heap.size < w2.heap.size := (by have := hb2.size; omega)))
  all_goals try (exfalso; omega)
  have c0 : At3 (w2.alloc (.cells #[.int .i64 R.i, .int .i64 R.b, .int .i64 R.p, .int .i64 R.h] 28)) w.heap.size (.int .i64 l) (.int .i64 d) (.int .i64 e) := At3.al ⟨by simp [go_sem, *], by simp [go_sem, *], by simp [go_sem, *]⟩ hz2 _
  have ra0 : At4 (w2.alloc (.cells #[.int .i64 R.i, .int .i64 R.b, .int .i64 R.p, .int .i64 R.h] 28)) w2.heap.size (.int .i64 R.i) (.int .i64 R.b) (.int .i64 R.p) (.int .i64 R.h) := At4.nw _ _ _ _
  have rf0 : Fz4 (w2.alloc (.cells #[.int .i64 R.i, .int .i64 R.b, .int .i64 R.p, .int .i64 R.h] 28)) w2.heap.size := Fz4.nw _ _ _ _
  have B0 : Below w.heap.size w (w2.alloc (.cells #[.int .i64 R.i, .int .i64 R.b, .int .i64 R.p, .int .i64 R.h] 28)) := bt (bt (bl1 hb1) hb2) (bl0 _)
  clear hb1 hb2 hc1 hc2 hf1 hf2
  go_loopw [10, 11, 12, 44] (fun e1 bg md c wr => ∃ k : Nat, ∃ i b p h m : Int, k ≤ n ∧ c = .int .i64 k ∧ e1 = .int .i64 0 ∧ bg = .int .i64 b ∧ md = .int .i64 m ∧ On l d e i b p h m (s + k) ∧ At3 wr w.heap.size (.int .i64 l) (.int .i64 d) (.int .i64 e) ∧ At4 wr w2.heap.size (.int .i64 i) (.int .i64 b) (.int .i64 p) (.int .i64 h) ∧ Fz4 wr w2.heap.size ∧ Below w.heap.size w wr ∧ w2.heap.size < wr.heap.size) (fun _ _ _ c _ => n - (intOf c).toNat)
  case atStart => exact ⟨0, _, _, _, _, 0, by omega, rfl, rfl, rfl, rfl, by simpa using hO, c0, ra0, rf0, B0, by simp⟩
  case round =>
    clear c0 ra0 rf0 B0
    obtain ⟨k, i, b, p, h, m, hk, rfl, rfl, rfl, rfl, ho, ck, ra, raF, Bk, zk⟩ := hrel
    by_cases hlt : k < n
    · obtain ⟨l0, l1, l2⟩ := (hL.out k hlt).keep Bk hbw
      obtain ⟨y3a, y3b⟩ := hS k hlt
      generalize (S k).1 = y1 at l0
      generalize (S k).2.1 = y2 at l1
      generalize (S k).2.2 = y3 at l2 y3a y3b
      have hl4 : (k : Int) < n := by omega
      obtain ⟨i1, b1, p1, h1, q1, H12, hv1, ht1, hbt1, hq1, hqb, hbp⟩ := once_step (x := y3) ho (by omega) y3a y3b
      obtain ⟨hg, _, _, _, _, _, _, j1, j2, j3, j4, j5, j6, j7, j8⟩ := vE_ok hv1
      simp only [] at j1 j2 j3 j4 j5 j6 j7 j8
      have hm := ho.m
      have hm1 : 0 ≤ m ∧ m ≤ 1 := by omega
      obtain ⟨hma, hmb⟩ := hm1
      cases q1 <;> cases y1
      · have HP := Lib.hid (And.intro hbp hm)
        clear hq1 hqb hbp hm
        have cA := ck.al (by omega) ((.cells #[.bool false, .bool y2, .int .u32 y3] 33))
        have raA := ra.al (by omega) ((.cells #[.bool false, .bool y2, .int .u32 y3] 33))
        have raFA := raF.al (by omega) ((.cells #[.bool false, .bool y2, .int .u32 y3] 33))
        have sA : At3 (wr.alloc (.cells #[.bool false, .bool y2, .int .u32 y3] 33)) wr.heap.size (.bool false) (.bool y2) (.int .u32 y3) := At3.nw _ _ _
        have BA : Below w.heap.size w (wr.alloc (.cells #[.bool false, .bool y2, .int .u32 y3] 33)) := bt Bk (bl0 _)
        have zA : w2.heap.size < (wr.alloc (.cells #[.bool false, .bool y2, .int .u32 y3] 33)).heap.size := by simp; omega
        have yyA : wr.heap.size < (wr.alloc (.cells #[.bool false, .bool y2, .int .u32 y3] 33)).heap.size := by simp
        obtain ⟨cA_0, cA_1, cA_2⟩ := id cA
        obtain ⟨raA_0, raA_1, raA_2, raA_3⟩ := id raA
        obtain ⟨sA_0, sA_1, sA_2⟩ := id sA
        go_wp2_with (first | (go_at_call 12; (refine (H12.out _).mono ?_); rintro e v1 ⟨rfl, g1⟩; have c1 := cA.keep g1 (by first | assumption | omega); have ra1 := raA.keep g1 (by first | assumption | omega); have raF1 := raFA.keep g1 (by first | assumption | omega); have s1 := sA.keep g1 (by first | assumption | omega); have z1 : w2.heap.size < v1.heap.size := (by have := g1.size; omega); have yy1 : wr.heap.size < v1.heap.size := (by have := g1.size; omega); obtain ⟨ra1_0, ra1_1, ra1_2, ra1_3⟩ := id ra1; obtain ⟨raF1_0, raF1_1, raF1_2, raF1_3⟩ := id raF1; have c1s := c1.oth4 (b := w2.heap.size) (by omega) (.int .i64 i1) (.int .i64 b1) (.int .i64 p1) (.int .i64 h1); have ra1s := ra1.st (.int .i64 i1) (.int .i64 b1) (.int .i64 p1) (.int .i64 h1); have raF1s := raF1.st (.int .i64 i1) (.int .i64 b1) (.int .i64 p1) (.int .i64 h1); have s1s := s1.oth4 (b := w2.heap.size) (by omega) (.int .i64 i1) (.int .i64 b1) (.int .i64 p1) (.int .i64 h1); have B1s : Below w.heap.size w ((((v1.setCell ⟨w2.heap.size, 0, none⟩ (.int .i64 i1)).setCell ⟨w2.heap.size, 1, none⟩ (.int .i64 b1)).setCell ⟨w2.heap.size, 2, none⟩ (.int .i64 p1)).setCell ⟨w2.heap.size, 3, none⟩ (.int .i64 h1)) := bs4 (bt BA g1) (by omega) _ _ _ _; have z1s : w2.heap.size < ((((v1.setCell ⟨w2.heap.size, 0, none⟩ (.int .i64 i1)).setCell ⟨w2.heap.size, 1, none⟩ (.int .i64 b1)).setCell ⟨w2.heap.size, 2, none⟩ (.int .i64 p1)).setCell ⟨w2.heap.size, 3, none⟩ (.int .i64 h1)).heap.size := (by simp; omega); have yy1s : wr.heap.size < ((((v1.setCell ⟨w2.heap.size, 0, none⟩ (.int .i64 i1)).setCell ⟨w2.heap.size, 1, none⟩ (.int .i64 b1)).setCell ⟨w2.heap.size, 2, none⟩ (.int .i64 p1)).setCell ⟨w2.heap.size, 3, none⟩ (.int .i64 h1)).heap.size := (by simp; omega); clear cA raA raFA sA cA_0 cA_1 cA_2 raA_0 raA_1 raA_2 raA_3 sA_0 sA_1 sA_2 c1 ra1 raF1 s1 BA zA yyA g1; obtain ⟨c1s_0, c1s_1, c1s_2⟩ := id c1s; obtain ⟨ra1s_0, ra1s_1, ra1s_2, ra1s_3⟩ := id ra1s))
        have k0 := cell_regrown c1s_0
        have k1 := cell_regrown c1s_1
        have k2 := cell_regrown c1s_2
        have k3 := cell_regrown ra1s_0
        have k4 := cell_regrown ra1s_1
        have k5 := cell_regrown ra1s_2
        have k6 := cell_regrown ra1s_3
        have cV : ∀ dq os, Calls Try.prog 16 #[.agg #[.int .i64 l, .int .i64 d, .int .i64 e], .agg #[.int .i64 i1, .int .i64 b1, .int .i64 p1, .int .i64 h1]] (grow (redrawn ((((v1.setCell ⟨w2.heap.size, 0, none⟩ (.int .i64 i1)).setCell ⟨w2.heap.size, 1, none⟩ (.int .i64 b1)).setCell ⟨w2.heap.size, 2, none⟩ (.int .i64 p1)).setCell ⟨w2.heap.size, 3, none⟩ (.int .i64 h1)) dq) os) fun e w'' => e = .returned (.int .i64 0) ∧ ∃ p : Regrown, w'' = grow (redrawn ((((v1.setCell ⟨w2.heap.size, 0, none⟩ (.int .i64 i1)).setCell ⟨w2.heap.size, 1, none⟩ (.int .i64 b1)).setCell ⟨w2.heap.size, 2, none⟩ (.int .i64 p1)).setCell ⟨w2.heap.size, 3, none⟩ (.int .i64 h1)) p.d) p.os := fun dq os => Calls.regrown_of (by have hh := valid_any l d e i1 b1 p1 h1 (grow (redrawn ((((v1.setCell ⟨w2.heap.size, 0, none⟩ (.int .i64 i1)).setCell ⟨w2.heap.size, 1, none⟩ (.int .i64 b1)).setCell ⟨w2.heap.size, 2, none⟩ (.int .i64 p1)).setCell ⟨w2.heap.size, 3, none⟩ (.int .i64 h1)) dq) os); rw [hv1] at hh; exact hh)
        have cG : ∀ dq os, Calls Try.prog 17 #[.agg #[.int .i64 l, .int .i64 d, .int .i64 e]] (grow (redrawn ((((v1.setCell ⟨w2.heap.size, 0, none⟩ (.int .i64 i1)).setCell ⟨w2.heap.size, 1, none⟩ (.int .i64 b1)).setCell ⟨w2.heap.size, 2, none⟩ (.int .i64 p1)).setCell ⟨w2.heap.size, 3, none⟩ (.int .i64 h1)) dq) os) fun e w'' => e = .returned (.int .i64 (top l d)) ∧ ∃ p : Regrown, w'' = grow (redrawn ((((v1.setCell ⟨w2.heap.size, 0, none⟩ (.int .i64 i1)).setCell ⟨w2.heap.size, 1, none⟩ (.int .i64 b1)).setCell ⟨w2.heap.size, 2, none⟩ (.int .i64 p1)).setCell ⟨w2.heap.size, 3, none⟩ (.int .i64 h1)) p.d) p.os := fun dq os => Calls.regrown_of (Greatest_any l d e _ hg)
        refine wp_region_quiet_below (by kernel_rfl) (by kernel_rfl) ?_
        repeat (quiet_step (first | exact cV _ _ | exact cG _ _))
        refine wpQuiet_nil ?_
        intro wq hwq
        obtain ⟨pq, hpq⟩ := hwq
        have hbq : Below ((((v1.setCell ⟨w2.heap.size, 0, none⟩ (.int .i64 i1)).setCell ⟨w2.heap.size, 1, none⟩ (.int .i64 b1)).setCell ⟨w2.heap.size, 2, none⟩ (.int .i64 p1)).setCell ⟨w2.heap.size, 3, none⟩ (.int .i64 h1)).heap.size ((((v1.setCell ⟨w2.heap.size, 0, none⟩ (.int .i64 i1)).setCell ⟨w2.heap.size, 1, none⟩ (.int .i64 b1)).setCell ⟨w2.heap.size, 2, none⟩ (.int .i64 p1)).setCell ⟨w2.heap.size, 3, none⟩ (.int .i64 h1)) wq := by rw [hpq]; exact below_regrown _ _ _
        clear hpq cV cG k0 k1 k2 k3 k4 k5 k6
        have cq := c1s.keep hbq (by first | assumption | omega)
        have raq := ra1s.keep hbq (by first | assumption | omega)
        have raFq := raF1s.keep hbq (by first | assumption | omega)
        have sq := s1s.keep hbq (by first | assumption | omega)
        have zq : w2.heap.size < wq.heap.size := (by have := hbq.size; omega)
        have yyq : wr.heap.size < wq.heap.size := (by have := hbq.size; omega)
        have Bq : Below w.heap.size w wq := bt B1s hbq
        clear c1s ra1s raF1s s1s c1s_0 c1s_1 c1s_2 ra1s_0 ra1s_1 ra1s_2 ra1s_3 ra1_0 ra1_1 ra1_2 ra1_3 raF1_0 raF1_1 raF1_2 raF1_3 B1s z1s yy1s hbq
        obtain ⟨cq_0, cq_1, cq_2⟩ := id cq
        obtain ⟨raq_0, raq_1, raq_2, raq_3⟩ := id raq
        obtain ⟨sq_0, sq_1, sq_2⟩ := id sq
        go_wp2
        all_goals
          go_roundw
          case rel =>
            (try have hF := bne_f (a := b1) (b := b) (by assumption))
            skip
            skip
            exact ⟨k + 1, _, _, _, _, _, by omega, by go_num, rfl, by go_num, rfl, ⟨hv1, by omega, by have := HP.out; omega⟩, cq, raq, raFq, Bq, zq⟩
          case measure => simp [intOf]; omega
      · have HP := Lib.hid (And.intro hbp hm)
        clear hq1 hqb hbp hm
        have cA := ck.al (by omega) ((.cells #[.bool true, .bool y2, .int .u32 y3] 33))
        have raA := ra.al (by omega) ((.cells #[.bool true, .bool y2, .int .u32 y3] 33))
        have raFA := raF.al (by omega) ((.cells #[.bool true, .bool y2, .int .u32 y3] 33))
        have sA : At3 (wr.alloc (.cells #[.bool true, .bool y2, .int .u32 y3] 33)) wr.heap.size (.bool true) (.bool y2) (.int .u32 y3) := At3.nw _ _ _
        have BA : Below w.heap.size w (wr.alloc (.cells #[.bool true, .bool y2, .int .u32 y3] 33)) := bt Bk (bl0 _)
        have zA : w2.heap.size < (wr.alloc (.cells #[.bool true, .bool y2, .int .u32 y3] 33)).heap.size := by simp; omega
        have yyA : wr.heap.size < (wr.alloc (.cells #[.bool true, .bool y2, .int .u32 y3] 33)).heap.size := by simp
        obtain ⟨cA_0, cA_1, cA_2⟩ := id cA
        obtain ⟨raA_0, raA_1, raA_2, raA_3⟩ := id raA
        obtain ⟨sA_0, sA_1, sA_2⟩ := id sA
        go_wp2_with (first | (go_at_call 12; (refine (H12.out _).mono ?_); rintro e v1 ⟨rfl, g1⟩; have c1 := cA.keep g1 (by first | assumption | omega); have ra1 := raA.keep g1 (by first | assumption | omega); have raF1 := raFA.keep g1 (by first | assumption | omega); have s1 := sA.keep g1 (by first | assumption | omega); have z1 : w2.heap.size < v1.heap.size := (by have := g1.size; omega); have yy1 : wr.heap.size < v1.heap.size := (by have := g1.size; omega); obtain ⟨ra1_0, ra1_1, ra1_2, ra1_3⟩ := id ra1; obtain ⟨raF1_0, raF1_1, raF1_2, raF1_3⟩ := id raF1; have c1s := c1.oth4 (b := w2.heap.size) (by omega) (.int .i64 i1) (.int .i64 b1) (.int .i64 p1) (.int .i64 h1); have ra1s := ra1.st (.int .i64 i1) (.int .i64 b1) (.int .i64 p1) (.int .i64 h1); have raF1s := raF1.st (.int .i64 i1) (.int .i64 b1) (.int .i64 p1) (.int .i64 h1); have s1s := s1.oth4 (b := w2.heap.size) (by omega) (.int .i64 i1) (.int .i64 b1) (.int .i64 p1) (.int .i64 h1); have B1s : Below w.heap.size w ((((v1.setCell ⟨w2.heap.size, 0, none⟩ (.int .i64 i1)).setCell ⟨w2.heap.size, 1, none⟩ (.int .i64 b1)).setCell ⟨w2.heap.size, 2, none⟩ (.int .i64 p1)).setCell ⟨w2.heap.size, 3, none⟩ (.int .i64 h1)) := bs4 (bt BA g1) (by omega) _ _ _ _; have z1s : w2.heap.size < ((((v1.setCell ⟨w2.heap.size, 0, none⟩ (.int .i64 i1)).setCell ⟨w2.heap.size, 1, none⟩ (.int .i64 b1)).setCell ⟨w2.heap.size, 2, none⟩ (.int .i64 p1)).setCell ⟨w2.heap.size, 3, none⟩ (.int .i64 h1)).heap.size := (by simp; omega); have yy1s : wr.heap.size < ((((v1.setCell ⟨w2.heap.size, 0, none⟩ (.int .i64 i1)).setCell ⟨w2.heap.size, 1, none⟩ (.int .i64 b1)).setCell ⟨w2.heap.size, 2, none⟩ (.int .i64 p1)).setCell ⟨w2.heap.size, 3, none⟩ (.int .i64 h1)).heap.size := (by simp; omega); clear cA raA raFA sA cA_0 cA_1 cA_2 raA_0 raA_1 raA_2 raA_3 sA_0 sA_1 sA_2 c1 ra1 raF1 s1 BA zA yyA g1; obtain ⟨c1s_0, c1s_1, c1s_2⟩ := id c1s; obtain ⟨ra1s_0, ra1s_1, ra1s_2, ra1s_3⟩ := id ra1s))
        have k0 := cell_regrown c1s_0
        have k1 := cell_regrown c1s_1
        have k2 := cell_regrown c1s_2
        have k3 := cell_regrown ra1s_0
        have k4 := cell_regrown ra1s_1
        have k5 := cell_regrown ra1s_2
        have k6 := cell_regrown ra1s_3
        have cV : ∀ dq os, Calls Try.prog 16 #[.agg #[.int .i64 l, .int .i64 d, .int .i64 e], .agg #[.int .i64 i1, .int .i64 b1, .int .i64 p1, .int .i64 h1]] (grow (redrawn ((((v1.setCell ⟨w2.heap.size, 0, none⟩ (.int .i64 i1)).setCell ⟨w2.heap.size, 1, none⟩ (.int .i64 b1)).setCell ⟨w2.heap.size, 2, none⟩ (.int .i64 p1)).setCell ⟨w2.heap.size, 3, none⟩ (.int .i64 h1)) dq) os) fun e w'' => e = .returned (.int .i64 0) ∧ ∃ p : Regrown, w'' = grow (redrawn ((((v1.setCell ⟨w2.heap.size, 0, none⟩ (.int .i64 i1)).setCell ⟨w2.heap.size, 1, none⟩ (.int .i64 b1)).setCell ⟨w2.heap.size, 2, none⟩ (.int .i64 p1)).setCell ⟨w2.heap.size, 3, none⟩ (.int .i64 h1)) p.d) p.os := fun dq os => Calls.regrown_of (by have hh := valid_any l d e i1 b1 p1 h1 (grow (redrawn ((((v1.setCell ⟨w2.heap.size, 0, none⟩ (.int .i64 i1)).setCell ⟨w2.heap.size, 1, none⟩ (.int .i64 b1)).setCell ⟨w2.heap.size, 2, none⟩ (.int .i64 p1)).setCell ⟨w2.heap.size, 3, none⟩ (.int .i64 h1)) dq) os); rw [hv1] at hh; exact hh)
        have cG : ∀ dq os, Calls Try.prog 17 #[.agg #[.int .i64 l, .int .i64 d, .int .i64 e]] (grow (redrawn ((((v1.setCell ⟨w2.heap.size, 0, none⟩ (.int .i64 i1)).setCell ⟨w2.heap.size, 1, none⟩ (.int .i64 b1)).setCell ⟨w2.heap.size, 2, none⟩ (.int .i64 p1)).setCell ⟨w2.heap.size, 3, none⟩ (.int .i64 h1)) dq) os) fun e w'' => e = .returned (.int .i64 (top l d)) ∧ ∃ p : Regrown, w'' = grow (redrawn ((((v1.setCell ⟨w2.heap.size, 0, none⟩ (.int .i64 i1)).setCell ⟨w2.heap.size, 1, none⟩ (.int .i64 b1)).setCell ⟨w2.heap.size, 2, none⟩ (.int .i64 p1)).setCell ⟨w2.heap.size, 3, none⟩ (.int .i64 h1)) p.d) p.os := fun dq os => Calls.regrown_of (Greatest_any l d e _ hg)
        refine wp_region_quiet_below (by kernel_rfl) (by kernel_rfl) ?_
        repeat (quiet_step (first | exact cV _ _ | exact cG _ _))
        refine wpQuiet_nil ?_
        intro wq hwq
        obtain ⟨pq, hpq⟩ := hwq
        have hbq : Below ((((v1.setCell ⟨w2.heap.size, 0, none⟩ (.int .i64 i1)).setCell ⟨w2.heap.size, 1, none⟩ (.int .i64 b1)).setCell ⟨w2.heap.size, 2, none⟩ (.int .i64 p1)).setCell ⟨w2.heap.size, 3, none⟩ (.int .i64 h1)).heap.size ((((v1.setCell ⟨w2.heap.size, 0, none⟩ (.int .i64 i1)).setCell ⟨w2.heap.size, 1, none⟩ (.int .i64 b1)).setCell ⟨w2.heap.size, 2, none⟩ (.int .i64 p1)).setCell ⟨w2.heap.size, 3, none⟩ (.int .i64 h1)) wq := by rw [hpq]; exact below_regrown _ _ _
        clear hpq cV cG k0 k1 k2 k3 k4 k5 k6
        have cq := c1s.keep hbq (by first | assumption | omega)
        have raq := ra1s.keep hbq (by first | assumption | omega)
        have raFq := raF1s.keep hbq (by first | assumption | omega)
        have sq := s1s.keep hbq (by first | assumption | omega)
        have zq : w2.heap.size < wq.heap.size := (by have := hbq.size; omega)
        have yyq : wr.heap.size < wq.heap.size := (by have := hbq.size; omega)
        have Bq : Below w.heap.size w wq := bt B1s hbq
        clear c1s ra1s raF1s s1s c1s_0 c1s_1 c1s_2 ra1s_0 ra1s_1 ra1s_2 ra1s_3 ra1_0 ra1_1 ra1_2 ra1_3 raF1_0 raF1_1 raF1_2 raF1_3 B1s z1s yy1s hbq
        obtain ⟨cq_0, cq_1, cq_2⟩ := id cq
        obtain ⟨raq_0, raq_1, raq_2, raq_3⟩ := id raq
        obtain ⟨sq_0, sq_1, sq_2⟩ := id sq
        obtain ⟨i2, b2, p2, h2, H14, hv2, hbt2, hbp2⟩ := once_hear (x := y3) y2 hv1 hbt1 (by omega) y3a y3b
        have HP2 := Lib.hid hbp2
        clear hbp2
        obtain ⟨_, _, _, _, _, _, _, _, _, f3, f4, _, _, _, _⟩ := vE_ok hv2
        simp only [] at f3 f4
        go_wp2_with (first | (go_at_call 14; (refine (H14.out _).mono ?_); rintro e v2 ⟨rfl, g2⟩; have c2 := cq.keep g2 (by first | assumption | omega); have ra2 := raq.keep g2 (by first | assumption | omega); have raF2 := raFq.keep g2 (by first | assumption | omega); have s2 := sq.keep g2 (by first | assumption | omega); have z2 : w2.heap.size < v2.heap.size := (by have := g2.size; omega); have yy2 : wr.heap.size < v2.heap.size := (by have := g2.size; omega); obtain ⟨ra2_0, ra2_1, ra2_2, ra2_3⟩ := id ra2; obtain ⟨raF2_0, raF2_1, raF2_2, raF2_3⟩ := id raF2; have c2s := c2.oth4 (b := w2.heap.size) (by omega) (.int .i64 i2) (.int .i64 b2) (.int .i64 p2) (.int .i64 h2); have ra2s := ra2.st (.int .i64 i2) (.int .i64 b2) (.int .i64 p2) (.int .i64 h2); have raF2s := raF2.st (.int .i64 i2) (.int .i64 b2) (.int .i64 p2) (.int .i64 h2); have s2s := s2.oth4 (b := w2.heap.size) (by omega) (.int .i64 i2) (.int .i64 b2) (.int .i64 p2) (.int .i64 h2); have B2s : Below w.heap.size w ((((v2.setCell ⟨w2.heap.size, 0, none⟩ (.int .i64 i2)).setCell ⟨w2.heap.size, 1, none⟩ (.int .i64 b2)).setCell ⟨w2.heap.size, 2, none⟩ (.int .i64 p2)).setCell ⟨w2.heap.size, 3, none⟩ (.int .i64 h2)) := bs4 (bt Bq g2) (by omega) _ _ _ _; have z2s : w2.heap.size < ((((v2.setCell ⟨w2.heap.size, 0, none⟩ (.int .i64 i2)).setCell ⟨w2.heap.size, 1, none⟩ (.int .i64 b2)).setCell ⟨w2.heap.size, 2, none⟩ (.int .i64 p2)).setCell ⟨w2.heap.size, 3, none⟩ (.int .i64 h2)).heap.size := (by simp; omega); have yy2s : wr.heap.size < ((((v2.setCell ⟨w2.heap.size, 0, none⟩ (.int .i64 i2)).setCell ⟨w2.heap.size, 1, none⟩ (.int .i64 b2)).setCell ⟨w2.heap.size, 2, none⟩ (.int .i64 p2)).setCell ⟨w2.heap.size, 3, none⟩ (.int .i64 h2)).heap.size := (by simp; omega); clear cq raq raFq sq cq_0 cq_1 cq_2 raq_0 raq_1 raq_2 raq_3 sq_0 sq_1 sq_2 c2 ra2 raF2 s2 Bq zq yyq g2; obtain ⟨c2s_0, c2s_1, c2s_2⟩ := id c2s; obtain ⟨ra2s_0, ra2s_1, ra2s_2, ra2s_3⟩ := id ra2s) | (go_at_call 16; (refine (valid_any _ _ _ _ _ _ _ _).mono ?_); rintro e v3 ⟨rfl, g3⟩; rw [hv2]; have c3 := c2s.keep g3 (by first | assumption | omega); have ra3 := ra2s.keep g3 (by first | assumption | omega); have raF3 := raF2s.keep g3 (by first | assumption | omega); have s3 := s2s.keep g3 (by first | assumption | omega); have z3 : w2.heap.size < v3.heap.size := (by have := g3.size; omega); have B3 : Below w.heap.size w v3 := bt B2s g3; clear c2s ra2s raF2s s2s c2s_0 c2s_1 c2s_2 ra2s_0 ra2s_1 ra2s_2 ra2s_3 B2s z2s yy2s g3; obtain ⟨ra3_0, ra3_1, ra3_2, ra3_3⟩ := id ra3))
        all_goals
          go_roundw
          case rel =>
            (try have hF := bne_f (a := b1) (b := b) (by assumption))
            (try have hE := bne_f (a := b2) (b := b) (by assumption))
            (try have hE2 := bne_f (a := b2) (b := b1) (by assumption))
            exact ⟨k + 1, _, _, _, _, _, by omega, by go_num, rfl, by go_num, rfl, ⟨hv2, by omega, by have := HP.out; have := HP2.out; omega⟩, c3, ra3, raF3, B3, z3⟩
          case measure => simp [intOf]; omega
      · obtain ⟨hqa, hqc, hqd⟩ := hq1 rfl
        have hbb : b1 = b := Classical.byContradiction fun h => by simpa using hqb h
        have hpp : p1 = p := hbp hbb
        have hb1 : b1 ≤ b := by omega
        have hb2 : b ≤ b1 := by omega
        have hp1 : p1 ≤ s + k := by omega
        have hp2 : s + k ≤ p1 := by omega
        have hp3 : p ≤ p1 := by omega
        have hm0 : m ≤ 0 := by omega
        have HP := Lib.hid hbp
        clear hq1 hqb hbb hpp hqd hbp hm
        have cA := ck.al (by omega) ((.cells #[.bool false, .bool y2, .int .u32 y3] 33))
        have raA := ra.al (by omega) ((.cells #[.bool false, .bool y2, .int .u32 y3] 33))
        have raFA := raF.al (by omega) ((.cells #[.bool false, .bool y2, .int .u32 y3] 33))
        have sA : At3 (wr.alloc (.cells #[.bool false, .bool y2, .int .u32 y3] 33)) wr.heap.size (.bool false) (.bool y2) (.int .u32 y3) := At3.nw _ _ _
        have BA : Below w.heap.size w (wr.alloc (.cells #[.bool false, .bool y2, .int .u32 y3] 33)) := bt Bk (bl0 _)
        have zA : w2.heap.size < (wr.alloc (.cells #[.bool false, .bool y2, .int .u32 y3] 33)).heap.size := by simp; omega
        have yyA : wr.heap.size < (wr.alloc (.cells #[.bool false, .bool y2, .int .u32 y3] 33)).heap.size := by simp
        obtain ⟨cA_0, cA_1, cA_2⟩ := id cA
        obtain ⟨raA_0, raA_1, raA_2, raA_3⟩ := id raA
        obtain ⟨sA_0, sA_1, sA_2⟩ := id sA
        go_wp2_with (first | (go_at_call 12; (refine (H12.out _).mono ?_); rintro e v1 ⟨rfl, g1⟩; have c1 := cA.keep g1 (by first | assumption | omega); have ra1 := raA.keep g1 (by first | assumption | omega); have raF1 := raFA.keep g1 (by first | assumption | omega); have s1 := sA.keep g1 (by first | assumption | omega); have z1 : w2.heap.size < v1.heap.size := (by have := g1.size; omega); have yy1 : wr.heap.size < v1.heap.size := (by have := g1.size; omega); obtain ⟨ra1_0, ra1_1, ra1_2, ra1_3⟩ := id ra1; obtain ⟨raF1_0, raF1_1, raF1_2, raF1_3⟩ := id raF1; have c1s := c1.oth4 (b := w2.heap.size) (by omega) (.int .i64 i1) (.int .i64 b1) (.int .i64 p1) (.int .i64 h1); have ra1s := ra1.st (.int .i64 i1) (.int .i64 b1) (.int .i64 p1) (.int .i64 h1); have raF1s := raF1.st (.int .i64 i1) (.int .i64 b1) (.int .i64 p1) (.int .i64 h1); have s1s := s1.oth4 (b := w2.heap.size) (by omega) (.int .i64 i1) (.int .i64 b1) (.int .i64 p1) (.int .i64 h1); have B1s : Below w.heap.size w ((((v1.setCell ⟨w2.heap.size, 0, none⟩ (.int .i64 i1)).setCell ⟨w2.heap.size, 1, none⟩ (.int .i64 b1)).setCell ⟨w2.heap.size, 2, none⟩ (.int .i64 p1)).setCell ⟨w2.heap.size, 3, none⟩ (.int .i64 h1)) := bs4 (bt BA g1) (by omega) _ _ _ _; have z1s : w2.heap.size < ((((v1.setCell ⟨w2.heap.size, 0, none⟩ (.int .i64 i1)).setCell ⟨w2.heap.size, 1, none⟩ (.int .i64 b1)).setCell ⟨w2.heap.size, 2, none⟩ (.int .i64 p1)).setCell ⟨w2.heap.size, 3, none⟩ (.int .i64 h1)).heap.size := (by simp; omega); have yy1s : wr.heap.size < ((((v1.setCell ⟨w2.heap.size, 0, none⟩ (.int .i64 i1)).setCell ⟨w2.heap.size, 1, none⟩ (.int .i64 b1)).setCell ⟨w2.heap.size, 2, none⟩ (.int .i64 p1)).setCell ⟨w2.heap.size, 3, none⟩ (.int .i64 h1)).heap.size := (by simp; omega); clear cA raA raFA sA cA_0 cA_1 cA_2 raA_0 raA_1 raA_2 raA_3 sA_0 sA_1 sA_2 c1 ra1 raF1 s1 BA zA yyA g1; obtain ⟨c1s_0, c1s_1, c1s_2⟩ := id c1s; obtain ⟨ra1s_0, ra1s_1, ra1s_2, ra1s_3⟩ := id ra1s))
        have k0 := cell_regrown c1s_0
        have k1 := cell_regrown c1s_1
        have k2 := cell_regrown c1s_2
        have k3 := cell_regrown ra1s_0
        have k4 := cell_regrown ra1s_1
        have k5 := cell_regrown ra1s_2
        have k6 := cell_regrown ra1s_3
        have cV : ∀ dq os, Calls Try.prog 16 #[.agg #[.int .i64 l, .int .i64 d, .int .i64 e], .agg #[.int .i64 i1, .int .i64 b1, .int .i64 p1, .int .i64 h1]] (grow (redrawn ((((v1.setCell ⟨w2.heap.size, 0, none⟩ (.int .i64 i1)).setCell ⟨w2.heap.size, 1, none⟩ (.int .i64 b1)).setCell ⟨w2.heap.size, 2, none⟩ (.int .i64 p1)).setCell ⟨w2.heap.size, 3, none⟩ (.int .i64 h1)) dq) os) fun e w'' => e = .returned (.int .i64 0) ∧ ∃ p : Regrown, w'' = grow (redrawn ((((v1.setCell ⟨w2.heap.size, 0, none⟩ (.int .i64 i1)).setCell ⟨w2.heap.size, 1, none⟩ (.int .i64 b1)).setCell ⟨w2.heap.size, 2, none⟩ (.int .i64 p1)).setCell ⟨w2.heap.size, 3, none⟩ (.int .i64 h1)) p.d) p.os := fun dq os => Calls.regrown_of (by have hh := valid_any l d e i1 b1 p1 h1 (grow (redrawn ((((v1.setCell ⟨w2.heap.size, 0, none⟩ (.int .i64 i1)).setCell ⟨w2.heap.size, 1, none⟩ (.int .i64 b1)).setCell ⟨w2.heap.size, 2, none⟩ (.int .i64 p1)).setCell ⟨w2.heap.size, 3, none⟩ (.int .i64 h1)) dq) os); rw [hv1] at hh; exact hh)
        have cG : ∀ dq os, Calls Try.prog 17 #[.agg #[.int .i64 l, .int .i64 d, .int .i64 e]] (grow (redrawn ((((v1.setCell ⟨w2.heap.size, 0, none⟩ (.int .i64 i1)).setCell ⟨w2.heap.size, 1, none⟩ (.int .i64 b1)).setCell ⟨w2.heap.size, 2, none⟩ (.int .i64 p1)).setCell ⟨w2.heap.size, 3, none⟩ (.int .i64 h1)) dq) os) fun e w'' => e = .returned (.int .i64 (top l d)) ∧ ∃ p : Regrown, w'' = grow (redrawn ((((v1.setCell ⟨w2.heap.size, 0, none⟩ (.int .i64 i1)).setCell ⟨w2.heap.size, 1, none⟩ (.int .i64 b1)).setCell ⟨w2.heap.size, 2, none⟩ (.int .i64 p1)).setCell ⟨w2.heap.size, 3, none⟩ (.int .i64 h1)) p.d) p.os := fun dq os => Calls.regrown_of (Greatest_any l d e _ hg)
        refine wp_region_quiet_below (by kernel_rfl) (by kernel_rfl) ?_
        repeat (quiet_step (first | exact cV _ _ | exact cG _ _))
        refine wpQuiet_nil ?_
        intro wq hwq
        obtain ⟨pq, hpq⟩ := hwq
        have hbq : Below ((((v1.setCell ⟨w2.heap.size, 0, none⟩ (.int .i64 i1)).setCell ⟨w2.heap.size, 1, none⟩ (.int .i64 b1)).setCell ⟨w2.heap.size, 2, none⟩ (.int .i64 p1)).setCell ⟨w2.heap.size, 3, none⟩ (.int .i64 h1)).heap.size ((((v1.setCell ⟨w2.heap.size, 0, none⟩ (.int .i64 i1)).setCell ⟨w2.heap.size, 1, none⟩ (.int .i64 b1)).setCell ⟨w2.heap.size, 2, none⟩ (.int .i64 p1)).setCell ⟨w2.heap.size, 3, none⟩ (.int .i64 h1)) wq := by rw [hpq]; exact below_regrown _ _ _
        clear hpq cV cG k0 k1 k2 k3 k4 k5 k6
        have cq := c1s.keep hbq (by first | assumption | omega)
        have raq := ra1s.keep hbq (by first | assumption | omega)
        have raFq := raF1s.keep hbq (by first | assumption | omega)
        have sq := s1s.keep hbq (by first | assumption | omega)
        have zq : w2.heap.size < wq.heap.size := (by have := hbq.size; omega)
        have yyq : wr.heap.size < wq.heap.size := (by have := hbq.size; omega)
        have Bq : Below w.heap.size w wq := bt B1s hbq
        clear c1s ra1s raF1s s1s c1s_0 c1s_1 c1s_2 ra1s_0 ra1s_1 ra1s_2 ra1s_3 ra1_0 ra1_1 ra1_2 ra1_3 raF1_0 raF1_1 raF1_2 raF1_3 B1s z1s yy1s hbq
        obtain ⟨cq_0, cq_1, cq_2⟩ := id cq
        obtain ⟨raq_0, raq_1, raq_2, raq_3⟩ := id raq
        obtain ⟨sq_0, sq_1, sq_2⟩ := id sq
        go_wp2
        all_goals
          go_roundw
          case rel =>
            (try have hF := bne_f (a := b1) (b := b) (by assumption))
            skip
            skip
            exact ⟨k + 1, _, _, _, _, _, by omega, by go_num, rfl, by go_num, rfl, ⟨hv1, by omega, by have := HP.out; omega⟩, cq, raq, raFq, Bq, zq⟩
          case measure => simp [intOf]; omega
      · obtain ⟨hqa, hqc, hqd⟩ := hq1 rfl
        have hbb : b1 = b := Classical.byContradiction fun h => by simpa using hqb h
        have hpp : p1 = p := hbp hbb
        have hb1 : b1 ≤ b := by omega
        have hb2 : b ≤ b1 := by omega
        have hp1 : p1 ≤ s + k := by omega
        have hp2 : s + k ≤ p1 := by omega
        have hp3 : p ≤ p1 := by omega
        have hm0 : m ≤ 0 := by omega
        have HP := Lib.hid hbp
        clear hq1 hqb hbb hpp hqd hbp hm
        have cA := ck.al (by omega) ((.cells #[.bool true, .bool y2, .int .u32 y3] 33))
        have raA := ra.al (by omega) ((.cells #[.bool true, .bool y2, .int .u32 y3] 33))
        have raFA := raF.al (by omega) ((.cells #[.bool true, .bool y2, .int .u32 y3] 33))
        have sA : At3 (wr.alloc (.cells #[.bool true, .bool y2, .int .u32 y3] 33)) wr.heap.size (.bool true) (.bool y2) (.int .u32 y3) := At3.nw _ _ _
        have BA : Below w.heap.size w (wr.alloc (.cells #[.bool true, .bool y2, .int .u32 y3] 33)) := bt Bk (bl0 _)
        have zA : w2.heap.size < (wr.alloc (.cells #[.bool true, .bool y2, .int .u32 y3] 33)).heap.size := by simp; omega
        have yyA : wr.heap.size < (wr.alloc (.cells #[.bool true, .bool y2, .int .u32 y3] 33)).heap.size := by simp
        obtain ⟨cA_0, cA_1, cA_2⟩ := id cA
        obtain ⟨raA_0, raA_1, raA_2, raA_3⟩ := id raA
        obtain ⟨sA_0, sA_1, sA_2⟩ := id sA
        go_wp2_with (first | (go_at_call 12; (refine (H12.out _).mono ?_); rintro e v1 ⟨rfl, g1⟩; have c1 := cA.keep g1 (by first | assumption | omega); have ra1 := raA.keep g1 (by first | assumption | omega); have raF1 := raFA.keep g1 (by first | assumption | omega); have s1 := sA.keep g1 (by first | assumption | omega); have z1 : w2.heap.size < v1.heap.size := (by have := g1.size; omega); have yy1 : wr.heap.size < v1.heap.size := (by have := g1.size; omega); obtain ⟨ra1_0, ra1_1, ra1_2, ra1_3⟩ := id ra1; obtain ⟨raF1_0, raF1_1, raF1_2, raF1_3⟩ := id raF1; have c1s := c1.oth4 (b := w2.heap.size) (by omega) (.int .i64 i1) (.int .i64 b1) (.int .i64 p1) (.int .i64 h1); have ra1s := ra1.st (.int .i64 i1) (.int .i64 b1) (.int .i64 p1) (.int .i64 h1); have raF1s := raF1.st (.int .i64 i1) (.int .i64 b1) (.int .i64 p1) (.int .i64 h1); have s1s := s1.oth4 (b := w2.heap.size) (by omega) (.int .i64 i1) (.int .i64 b1) (.int .i64 p1) (.int .i64 h1); have B1s : Below w.heap.size w ((((v1.setCell ⟨w2.heap.size, 0, none⟩ (.int .i64 i1)).setCell ⟨w2.heap.size, 1, none⟩ (.int .i64 b1)).setCell ⟨w2.heap.size, 2, none⟩ (.int .i64 p1)).setCell ⟨w2.heap.size, 3, none⟩ (.int .i64 h1)) := bs4 (bt BA g1) (by omega) _ _ _ _; have z1s : w2.heap.size < ((((v1.setCell ⟨w2.heap.size, 0, none⟩ (.int .i64 i1)).setCell ⟨w2.heap.size, 1, none⟩ (.int .i64 b1)).setCell ⟨w2.heap.size, 2, none⟩ (.int .i64 p1)).setCell ⟨w2.heap.size, 3, none⟩ (.int .i64 h1)).heap.size := (by simp; omega); have yy1s : wr.heap.size < ((((v1.setCell ⟨w2.heap.size, 0, none⟩ (.int .i64 i1)).setCell ⟨w2.heap.size, 1, none⟩ (.int .i64 b1)).setCell ⟨w2.heap.size, 2, none⟩ (.int .i64 p1)).setCell ⟨w2.heap.size, 3, none⟩ (.int .i64 h1)).heap.size := (by simp; omega); clear cA raA raFA sA cA_0 cA_1 cA_2 raA_0 raA_1 raA_2 raA_3 sA_0 sA_1 sA_2 c1 ra1 raF1 s1 BA zA yyA g1; obtain ⟨c1s_0, c1s_1, c1s_2⟩ := id c1s; obtain ⟨ra1s_0, ra1s_1, ra1s_2, ra1s_3⟩ := id ra1s))
        have k0 := cell_regrown c1s_0
        have k1 := cell_regrown c1s_1
        have k2 := cell_regrown c1s_2
        have k3 := cell_regrown ra1s_0
        have k4 := cell_regrown ra1s_1
        have k5 := cell_regrown ra1s_2
        have k6 := cell_regrown ra1s_3
        have cV : ∀ dq os, Calls Try.prog 16 #[.agg #[.int .i64 l, .int .i64 d, .int .i64 e], .agg #[.int .i64 i1, .int .i64 b1, .int .i64 p1, .int .i64 h1]] (grow (redrawn ((((v1.setCell ⟨w2.heap.size, 0, none⟩ (.int .i64 i1)).setCell ⟨w2.heap.size, 1, none⟩ (.int .i64 b1)).setCell ⟨w2.heap.size, 2, none⟩ (.int .i64 p1)).setCell ⟨w2.heap.size, 3, none⟩ (.int .i64 h1)) dq) os) fun e w'' => e = .returned (.int .i64 0) ∧ ∃ p : Regrown, w'' = grow (redrawn ((((v1.setCell ⟨w2.heap.size, 0, none⟩ (.int .i64 i1)).setCell ⟨w2.heap.size, 1, none⟩ (.int .i64 b1)).setCell ⟨w2.heap.size, 2, none⟩ (.int .i64 p1)).setCell ⟨w2.heap.size, 3, none⟩ (.int .i64 h1)) p.d) p.os := fun dq os => Calls.regrown_of (by have hh := valid_any l d e i1 b1 p1 h1 (grow (redrawn ((((v1.setCell ⟨w2.heap.size, 0, none⟩ (.int .i64 i1)).setCell ⟨w2.heap.size, 1, none⟩ (.int .i64 b1)).setCell ⟨w2.heap.size, 2, none⟩ (.int .i64 p1)).setCell ⟨w2.heap.size, 3, none⟩ (.int .i64 h1)) dq) os); rw [hv1] at hh; exact hh)
        have cG : ∀ dq os, Calls Try.prog 17 #[.agg #[.int .i64 l, .int .i64 d, .int .i64 e]] (grow (redrawn ((((v1.setCell ⟨w2.heap.size, 0, none⟩ (.int .i64 i1)).setCell ⟨w2.heap.size, 1, none⟩ (.int .i64 b1)).setCell ⟨w2.heap.size, 2, none⟩ (.int .i64 p1)).setCell ⟨w2.heap.size, 3, none⟩ (.int .i64 h1)) dq) os) fun e w'' => e = .returned (.int .i64 (top l d)) ∧ ∃ p : Regrown, w'' = grow (redrawn ((((v1.setCell ⟨w2.heap.size, 0, none⟩ (.int .i64 i1)).setCell ⟨w2.heap.size, 1, none⟩ (.int .i64 b1)).setCell ⟨w2.heap.size, 2, none⟩ (.int .i64 p1)).setCell ⟨w2.heap.size, 3, none⟩ (.int .i64 h1)) p.d) p.os := fun dq os => Calls.regrown_of (Greatest_any l d e _ hg)
        refine wp_region_quiet_below (by kernel_rfl) (by kernel_rfl) ?_
        repeat (quiet_step (first | exact cV _ _ | exact cG _ _))
        refine wpQuiet_nil ?_
        intro wq hwq
        obtain ⟨pq, hpq⟩ := hwq
        have hbq : Below ((((v1.setCell ⟨w2.heap.size, 0, none⟩ (.int .i64 i1)).setCell ⟨w2.heap.size, 1, none⟩ (.int .i64 b1)).setCell ⟨w2.heap.size, 2, none⟩ (.int .i64 p1)).setCell ⟨w2.heap.size, 3, none⟩ (.int .i64 h1)).heap.size ((((v1.setCell ⟨w2.heap.size, 0, none⟩ (.int .i64 i1)).setCell ⟨w2.heap.size, 1, none⟩ (.int .i64 b1)).setCell ⟨w2.heap.size, 2, none⟩ (.int .i64 p1)).setCell ⟨w2.heap.size, 3, none⟩ (.int .i64 h1)) wq := by rw [hpq]; exact below_regrown _ _ _
        clear hpq cV cG k0 k1 k2 k3 k4 k5 k6
        have cq := c1s.keep hbq (by first | assumption | omega)
        have raq := ra1s.keep hbq (by first | assumption | omega)
        have raFq := raF1s.keep hbq (by first | assumption | omega)
        have sq := s1s.keep hbq (by first | assumption | omega)
        have zq : w2.heap.size < wq.heap.size := (by have := hbq.size; omega)
        have yyq : wr.heap.size < wq.heap.size := (by have := hbq.size; omega)
        have Bq : Below w.heap.size w wq := bt B1s hbq
        clear c1s ra1s raF1s s1s c1s_0 c1s_1 c1s_2 ra1s_0 ra1s_1 ra1s_2 ra1s_3 ra1_0 ra1_1 ra1_2 ra1_3 raF1_0 raF1_1 raF1_2 raF1_3 B1s z1s yy1s hbq
        obtain ⟨cq_0, cq_1, cq_2⟩ := id cq
        obtain ⟨raq_0, raq_1, raq_2, raq_3⟩ := id raq
        obtain ⟨sq_0, sq_1, sq_2⟩ := id sq
        obtain ⟨i2, b2, p2, h2, H14, hv2, hbt2, hbp2⟩ := once_hear (x := y3) y2 hv1 hbt1 (by omega) y3a y3b
        have HP2 := Lib.hid hbp2
        clear hbp2
        obtain ⟨_, _, _, _, _, _, _, _, _, f3, f4, _, _, _, _⟩ := vE_ok hv2
        simp only [] at f3 f4
        go_wp2_with (first | (go_at_call 14; (refine (H14.out _).mono ?_); rintro e v2 ⟨rfl, g2⟩; have c2 := cq.keep g2 (by first | assumption | omega); have ra2 := raq.keep g2 (by first | assumption | omega); have raF2 := raFq.keep g2 (by first | assumption | omega); have s2 := sq.keep g2 (by first | assumption | omega); have z2 : w2.heap.size < v2.heap.size := (by have := g2.size; omega); have yy2 : wr.heap.size < v2.heap.size := (by have := g2.size; omega); obtain ⟨ra2_0, ra2_1, ra2_2, ra2_3⟩ := id ra2; obtain ⟨raF2_0, raF2_1, raF2_2, raF2_3⟩ := id raF2; have c2s := c2.oth4 (b := w2.heap.size) (by omega) (.int .i64 i2) (.int .i64 b2) (.int .i64 p2) (.int .i64 h2); have ra2s := ra2.st (.int .i64 i2) (.int .i64 b2) (.int .i64 p2) (.int .i64 h2); have raF2s := raF2.st (.int .i64 i2) (.int .i64 b2) (.int .i64 p2) (.int .i64 h2); have s2s := s2.oth4 (b := w2.heap.size) (by omega) (.int .i64 i2) (.int .i64 b2) (.int .i64 p2) (.int .i64 h2); have B2s : Below w.heap.size w ((((v2.setCell ⟨w2.heap.size, 0, none⟩ (.int .i64 i2)).setCell ⟨w2.heap.size, 1, none⟩ (.int .i64 b2)).setCell ⟨w2.heap.size, 2, none⟩ (.int .i64 p2)).setCell ⟨w2.heap.size, 3, none⟩ (.int .i64 h2)) := bs4 (bt Bq g2) (by omega) _ _ _ _; have z2s : w2.heap.size < ((((v2.setCell ⟨w2.heap.size, 0, none⟩ (.int .i64 i2)).setCell ⟨w2.heap.size, 1, none⟩ (.int .i64 b2)).setCell ⟨w2.heap.size, 2, none⟩ (.int .i64 p2)).setCell ⟨w2.heap.size, 3, none⟩ (.int .i64 h2)).heap.size := (by simp; omega); have yy2s : wr.heap.size < ((((v2.setCell ⟨w2.heap.size, 0, none⟩ (.int .i64 i2)).setCell ⟨w2.heap.size, 1, none⟩ (.int .i64 b2)).setCell ⟨w2.heap.size, 2, none⟩ (.int .i64 p2)).setCell ⟨w2.heap.size, 3, none⟩ (.int .i64 h2)).heap.size := (by simp; omega); clear cq raq raFq sq cq_0 cq_1 cq_2 raq_0 raq_1 raq_2 raq_3 sq_0 sq_1 sq_2 c2 ra2 raF2 s2 Bq zq yyq g2; obtain ⟨c2s_0, c2s_1, c2s_2⟩ := id c2s; obtain ⟨ra2s_0, ra2s_1, ra2s_2, ra2s_3⟩ := id ra2s) | (go_at_call 16; (refine (valid_any _ _ _ _ _ _ _ _).mono ?_); rintro e v3 ⟨rfl, g3⟩; rw [hv2]; have c3 := c2s.keep g3 (by first | assumption | omega); have ra3 := ra2s.keep g3 (by first | assumption | omega); have raF3 := raF2s.keep g3 (by first | assumption | omega); have s3 := s2s.keep g3 (by first | assumption | omega); have z3 : w2.heap.size < v3.heap.size := (by have := g3.size; omega); have B3 : Below w.heap.size w v3 := bt B2s g3; clear c2s ra2s raF2s s2s c2s_0 c2s_1 c2s_2 ra2s_0 ra2s_1 ra2s_2 ra2s_3 B2s z2s yy2s g3; obtain ⟨ra3_0, ra3_1, ra3_2, ra3_3⟩ := id ra3))
        all_goals
          go_roundw
          case rel =>
            (try have hF := bne_f (a := b1) (b := b) (by assumption))
            (try have hE := bne_f (a := b2) (b := b) (by assumption))
            (try have hE2 := bne_f (a := b2) (b := b1) (by assumption))
            exact ⟨k + 1, _, _, _, _, _, by omega, by go_num, rfl, by go_num, rfl, ⟨hv2, by omega, by have := HP.out; have := HP2.out; omega⟩, c3, ra3, raF3, B3, z3⟩
          case measure => simp [intOf]; omega
    · obtain rfl : k = n := by omega
      go_wp2
      go_ret
      exact ⟨rfl, Bk⟩

set_option maxRecDepth 100000 in
set_option maxHeartbeats 6400000 in
theorem once_0 (l d e s x : Int) (cap : Nat) (a : Option Addr) (w : World) (hE : stE l d e s = 0) (hs2 : s ≤ 536870912) (hx : 0 ≤ x) (hx2 : x ≤ 4294967295) : Calls Try.prog 4 #[.agg #[.int .i64 l, .int .i64 d, .int .i64 e], .int .i64 s, .int .u32 x, .slice a 0 cap] w (Ret (.bool true) w) := by
  go_enter Try.func4, Try.ntmps4
  go_wp2_with (first | (go_at_call 9; (refine (awake_true _).mono ?_); rintro e w1 ⟨rfl, hb1⟩; obtain ⟨hc1, hf1⟩ := bcell hb1; have hz1 : w.heap.size < w1.heap.size := (by have := hb1.size; simp at this; omega)) | (go_at_call 10; (refine (Start_any _ _ _ _ _ _ hx hx2).mono ?_); rw [hE]; rintro e w2 ⟨rfl, hb2⟩; obtain ⟨hc2, hf2⟩ := bcell hb2; have hz2 : w.heap.size < w2.heap.size := (by have := hb2.size; omega)))
  all_goals try (exfalso; omega)
  have B0 : Below w.heap.size w (w2.alloc (.cells #[.int .i64 (stR l d e s x).i, .int .i64 (stR l d e s x).b, .int .i64 (stR l d e s x).p, .int .i64 (stR l d e s x).h] 28)) := bt (bt (bl1 hb1) hb2) (bl0 _)
  clear hb1 hb2 hc1 hc2 hf1 hf2
  go_loopw [10, 11, 12, 44] (fun _ _ _ c wr => c = .int .i64 0 ∧ Below w.heap.size w wr) (fun _ _ _ _ _ => 0)
  case atStart => exact ⟨rfl, B0⟩
  case round =>
    obtain ⟨rfl, Bk⟩ := hrel
    go_wp2
    go_ret
    exact ⟨rfl, Bk⟩
end Go.Proofs.Ytcojimifplhodaa
