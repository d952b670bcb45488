/- GossipSpeaks: a node that hears nothing makes an announcement in each interval, and the intervals double up to the greatest one. The plain part. -/
import Derived.Test.YtcojimifplhodaaB
namespace Go.Proofs.Ytcojimifplhodaa
open Go.RowKit

theorem ok_b {l d e : Int} {r : Rm} (h : vE l d e r = 0) : 0 ≤ r.b ∧ r.b ≤ 1073741824 := by
  have := (vE_out h).2
  unfold vok at this
  simp only [Bool.and_eq_true, decide_eq_true_eq] at this
  omega
theorem cE_ok {l d e : Int} {r : Rm} {s : Int} (h : vE l d e r = 0) (h1 : 0 ≤ s) (h2 : s ≤ 1073741824) (h3 : r.b ≤ s) : cE l d e r s = 0 :=
  (cE_0 (by simp [h]) ⟨h1, h2⟩ (by omega)).symm
theorem vE_ok {l d e : Int} {r : Rm} (h : vE l d e r = 0) : gok l d e = true ∧ 2 ≤ l ∧ l ≤ 1024 ∧ 0 ≤ d ∧ d ≤ 8 ∧ 0 ≤ e ∧ e ≤ 16 ∧ l ≤ r.i ∧ r.i ≤ 262144 ∧ 0 ≤ r.b ∧ r.b ≤ 1073741824 ∧ r.b + r.i / 2 ≤ r.p ∧ r.p < r.b + r.i ∧ 0 ≤ r.h ∧ r.h ≤ 1048576 := by
  have hc := cE_out (cE_ok (s := r.b) h (ok_b h).1 (ok_b h).2 (Int.le_refl _))
  exact ⟨hc.g, hc.l1, hc.l2, hc.d1, hc.d2, hc.e1, hc.e2, hc.i1, hc.i2, hc.b1, hc.b2, hc.p1, hc.p2, hc.h1, hc.h2⟩
theorem top_bd {l d e : Int} (hg : gok l d e = true) : l ≤ top l d ∧ top l d ≤ 262144 := by
  obtain ⟨l1, l2, d1, d2, e1, e2⟩ := gok_t hg
  exact lpow l d.toNat (by omega) l1 l2
theorem kn_top {l d e i : Int} (hg : gok l d e = true) (h : kn i l (d + 1).toNat = true) : i ≤ top l d ∧ kn (if top l d < 2 * i then top l d else 2 * i) l (d + 1).toNat = true := by
  obtain ⟨l1, l2, d1, d2, e1, e2⟩ := gok_t hg
  obtain ⟨j, hj, rfl⟩ := (kn_iff _ _ _).1 h
  have hm : ∀ a b : Nat, a ≤ b → b ≤ 8 → l * 2 ^ a ≤ l * 2 ^ b := fun a b hab hb => by
    apply Int.mul_le_mul_of_nonneg_left _ (by omega)
    exact_mod_cast Nat.pow_le_pow_right (by omega) hab
  constructor
  · exact hm j d.toNat (by omega) (by omega)
  · by_cases hjd : j = d.toNat
    · subst hjd
      have : top l d < 2 * (l * 2 ^ d.toNat) := by
        have := (lpow l d.toNat (by omega) l1 l2).1
        unfold top; omega
      rw [if_pos this]
      exact (kn_iff _ _ _).2 ⟨d.toNat, by omega, rfl⟩
    · have h2 : 2 * (l * 2 ^ j) = l * 2 ^ (j + 1) := by rw [Int.pow_succ, Int.mul_left_comm, Int.mul_comm 2]
      have h3 := hm (j + 1) d.toNat (by omega) (by omega)
      unfold top
      rw [if_neg (by omega), h2]
      exact (kn_iff _ _ _).2 ⟨j + 1, by omega, rfl⟩

theorem vE_mk {l d e : Int} {r : Rm} (hg : gok l d e = true) (hk : kn r.i l (d + 1).toNat = true) (h : 0 ≤ r.b ∧ r.b ≤ 1073741824 ∧ r.b + r.i / 2 ≤ r.p ∧ r.p < r.b + r.i ∧ 0 ≤ r.h ∧ r.h ≤ 1048576) : vE l d e r = 0 :=
  (vE_0 (i := r.i) (b := r.b) (p := r.p) (h := r.h) hg hk h).symm
/-- What holds of a state within an interval of length n that begins in slot a, behind k of its slots, m announcements made. -/
def Jn (l d e n a : Int) (k : Int) (m i b p h : Int) : Prop :=
  (k = 0 ∧ m = 0 ∧ ((i = n ∧ b = a ∧ a + n / 2 ≤ p ∧ p < a + n ∧ h = 0) ∨ (vE l d e ⟨i, b, p, h⟩ = 0 ∧ b + i = a ∧ (if top l d < 2 * i then top l d else 2 * i) = n))) ∨
  (1 ≤ k ∧ i = n ∧ b = a ∧ a + n / 2 ≤ p ∧ p < a + n ∧ h = 0 ∧ ((m = 0 ∧ a + k ≤ p) ∨ (m = 1 ∧ p < a + k)))
theorem speaks_step {l d e n a k m i b p h x : Int} (hg : gok l d e = true) (hk : kn n l (d + 1).toNat = true) (ha : 0 ≤ a) (han : a + n ≤ 1073741824) (hJ : Jn l d e n a k m i b p h) (hkn : k < n) (hx : 0 ≤ x) (hx2 : x ≤ 4294967295) :
    ∃ (i1 b1 p1 h1 : Int) (q1 : Bool), Hid (∀ w, Calls Try.prog 12 #[.agg #[.int .i64 l, .int .i64 d, .int .i64 e], .agg #[.int .i64 i, .int .i64 b, .int .i64 p, .int .i64 h], .int .i64 (a + k), .int .u32 x] w (Ret (.tuple #[.agg #[.int .i64 i1, .int .i64 b1, .int .i64 p1, .int .i64 h1], .bool q1, .int .i64 0]) w)) ∧
      i1 = n ∧ Jn l d e n a (k + 1) (m + if q1 = true then 1 else 0) i1 b1 p1 h1 := by
  obtain ⟨l1, l2, d1, d2, e1, e2⟩ := gok_t hg
  obtain ⟨n1, n2⟩ := kn_bd hk (by omega) l1 l2
  have hst := fun w => Step_any l d e i b p h (a + k) x w hx hx2
  have hqt : ∀ i b p, quiet e ⟨i, b, p, 0⟩ = true := fun i b p => by
    rcases (by omega : e = 0 ∨ 0 < e) with hh | hh <;> simp [quiet, hh]
  have inside : ∀ p h : Int, a + n / 2 ≤ p → p < a + n → h = 0 → 0 ≤ k → cE l d e ⟨n, a, p, h⟩ (a + k) = 0 ∧ spR l d e ⟨n, a, p, h⟩ (a + k) x = ⟨n, a, p, h⟩ ∧ spB l d e ⟨n, a, p, h⟩ (a + k) x = (a + k == p) := by
    intro p h hp1 hp2 hh hk0
    subst hh
    have hc : cE l d e ⟨n, a, p, 0⟩ (a + k) = 0 := cE_ok (vE_mk (r := ⟨n, a, p, 0⟩) hg hk (by dsimp only; omega)) (by omega) (by omega) (by dsimp only; omega)
    have E0 : nxt l d ⟨n, a, p, 0⟩ (a + k) x = ⟨n, a, p, 0⟩ := by unfold nxt; exact if_neg (by dsimp only; omega)
    exact ⟨hc, by simp [spR, hc, E0], by simp [spB, hc, E0, hqt]⟩
  rcases hJ with ⟨rfl, rfl, hA | ⟨hv, hb, hn⟩⟩ | ⟨hk1, rfl, rfl, hp1, hp2, hh, hm⟩
  · obtain ⟨rfl, rfl, hp1, hp2, hh⟩ := hA
    obtain ⟨hc, hR, hB⟩ := inside p h hp1 hp2 hh (Int.le_refl _)
    have hB' : (b + 0 == p) = false := by simp only [beq_eq_false_iff_ne]; omega
    rw [hB'] at hB
    rw [hc, hR, hB] at hst
    refine ⟨i, b, p, h, false, Lib.hid hst, rfl, .inr ⟨by omega, rfl, rfl, hp1, hp2, hh, .inl ⟨by simp, by omega⟩⟩⟩
  · have hc : cE l d e ⟨i, b, p, h⟩ (a + 0) = 0 := cE_ok hv (by omega) (by omega) (by have := (vE_ok hv).2.2.2.2.2.2.2.1; dsimp only at *; omega)
    have hmd := md_bd n x (by omega) (by omega)
    have E0 : nxt l d ⟨i, b, p, h⟩ (a + 0) x = bgn n a x := by
      unfold nxt
      rw [if_pos (by dsimp only; omega), hn, Int.add_zero]
    have hR : spR l d e ⟨i, b, p, h⟩ (a + 0) x = bgn n a x := by simp only [spR, hc, E0, if_true]
    have hB : spB l d e ⟨i, b, p, h⟩ (a + 0) x = false := by
      have : (a + 0 == (bgn n a x).p) = false := by simp only [bgn, beq_eq_false_iff_ne]; omega
      simp only [spB, hc, E0, this, if_true, Bool.false_and]
    rw [hc, hR, hB] at hst
    refine ⟨_, _, _, _, false, Lib.hid hst, rfl, .inr ?_⟩
    simp only [bgn]
    refine ⟨by omega, trivial, trivial, by omega, by omega, trivial, .inl ⟨by simp, by omega⟩⟩
  · obtain ⟨hc, hR, hB⟩ := inside p h hp1 hp2 hh (by omega)
    cases hq : (b + k == p)
    · rw [hq] at hB
      rw [hc, hR, hB] at hst
      have hq' : b + k ≠ p := by simpa using hq
      refine ⟨i, b, p, h, false, Lib.hid hst, rfl, .inr ⟨by omega, rfl, rfl, hp1, hp2, hh, ?_⟩⟩
      rcases hm with ⟨rfl, h1⟩ | ⟨rfl, h1⟩
      · exact .inl ⟨by simp, by omega⟩
      · exact .inr ⟨by simp, by omega⟩
    · rw [hq] at hB
      rw [hc, hR, hB] at hst
      have hq' : b + k = p := by simpa using hq
      refine ⟨i, b, p, h, true, Lib.hid hst, rfl, .inr ⟨by omega, rfl, rfl, hp1, hp2, hh, ?_⟩⟩
      rcases hm with ⟨rfl, h1⟩ | ⟨rfl, h1⟩
      · exact .inr ⟨by simp, by omega⟩
      · omega
theorem speaks_end {l d e n a m i b p h : Int} (hg : gok l d e = true) (hk : kn n l (d + 1).toNat = true) (ha : 0 ≤ a) (han : a + n ≤ 1073741824) (hJ : Jn l d e n a n m i b p h) :
    m = 1 ∧ kn (if top l d < 2 * n then top l d else 2 * n) l (d + 1).toNat = true ∧ Jn l d e (if top l d < 2 * n then top l d else 2 * n) (a + n) 0 0 i b p h := by
  obtain ⟨l1, l2, d1, d2, e1, e2⟩ := gok_t hg
  obtain ⟨n1, n2⟩ := kn_bd hk (by omega) l1 l2
  rcases hJ with ⟨hz, _⟩ | ⟨hk1, rfl, rfl, hp1, hp2, hh, hm⟩
  · omega
  · refine ⟨by omega, (kn_top hg hk).2, .inl ⟨rfl, rfl, .inr ⟨?_, rfl, rfl⟩⟩⟩
    exact vE_mk (r := ⟨i, b, p, h⟩) hg hk (by dsimp only; omega)
end Go.Proofs.Ytcojimifplhodaa
