/- Check and Valid, of the program and of the reference: what they return. -/
import Derived.Test.YtcojimifplhodaaP
namespace Go.Proofs.Ytcojimifplhodaa
open Go.RowKit

def wi (n l h : Int) : Bool := decide (l ≤ n) && decide (n ≤ h)
theorem wi_t {n l h : Int} (x : l ≤ n ∧ n ≤ h) : wi n l h = true := by simp [wi]; exact x
set_option maxHeartbeats 400000 in
theorem within_any (n l h : Int) (w : World) :
    Calls Try.prog 30 #[.int .i64 n, .int .i64 l, .int .i64 h] w (RetS (.bool (wi n l h)) w) := by
  go_enter Try.func30, Try.ntmps30
  go_wp2
  · have h1 : l ≤ n := by assumption
    go_ret
    exact ⟨ret_b (by simp [wi, h1]), rfl⟩
  · have h1 : n < l := by assumption
    go_ret
    exact ⟨ret_b (by simp [wi]; omega), rfl⟩

set_option maxHeartbeats 400000 in
theorem check_any (l d e : Int) (w : World) :
    Calls Try.prog 18 #[.agg #[.int .i64 l, .int .i64 d, .int .i64 e]] w (Ret (.int .i64 (gE l d e)) w) := by
  cases hg : gok l d e
  · have hE : gE l d e = 2 := by simp [gE, hg]
    have h : wi l 2 1024 = false ∨ (wi l 2 1024 = true ∧ wi d 0 8 = false) ∨ (wi l 2 1024 = true ∧ wi d 0 8 = true ∧ wi e 0 16 = false) := by
      have h := gok_f hg
      simp [wi]; omega
    rw [hE]
    clear hE hg
    rcases h with h | ⟨h, h1⟩ | ⟨h, h1, h2⟩
    all_goals
      go_enter Try.func18, Try.ntmps18
      go_wp2_with (go_at_call 30; refine (within_any _ _ _ _).mono ?_; rintro e w' ⟨rfl, rfl⟩)
      go_ret
      exact ⟨rfl, bl0 _⟩
  · have hE : gE l d e = 0 := by simp [gE, hg]
    obtain ⟨h1, h2, h3, h4, h5, h6⟩ := gok_t hg
    have k1 := wi_t ⟨h1, h2⟩
    have k2 := wi_t ⟨h3, h4⟩
    have k3 := wi_t ⟨h5, h6⟩
    rw [hE]
    clear hE hg h1 h2 h3 h4 h5 h6
    go_enter Try.func18, Try.ntmps18
    go_wp2_with (go_at_call 30; refine (within_any _ _ _ _).mono ?_; rintro e w' ⟨rfl, rfl⟩)
    go_ret
    exact ⟨rfl, bl0 _⟩


theorem gE_0 {l d e : Int} (h : 2 ≤ l ∧ l ≤ 1024 ∧ 0 ≤ d ∧ d ≤ 8 ∧ 0 ≤ e ∧ e ≤ 16) : 0 = gE l d e := by simp only [gE, gok, decide_eq_true h]; simp
theorem gE_2 {l d e : Int} (h : ¬ (2 ≤ l ∧ l ≤ 1024 ∧ 0 ≤ d ∧ d ≤ 8 ∧ 0 ≤ e ∧ e ≤ 16)) : 2 = gE l d e := by simp only [gE, gok, decide_eq_false h]; simp
set_option maxHeartbeats 800000 in
theorem rcheck_any (l d e : Int) (w : World) :
    Calls Try.prog 22 #[.agg #[.int .i64 l, .int .i64 d, .int .i64 e]] w (Ret (.int .i64 (gE l d e)) w) := by
  go_enter Try.func22, Try.ntmps22
  go_wp2
  all_goals
    go_ret
    refine ⟨ret_i ?_, bl0 _⟩
    first | (refine gE_2 ?_; omega) | (refine gE_0 ?_; omega)

set_option maxHeartbeats 1600000 in
theorem valid_any (l d e i b p h : Int) (w : World) :
    Calls Try.prog 16 #[.agg #[.int .i64 l, .int .i64 d, .int .i64 e], .agg #[.int .i64 i, .int .i64 b, .int .i64 p, .int .i64 h]] w (Ret (.int .i64 (vE l d e ⟨i, b, p, h⟩)) w) := by
  cases hok : gok l d e
  · have HE : gE l d e = 2 := by simp [gE, hok]
    rw [← vE_g hok]
    clear hok
    go_enter Try.func16, Try.ntmps16
    go_wp2_with (go_at_call 18; (refine (check_any _ _ _ _).mono ?_); rintro e w' ⟨rfl, hb⟩; rw [HE])
    go_ret
    exact ⟨rfl, bl2 hb⟩
  obtain ⟨h1, h2, h3, h4, h5, h6⟩ := gok_t hok
  have HE : gE l d e = 0 := by simp [gE, hok]
  have H := Lib.hid hok
  clear hok
  go_enter Try.func16, Try.ntmps16
  go_wp2_with (go_at_call 18; (refine (check_any _ _ _ _).mono ?_); rintro e w' ⟨rfl, hb⟩; rw [HE]; obtain ⟨hc, hf⟩ := bcell hb; have hz : w.heap.size + 1 < w'.heap.size := by (have := hb.size; simp at this; omega))
  clear HE
  have cl : w'.cell? ⟨w.heap.size, 0, none⟩ = some (.int .i64 l) := by simp [go_sem, hc]
  have ci : w'.cell? ⟨w.heap.size + 1, 0, none⟩ = some (.int .i64 i) := by simp [go_sem, hc]
  have cb : w'.cell? ⟨w.heap.size + 1, 1, none⟩ = some (.int .i64 b) := by simp [go_sem, hc]
  have cp : w'.cell? ⟨w.heap.size + 1, 2, none⟩ = some (.int .i64 p) := by simp [go_sem, hc]
  have ch : w'.cell? ⟨w.heap.size + 1, 3, none⟩ = some (.int .i64 h) := by simp [go_sem, hc]
  go_loopw [6, 7, 17] (fun a _ c wr => ∃ k : Nat, (k : Int) ≤ d + 1 ∧ c = .int .i64 k ∧ a = .bool (kn i l k) ∧ Below (w.heap.size + 2) w' wr) (fun _ _ c _ => (d + 1 - (intOf c)).toNat)
  case atStart => exact ⟨0, by omega, rfl, rfl, Below.refl _ _⟩
  case round =>
    obtain ⟨k, hk, rfl, rfl, hbr⟩ := hrel
    have dl := kcell hbr cl (by omega)
    have di := kcell hbr ci (by omega)
    have db := kcell hbr cb (by omega)
    have dp := kcell hbr cp (by omega)
    have dh := kcell hbr ch (by omega)
    have hB : Below w.heap.size w wr := bl2 (hb.trans (hbr.mono (by simp)))
    clear hc hf cl ci cb cp ch hb
    by_cases hlt : (k : Int) < d + 1
    · cases hkn : kn i l k
      · go_wp2
        go_quiet (fail)
        go_wp2
        go_roundw
        case rel => exact ⟨k + 1, by omega, by go_num, by rw [wpow l k (by omega) h1 h2]; simp [kn, hkn], below_drewN hbr _⟩
        case measure => simp [intOf]; omega
      · go_wp2
        go_quiet (fail)
        go_wp2
        go_roundw
        case rel => exact ⟨k + 1, by omega, by go_num, by simp [kn, hkn], below_drewN hbr _⟩
        case measure => simp [intOf]; omega
    · obtain rfl : k = (d + 1).toNat := by omega
      cases hkn : kn i l (d + 1).toNat
      · have HK := Lib.hid hkn
        go_wp2
        go_ret
        exact ⟨ret_i (vE_k H.out HK.out), hB⟩
      · have HK := Lib.hid hkn
        obtain ⟨i1, i2⟩ := kn_bd hkn (by omega) h1 h2
        go_wp2
        all_goals
          go_ret
          refine ⟨ret_i ?_, hB⟩
          first
            | (refine vE_1 H.out ?_; omega)
            | (have hx : (!decide (h < 1048577)) = true := by assumption
               simp only [Bool.not_eq_true', decide_eq_false_iff_not] at hx
               refine vE_1 H.out ?_; omega)
            | (have hx : (!decide (h < 1048577)) = false := by assumption
               simp only [Bool.not_eq_false', decide_eq_true_eq] at hx
               refine vE_0 H.out HK.out ?_; omega)

set_option maxHeartbeats 1600000 in
theorem rvalid_any (l d e i b p h : Int) (w : World) :
    Calls Try.prog 32 #[.agg #[.int .i64 l, .int .i64 d, .int .i64 e], .agg #[.int .i64 i, .int .i64 b, .int .i64 p, .int .i64 h]] w (Ret (.int .i64 (vE l d e ⟨i, b, p, h⟩)) w) := by
  cases hok : gok l d e
  · have HE : gE l d e = 2 := by simp [gE, hok]
    rw [← vE_g hok]
    clear hok
    go_enter Try.func32, Try.ntmps32
    go_wp2_with (go_at_call 22; (refine (rcheck_any _ _ _ _).mono ?_); rintro e w' ⟨rfl, hb⟩; rw [HE])
    go_ret
    exact ⟨rfl, bl2 hb⟩
  obtain ⟨h1, h2, h3, h4, h5, h6⟩ := gok_t hok
  have HE : gE l d e = 0 := by simp [gE, hok]
  have H := Lib.hid hok
  clear hok
  go_enter Try.func32, Try.ntmps32
  go_wp2_with (go_at_call 22; (refine (rcheck_any _ _ _ _).mono ?_); rintro e w' ⟨rfl, hb⟩; rw [HE]; obtain ⟨hc, hf⟩ := bcell hb; have hz : w.heap.size + 1 < w'.heap.size := by (have := hb.size; simp at this; omega))
  clear HE
  have cl : w'.cell? ⟨w.heap.size, 0, none⟩ = some (.int .i64 l) := by simp [go_sem, hc]
  have cd : w'.cell? ⟨w.heap.size, 1, none⟩ = some (.int .i64 d) := by simp [go_sem, hc]
  have ci : w'.cell? ⟨w.heap.size + 1, 0, none⟩ = some (.int .i64 i) := by simp [go_sem, hc]
  have cb : w'.cell? ⟨w.heap.size + 1, 1, none⟩ = some (.int .i64 b) := by simp [go_sem, hc]
  have cp : w'.cell? ⟨w.heap.size + 1, 2, none⟩ = some (.int .i64 p) := by simp [go_sem, hc]
  have ch : w'.cell? ⟨w.heap.size + 1, 3, none⟩ = some (.int .i64 h) := by simp [go_sem, hc]
  go_loopw [5, 6] (fun a c wr => ∃ k : Nat, (k : Int) ≤ d + 1 ∧ c = .int .i64 k ∧ a = .bool (kn i l k) ∧ Below (w.heap.size + 2) w' wr) (fun _ c _ => (d + 1 - (intOf c)).toNat)
  case atStart => exact ⟨0, by omega, rfl, rfl, Below.refl _ _⟩
  case round =>
    obtain ⟨k, hk, rfl, rfl, hbr⟩ := hrel
    have dl := kcell hbr cl (by omega)
    have dd := kcell hbr cd (by omega)
    have di := kcell hbr ci (by omega)
    have db := kcell hbr cb (by omega)
    have dp := kcell hbr cp (by omega)
    have dh := kcell hbr ch (by omega)
    have hB : Below w.heap.size w wr := bl2 (hb.trans (hbr.mono (by simp)))
    clear hc hf cl ci cb cp ch hb cd
    by_cases hlt : (k : Int) ≤ d
    · cases hkn : kn i l k
      · go_wp2
        go_quiet (fail)
        go_wp2
        go_roundw
        case rel => exact ⟨k + 1, by omega, by go_num, by rw [wpow l k (by omega) h1 h2]; simp [kn, hkn], below_drewN hbr _⟩
        case measure => simp [intOf]; omega
      · go_wp2
        go_quiet (fail)
        go_wp2
        go_roundw
        case rel => exact ⟨k + 1, by omega, by go_num, by simp [kn, hkn], below_drewN hbr _⟩
        case measure => simp [intOf]; omega
    · obtain rfl : k = (d + 1).toNat := by omega
      cases hkn : kn i l (d + 1).toNat
      · have HK := Lib.hid hkn
        go_wp2
        go_ret
        exact ⟨ret_i (vE_k H.out HK.out), hB⟩
      · have HK := Lib.hid hkn
        obtain ⟨i1, i2⟩ := kn_bd hkn (by omega) h1 h2
        go_wp2
        all_goals
          go_ret
          refine ⟨ret_i ?_, hB⟩
          first
            | (refine vE_1 H.out ?_; omega)
            | (refine vE_0 H.out HK.out ?_; omega)
end Go.Proofs.Ytcojimifplhodaa
