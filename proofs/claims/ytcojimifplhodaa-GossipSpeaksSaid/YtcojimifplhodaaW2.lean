/- begin, Start, check, greatest and quiet, of the program and of the reference. -/
import Derived.Test.YtcojimifplhodaaW1
namespace Go.Proofs.Ytcojimifplhodaa
open Go.RowKit

theorem md_bd (n x : Int) (hn : 2 ≤ n) (hn2 : n ≤ 262144) : 0 ≤ x % (n - n / 2) ∧ x % (n - n / 2) < n - n / 2 ∧ 1 ≤ n / 2 ∧ n / 2 < n := by
  have h : 0 < n - n / 2 := by omega
  exact ⟨Int.emod_nonneg _ (by omega), Int.emod_lt_of_pos _ h, by omega, by omega⟩

set_option maxHeartbeats 400000 in
theorem begin_any (n s x : Int) (w : World) (hn : 2 ≤ n) (hn2 : n ≤ 262144) (hs : 0 ≤ s) (hs2 : s ≤ 1073741824) (hx : 0 ≤ x) (hx2 : x ≤ 4294967295) :
    Calls Try.prog 21 #[.int .i64 n, .int .i64 s, .int .u32 x] w (Ret (.agg #[.int .i64 (bgn n s x).i, .int .i64 (bgn n s x).b, .int .i64 (bgn n s x).p, .int .i64 (bgn n s x).h]) w) := by
  obtain ⟨m1, m2, m3, m4⟩ := md_bd n x hn hn2
  go_enter Try.func21, Try.ntmps21
  go_wp2
  exact bodyPost_ret (v := .agg #[.int .i64 n, .int .i64 s, .int .i64 (s + n / 2 + x % (n - n / 2)), .int .i64 0]) (by simp [results, Try.results21, go_sem]) rfl ⟨rfl, bl0 _⟩

set_option maxHeartbeats 400000 in
theorem rbegin_any (n s x : Int) (w : World) (hn : 2 ≤ n) (hn2 : n ≤ 262144) (hs : 0 ≤ s) (hs2 : s ≤ 1073741824) (hx : 0 ≤ x) (hx2 : x ≤ 4294967295) :
    Calls Try.prog 23 #[.int .i64 n, .int .i64 s, .int .u32 x] w (Ret (.agg #[.int .i64 (bgn n s x).i, .int .i64 (bgn n s x).b, .int .i64 (bgn n s x).p, .int .i64 (bgn n s x).h]) w) := by
  obtain ⟨m1, m2, m3, m4⟩ := md_bd n x hn hn2
  go_enter Try.func23, Try.ntmps23
  go_wp2
  exact bodyPost_ret (v := .agg #[.int .i64 n, .int .i64 s, .int .i64 (s + n / 2 + x % (n - n / 2)), .int .i64 0]) (by simp [results, Try.results23, go_sem]) rfl ⟨rfl, bl0 _⟩

set_option maxHeartbeats 400000 in
theorem greatest_any (l d e : Int) (w : World) (h : gok l d e = true) :
    Calls Try.prog 25 #[.agg #[.int .i64 l, .int .i64 d, .int .i64 e]] w (Ret (.int .i64 (top l d)) w) := by
  obtain ⟨h1, h2, h3, h4, h5, h6⟩ := gok_t h
  obtain ⟨k, rfl⟩ : ∃ k : Nat, d = k := ⟨d.toNat, by omega⟩
  have H := wpow l k (by omega) h1 h2
  clear h
  have HH := Lib.hid H
  clear H
  go_enter Try.func25, Try.ntmps25
  go_wp2
  go_ret
  exact ⟨ret_i (by rw [HH.out]; rfl), bl0 _⟩

set_option maxHeartbeats 400000 in
theorem rGreatest_any (l d e : Int) (w : World) (h : gok l d e = true) :
    Calls Try.prog 28 #[.agg #[.int .i64 l, .int .i64 d, .int .i64 e]] w (Ret (.int .i64 (top l d)) w) := by
  obtain ⟨h1, h2, h3, h4, h5, h6⟩ := gok_t h
  have HE : gE l d e = 0 := by simp [gE, h]
  obtain ⟨k, rfl⟩ : ∃ k : Nat, d = k := ⟨d.toNat, by omega⟩
  have H := wpow l k (by omega) h1 h2
  clear h
  have HH := Lib.hid H
  clear H
  go_enter Try.func28, Try.ntmps28
  go_wp2_with (go_at_call 22; (refine (rcheck_any _ _ _ _).mono ?_); rintro e w' ⟨rfl, hb⟩; rw [HE]; obtain ⟨hc, hf⟩ := bcell hb)
  go_ret
  exact ⟨ret_i (by rw [HH.out]; rfl), bl1 hb⟩

set_option maxHeartbeats 400000 in
theorem Greatest_any (l d e : Int) (w : World) (h : gok l d e = true) :
    Calls Try.prog 17 #[.agg #[.int .i64 l, .int .i64 d, .int .i64 e]] w (Ret (.int .i64 (top l d)) w) := by
  have HE : gE l d e = 0 := by simp [gE, h]
  have H := Lib.hid h
  clear h
  go_enter Try.func17, Try.ntmps17
  go_wp2_with (first
    | (go_at_call 18; (refine (check_any _ _ _ _).mono ?_); rintro e w' ⟨rfl, hb⟩; rw [HE]; obtain ⟨hc, hf⟩ := bcell hb)
    | (go_at_call 25; (refine (greatest_any _ _ _ _ H.out).mono ?_); rintro e w'' ⟨rfl, hb2⟩))
  go_ret
  exact ⟨rfl, bl1 (hb.trans (hb2.mono hb.size))⟩

set_option maxHeartbeats 400000 in
theorem quiet_any (l d e i b p h : Int) (w : World) :
    Calls Try.prog 26 #[.agg #[.int .i64 l, .int .i64 d, .int .i64 e], .agg #[.int .i64 i, .int .i64 b, .int .i64 p, .int .i64 h]] w (Ret (.bool (quiet e ⟨i, b, p, h⟩)) w) := by
  cases he : e == 0
  · go_enter Try.func26, Try.ntmps26
    go_wp2
    go_ret
    exact ⟨ret_b (by simp [quiet, he]), bl2 (Below.refl _ _)⟩
  · go_enter Try.func26, Try.ntmps26
    go_wp2
    go_ret
    exact ⟨ret_b (by simp [quiet, he]), bl2 (Below.refl _ _)⟩

theorem cE_v {l d e : Int} {r : Rm} {s : Int} (h : (vE l d e r != 0) = true) : vE l d e r = cE l d e r s := by
  simp at h; simp [cE, h]
theorem cE_s {l d e : Int} {r : Rm} {s : Int} (h : (vE l d e r != 0) = false) (h1 : ¬ (0 ≤ s ∧ s ≤ 1073741824)) : 2 = cE l d e r s := by
  simp at h; simp only [cE, h, if_true, if_neg h1]
theorem cE_5 {l d e : Int} {r : Rm} {s : Int} (h : (vE l d e r != 0) = false) (h1 : 0 ≤ s ∧ s ≤ 1073741824) (h2 : s < r.b) : 5 = cE l d e r s := by
  simp at h; simp only [cE, h, if_true, if_pos h1, if_pos h2]
theorem cE_0 {l d e : Int} {r : Rm} {s : Int} (h : (vE l d e r != 0) = false) (h1 : 0 ≤ s ∧ s ≤ 1073741824) (h2 : ¬ s < r.b) : 0 = cE l d e r s := by
  simp at h; simp only [cE, h, if_true, if_pos h1, if_neg h2]

set_option maxHeartbeats 800000 in
theorem chk_any (l d e i b p h s : Int) (w : World) :
    Calls Try.prog 24 #[.agg #[.int .i64 l, .int .i64 d, .int .i64 e], .agg #[.int .i64 i, .int .i64 b, .int .i64 p, .int .i64 h], .int .i64 s] w (Ret (.int .i64 (cE l d e ⟨i, b, p, h⟩ s)) w) := by
  cases hv : vE l d e ⟨i, b, p, h⟩ != 0
  all_goals
    have HV := Lib.hid hv
    go_enter Try.func24, Try.ntmps24
    go_wp2_with (go_at_call 16; (refine (valid_any _ _ _ _ _ _ _ _).mono ?_); rintro e w' ⟨rfl, hb⟩; obtain ⟨hc, hf⟩ := bcell hb)
    all_goals
      go_ret
      refine ⟨ret_i ?_, bl2 hb⟩
      first
        | exact cE_v HV.out
        | (refine cE_s HV.out ?_; omega)
        | (refine cE_5 HV.out ?_ ?_ <;> (try simp only []) <;> omega)
        | (refine cE_0 HV.out ?_ ?_ <;> (try simp only []) <;> omega)

set_option maxHeartbeats 800000 in
theorem rchk_any (l d e i b p h s : Int) (w : World) :
    Calls Try.prog 27 #[.agg #[.int .i64 l, .int .i64 d, .int .i64 e], .agg #[.int .i64 i, .int .i64 b, .int .i64 p, .int .i64 h], .int .i64 s] w (Ret (.int .i64 (cE l d e ⟨i, b, p, h⟩ s)) w) := by
  cases hv : vE l d e ⟨i, b, p, h⟩ != 0
  all_goals
    have HV := Lib.hid hv
    go_enter Try.func27, Try.ntmps27
    go_wp2_with (go_at_call 32; (refine (rvalid_any _ _ _ _ _ _ _ _).mono ?_); rintro e w' ⟨rfl, hb⟩; obtain ⟨hc, hf⟩ := bcell hb)
    all_goals
      go_ret
      refine ⟨ret_i ?_, bl2 hb⟩
      first
        | exact cE_v HV.out
        | (refine cE_s HV.out ?_; omega)
        | (refine cE_5 HV.out ?_ ?_ <;> (try simp only []) <;> omega)
        | (refine cE_0 HV.out ?_ ?_ <;> (try simp only []) <;> omega)
end Go.Proofs.Ytcojimifplhodaa
