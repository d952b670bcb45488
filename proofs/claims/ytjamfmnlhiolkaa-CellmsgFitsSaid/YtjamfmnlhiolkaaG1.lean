/- Messages: lists of places are read. -/
import Derived.Test.YtjamfmnlhiolkaaF9
import Derived.Test.YtjamfmnlhiolkaaD11
import Derived.Test.YtjamfmnlhiolkaaD9
set_option linter.unusedVariables false
set_option linter.unusedSimpArgs false
namespace Go.Proofs.Ytjamfmnlhiolkaa
open Go Av
set_option maxRecDepth 20000
theorem spC_len (L : List Sp) : (L.flatMap spC).length = 2 * L.length := by
  induction L with
  | nil => rfl
  | cons p L ih => rw [List.flatMap_cons, List.length_append, ih, List.length_cons, show (spC p).length = 2 from rfl]; omega
/-- So many places, read. -/
def plR (d : ByteArray) (a : Nat) (e : Int) : Nat → List Sp × Nat × Int
  | 0 => ([], a, e)
  | k + 1 => ((plR d a e k).1 ++ [((unsR d (plR d a e k).2.1 (plR d a e k).2.2 9).1, (unsR d (unsR d (plR d a e k).2.1 (plR d a e k).2.2 9).2.1 (unsR d (plR d a e k).2.1 (plR d a e k).2.2 9).2.2 4).1, ())],
      (unsR d (unsR d (plR d a e k).2.1 (plR d a e k).2.2 9).2.1 (unsR d (plR d a e k).2.1 (plR d a e k).2.2 9).2.2 4).2)
theorem plR_succ {d : ByteArray} {a a0 a1 a2 : Nat} {e e0 e1 e2 v1 v2 : Int} {k : Nat} {L : List Sp} (h : plR d a e k = (L, a0, e0)) (h1 : unsR d a0 e0 9 = (v1, a1, e1)) (h2 : unsR d a1 e1 4 = (v2, a2, e2)) : plR d a e (k + 1) = (L ++ [(v1, v2, ())], a2, e2) := by
  rw [plR, h]
  dsimp only
  rw [h1]
  dsimp only
  rw [h2]
theorem unsR_le {d : ByteArray} {a a' : Nat} {e e' w v : Int} (h : unsR d a e w = (v, a', e')) (ha : a ≤ 8 * d.size) (hw : 1 ≤ w ∧ w ≤ 63) : a' ≤ 8 * d.size := by
  unfold unsR at h
  rcases fieldR_cases h with ⟨_, _, rfl, _⟩ | ⟨_, _, _, rfl, _, h6⟩ <;> omega
theorem flgR_le {d : ByteArray} {a a' : Nat} {e e' : Int} {v : Bool} (h : flgR d a e = (v, a', e')) (ha : a ≤ 8 * d.size) : a' ≤ 8 * d.size := by
  unfold flgR at h
  obtain ⟨v1, a1, e1, h1⟩ : ∃ v1 a1 e1, fieldR d a e true 1 = (v1, a1, e1) := ⟨_, _, _, rfl⟩
  rw [h1] at h
  simp only [Prod.mk.injEq] at h
  obtain ⟨_, rfl, rfl⟩ := h
  rcases fieldR_cases h1 with ⟨_, _, rfl, _⟩ | ⟨_, _, _, rfl, _, h6⟩ <;> omega
theorem unsR_rng {d : ByteArray} {a a' : Nat} {e e' w v : Int} (h : unsR d a e w = (v, a', e')) (hw : 1 ≤ w ∧ w ≤ 63) : 0 ≤ v ∧ v < 2 ^ w.toNat := by
  unfold unsR at h
  rcases fieldR_cases h with ⟨_, rfl, _, _⟩ | ⟨_, _, _, _, rfl, _⟩
  · exact ⟨Int.le_refl _, Int.pow_pos (by decide)⟩
  · exact rdN_bd d a w.toNat
theorem rr_ex2 (d : ByteArray) (a : Nat) (e : Int) : ∃ d2 a2, RR d a e d2 a2 := by
  by_cases he : e = 0
  · exact ⟨d, a, fun _ => ⟨rfl, rfl⟩, fun h => absurd he h⟩
  · exact ⟨⟨#[]⟩, 0, fun h => absurd h he, fun _ => ⟨rfl, rfl⟩⟩
structure Rg where
  i : Nat
  L : List Sp
  a : Nat
  e : Int
  d2 : ByteArray
  a2 : Int
set_option maxHeartbeats 4000000 in
theorem ac_plread (d : ByteArray) (a a0 a' : Nat) (e e0 e' n : Int) (N : Nat) (L : List Sp) (h0 : unsR d a e 4 = (n, a0, e0)) (hN : min n 8 = (N : Int)) (hL : plR d a0 e0 N = (L, a', e')) (ha : a ≤ 8 * d.size) (hd : d.size ≤ 1000000) : ACalls Try.prog 47 [.func (.func 45) #[.pointer (some ⟨0, 0, none⟩)] #[]] [some ⟨[.string d, .int .i64 (a : Int), .int .i64 e], true, 1⟩] (.slice (some ⟨1, 0, none⟩) N N) [some ⟨[.string d, .int .i64 (a' : Int), .int .i64 e'], true, 1⟩, some ⟨L.flatMap spC, true, 2⟩] := by
  have hle0 := unsR_le h0 ha (by decide)
  have H0 := ac_unsR 4 e e0 n a a0 d h0 ha hd (by decide)
  refine acalls_of_aw Try.func47 rfl rfl ?_
  refine aw_ghost 2 rfl ?_
  repeat' first
    | refine st (v := .int .i64 N) (h := by (rw [← hN]; apply ok_min; rfl; rfl)) ?_
    | refine st ?_
    | refine stMW [0] H0 ?_
    | refine stm ?_
    | refine run_want rfl rfl ?_
    | refine run_unwant rfl rfl ?_
    | refine run_undef rfl rfl ?_
    | refine run_guard1t rfl rfl (by omega) ?_
    | refine run_guard1f rfl rfl (by omega) ?_
    | refine run_guard0t rfl rfl (by omega) ?_
    | refine run_guard0f rfl rfl (by omega) ?_
    | refine run_guard1 rfl rfl (fun h1 => ?_) (fun h1 => ?_)
    | refine run_guard0 rfl rfl (fun h1 => ?_) (fun h1 => ?_)
    | refine run_guard rfl rfl (fun h1 => ?_) (fun h1 => ?_)
    | refine run_nil ?_
    | refine aw_seq ?_
    | refine aw_region (by kernel_rfl) (Nat.le_of_ble_eq_true rfl) ?_
    | refine aw_block ?_
    | refine aw_cond_t rfl ?_
    | refine aw_cond_f rfl ?_
    | refine aw_cond_tp rfl (by omega) ?_
    | refine aw_cond_fp rfl (by omega) ?_
    | refine aw_cond1 rfl (fun h1 => ?_) (fun h1 => ?_)
    | refine aw_cond rfl (fun h1 => ?_) (fun h1 => ?_)
    | refine aw_skip ?_
    | refine aw_exit ?_
    | refine aw_ret ?_
    | refine pp_ret ?_
    | refine pp_normal ?_
  clear H0
  refine aw_loopg
    (S := fun y : Rg => [(0, .func (.func 45) #[.pointer (some ⟨0, 0, none⟩)] #[]), (3, .slice (some ⟨1, 0, none⟩) y.i y.i), (6, .int .i64 N), (7, .int .i64 y.i)])
    (B := fun y : Rg => [some ⟨[.string d, .int .i64 (y.a : Int), .int .i64 y.e], true, 1⟩, some ⟨y.L.flatMap spC, true, 2⟩])
    (R := fun y : Rg => y.i ≤ N ∧ plR d a0 e0 y.i = (y.L, y.a, y.e) ∧ y.L.length = y.i ∧ y.a ≤ 8 * d.size)
    (μ := fun y : Rg => N - y.i) ⟨0, [], a0, e0, d, 0⟩ (fitsD [0, 1]) ⟨Nat.zero_le _, rfl, rfl, hle0⟩ ?_
  · skip
    rintro ⟨i, Li, ai, ei, d2, a2⟩ ⟨g1, g2, g3, g4⟩
    dsimp only at *
    by_cases hi : i < N
    · obtain ⟨v1, a1, e1, h1⟩ : ∃ v z e1, unsR d ai ei 9 = (v, z, e1) := ⟨_, _, _, rfl⟩
      have l1 := unsR_le h1 g4 (by decide)
      obtain ⟨v2, a2, e2, h2⟩ : ∃ v z e2, unsR d a1 e1 4 = (v, z, e2) := ⟨_, _, _, rfl⟩
      have l2 := unsR_le h2 l1 (by decide)
      have hn := plR_succ g2 h1 h2
      have H1 := ac_unsR 9 ei e1 v1 ai a1 d h1 g4 hd (by decide)
      have H2 := ac_unsR 4 e1 e2 v2 a1 a2 d h2 l1 hd (by decide)
      repeat' first
        | refine run_step (ok_append (cs := (Li ++ [(v1, v2, ())]).flatMap spC) (olds := Li.flatMap spC) rfl rfl rfl rfl rfl rfl (Src.slc rfl Ty.eq rfl (Nat.le_of_ble_eq_true rfl) rfl rfl rfl) (by rw [spC_len]; omega) (take_full (by rw [spC_len]; omega)) (by rw [List.flatMap_append]; rfl) (by omega) (by (repeat constructor))) (Nat.le_of_ble_eq_true rfl) ?_
        | refine st ?_
        | refine stMW [0] H1 ?_
        | refine stMW [0] H2 ?_
        | refine stm ?_
        | refine run_want rfl rfl ?_
        | refine run_unwant rfl rfl ?_
        | refine run_undef rfl rfl ?_
        | refine run_guard1t rfl rfl (by omega) ?_
        | refine run_guard1f rfl rfl (by omega) ?_
        | refine run_guard0t rfl rfl (by omega) ?_
        | refine run_guard0f rfl rfl (by omega) ?_
        | refine run_guard1 rfl rfl (fun h1 => ?_) (fun h1 => ?_)
        | refine run_guard0 rfl rfl (fun h1 => ?_) (fun h1 => ?_)
        | refine run_guard rfl rfl (fun h1 => ?_) (fun h1 => ?_)
        | refine run_nil ?_
        | refine aw_seq ?_
        | refine aw_region (by kernel_rfl) (Nat.le_of_ble_eq_true rfl) ?_
        | refine aw_block ?_
        | refine aw_cond_t rfl ?_
        | refine aw_cond_f rfl ?_
        | refine aw_cond_tp rfl (by omega) ?_
        | refine aw_cond_fp rfl (by omega) ?_
        | refine aw_cond1 rfl (fun h1 => ?_) (fun h1 => ?_)
        | refine aw_cond rfl (fun h1 => ?_) (fun h1 => ?_)
        | refine aw_skip ?_
        | refine aw_exit ?_
        | refine aw_ret ?_
        | refine pp_ret ?_
        | refine pp_normal ?_
      all_goals first | exact Exists.intro ⟨i + 1, Li ++ [(v1, v2, ())], a2, e2, d, 0⟩ ⟨fitsD [0, 3], ⟨hi, hn, by rw [List.length_append, g3]; rfl, l2⟩, by dsimp only; omega⟩ | (exfalso; omega)
    · obtain rfl : i = N := by omega
      rw [g2] at hL
      simp only [Prod.mk.injEq] at hL
      obtain ⟨rfl, rfl, rfl⟩ := hL
      repeat' first
        | refine st ?_
        | refine stm ?_
        | refine run_want rfl rfl ?_
        | refine run_unwant rfl rfl ?_
        | refine run_undef rfl rfl ?_
        | refine run_guard1t rfl rfl (by omega) ?_
        | refine run_guard1f rfl rfl (by omega) ?_
        | refine run_guard0t rfl rfl (by omega) ?_
        | refine run_guard0f rfl rfl (by omega) ?_
        | refine run_guard1 rfl rfl (fun h1 => ?_) (fun h1 => ?_)
        | refine run_guard0 rfl rfl (fun h1 => ?_) (fun h1 => ?_)
        | refine run_guard rfl rfl (fun h1 => ?_) (fun h1 => ?_)
        | refine run_nil ?_
        | refine aw_seq ?_
        | refine aw_region (by kernel_rfl) (Nat.le_of_ble_eq_true rfl) ?_
        | refine aw_block ?_
        | refine aw_cond_t rfl ?_
        | refine aw_cond_f rfl ?_
        | refine aw_cond_tp rfl (by omega) ?_
        | refine aw_cond_fp rfl (by omega) ?_
        | refine aw_cond1 rfl (fun h1 => ?_) (fun h1 => ?_)
        | refine aw_cond rfl (fun h1 => ?_) (fun h1 => ?_)
        | refine aw_skip ?_
        | refine aw_exit ?_
        | refine aw_ret ?_
        | refine pp_ret ?_
        | refine pp_normal ?_
      all_goals first | exact pm_ret _ (renumD [0, 1]) rfl | exact pm_normal _ (renumD [0, 1]) rfl | (exfalso; omega)
set_option maxHeartbeats 4000000 in
theorem ac_rread (d d2 d2' : ByteArray) (a2 a2' : Int) (a a0 a' : Nat) (e e0 e' n : Int) (N : Nat) (L : List Sp) (h0 : unsR d a e 4 = (n, a0, e0)) (hN : n = (N : Int)) (hL : plR d a0 e0 N = (L, a', e')) (hr : RR d a e d2 a2) (hr' : RR d a' e' d2' a2') (ha : a ≤ 8 * d.size) (hd : d.size ≤ 1000000) : ACalls Try.prog 52 [.pointer (some ⟨0, 0, none⟩)] [some ⟨[.string d2, .int .i64 a2, .int .i64 e], true, 1⟩] (.slice (some ⟨1, 0, none⟩) N N) [some ⟨[.string d2', .int .i64 a2', .int .i64 e'], true, 1⟩, some ⟨L.flatMap spC, true, 2⟩] := by
  have hle0 := unsR_le h0 ha (by decide)
  obtain ⟨d3, a3, hr3⟩ := rr_ex2 d a0 e0
  have H0 := ac_runsR 4 e e0 n a a0 d d2 d3 a2 a3 h0 hr hr3 ha hd (by decide)
  subst hN
  have hNN := (unsR_rng h0 (by decide)).2
  rw [show ((2 : Int) ^ (4 : Int).toNat) = 16 from rfl] at hNN
  refine acalls_of_aw Try.func52 rfl rfl ?_
  refine aw_ghost 2 rfl ?_
  repeat' first
    | refine st ?_
    | refine stMW [0] H0 ?_
    | refine stm ?_
    | refine run_want rfl rfl ?_
    | refine run_unwant rfl rfl ?_
    | refine run_undef rfl rfl ?_
    | refine run_guard1t rfl rfl (by omega) ?_
    | refine run_guard1f rfl rfl (by omega) ?_
    | refine run_guard0t rfl rfl (by omega) ?_
    | refine run_guard0f rfl rfl (by omega) ?_
    | refine run_guard1 rfl rfl (fun h1 => ?_) (fun h1 => ?_)
    | refine run_guard0 rfl rfl (fun h1 => ?_) (fun h1 => ?_)
    | refine run_guard rfl rfl (fun h1 => ?_) (fun h1 => ?_)
    | refine run_nil ?_
    | refine aw_seq ?_
    | refine aw_region (by kernel_rfl) (Nat.le_of_ble_eq_true rfl) ?_
    | refine aw_block ?_
    | refine aw_cond_t rfl ?_
    | refine aw_cond_f rfl ?_
    | refine aw_cond_tp rfl (by omega) ?_
    | refine aw_cond_fp rfl (by omega) ?_
    | refine aw_cond1 rfl (fun h1 => ?_) (fun h1 => ?_)
    | refine aw_cond rfl (fun h1 => ?_) (fun h1 => ?_)
    | refine aw_skip ?_
    | refine aw_exit ?_
    | refine aw_ret ?_
    | refine pp_ret ?_
    | refine pp_normal ?_
  clear H0
  refine aw_loopg
    (S := fun y : Rg => [(0, .pointer (some ⟨0, 0, none⟩)), (3, .slice (some ⟨1, 0, none⟩) y.i y.i), (4, .int .i64 N), (5, .int .i64 y.i)])
    (B := fun y : Rg => [some ⟨[.string y.d2, .int .i64 y.a2, .int .i64 y.e], true, 1⟩, some ⟨y.L.flatMap spC, true, 2⟩])
    (R := fun y : Rg => y.i ≤ N ∧ plR d a0 e0 y.i = (y.L, y.a, y.e) ∧ y.L.length = y.i ∧ y.a ≤ 8 * d.size ∧ RR d y.a y.e y.d2 y.a2)
    (μ := fun y : Rg => N - y.i) ⟨0, [], a0, e0, d3, a3⟩ (fitsD [0, 1]) ⟨Nat.zero_le _, rfl, rfl, hle0, hr3⟩ ?_
  rintro ⟨i, Li, ai, ei, d4, a4⟩ ⟨g1, g2, g3, g4, g5⟩
  dsimp only at *
  by_cases hi : i < N
  · obtain ⟨v1, a1, e1, h1⟩ : ∃ v z e1, unsR d ai ei 9 = (v, z, e1) := ⟨_, _, _, rfl⟩
    have l1 := unsR_le h1 g4 (by decide)
    obtain ⟨v2, a2, e2, h2⟩ : ∃ v z e2, unsR d a1 e1 4 = (v, z, e2) := ⟨_, _, _, rfl⟩
    have l2 := unsR_le h2 l1 (by decide)
    have hn := plR_succ g2 h1 h2
    obtain ⟨d5, a5, r5⟩ := rr_ex2 d a1 e1
    obtain ⟨d6, a6, r6⟩ := rr_ex2 d a2 e2
    have H1 := ac_runsR 9 ei e1 v1 ai a1 d d4 d5 a4 a5 h1 g5 r5 g4 hd (by decide)
    have H2 := ac_runsR 4 e1 e2 v2 a1 a2 d d5 d6 a5 a6 h2 r5 r6 l1 hd (by decide)
    repeat' first
      | refine run_step (ok_append (cs := (Li ++ [(v1, v2, ())]).flatMap spC) (olds := Li.flatMap spC) rfl rfl rfl rfl rfl rfl (Src.slc rfl Ty.eq rfl (Nat.le_of_ble_eq_true rfl) rfl rfl rfl) (by rw [spC_len]; omega) (take_full (by rw [spC_len]; omega)) (by rw [List.flatMap_append]; rfl) (by omega) (by (repeat constructor))) (Nat.le_of_ble_eq_true rfl) ?_
      | refine st ?_
      | refine stMW [0] H1 ?_
      | refine stMW [0] H2 ?_
      | refine stm ?_
      | refine run_want rfl rfl ?_
      | refine run_unwant rfl rfl ?_
      | refine run_undef rfl rfl ?_
      | refine run_guard1t rfl rfl (by omega) ?_
      | refine run_guard1f rfl rfl (by omega) ?_
      | refine run_guard0t rfl rfl (by omega) ?_
      | refine run_guard0f rfl rfl (by omega) ?_
      | refine run_guard1 rfl rfl (fun h1 => ?_) (fun h1 => ?_)
      | refine run_guard0 rfl rfl (fun h1 => ?_) (fun h1 => ?_)
      | refine run_guard rfl rfl (fun h1 => ?_) (fun h1 => ?_)
      | refine run_nil ?_
      | refine aw_seq ?_
      | refine aw_region (by kernel_rfl) (Nat.le_of_ble_eq_true rfl) ?_
      | refine aw_block ?_
      | refine aw_cond_t rfl ?_
      | refine aw_cond_f rfl ?_
      | refine aw_cond_tp rfl (by omega) ?_
      | refine aw_cond_fp rfl (by omega) ?_
      | refine aw_cond1 rfl (fun h1 => ?_) (fun h1 => ?_)
      | refine aw_cond rfl (fun h1 => ?_) (fun h1 => ?_)
      | refine aw_skip ?_
      | refine aw_exit ?_
      | refine aw_ret ?_
      | refine pp_ret ?_
      | refine pp_normal ?_
    all_goals first | exact Exists.intro ⟨i + 1, Li ++ [(v1, v2, ())], a2, e2, d6, a6⟩ ⟨fitsD [0, 3], ⟨hi, hn, by rw [List.length_append, g3]; rfl, l2, r6⟩, by dsimp only; omega⟩ | (exfalso; omega)
  · obtain rfl : i = N := by omega
    rw [g2] at hL
    simp only [Prod.mk.injEq] at hL
    obtain ⟨rfl, rfl, rfl⟩ := hL
    obtain ⟨rfl, rfl⟩ : d4 = d2' ∧ a4 = a2' := by
      by_cases he : ei = 0
      · obtain ⟨x1, x2⟩ := g5.1 he
        obtain ⟨y1, y2⟩ := hr'.1 he
        exact ⟨x1.trans y1.symm, x2.trans y2.symm⟩
      · obtain ⟨x1, x2⟩ := g5.2 he
        obtain ⟨y1, y2⟩ := hr'.2 he
        exact ⟨x1.trans y1.symm, x2.trans y2.symm⟩
    repeat' first
      | refine st ?_
      | refine stm ?_
      | refine run_want rfl rfl ?_
      | refine run_unwant rfl rfl ?_
      | refine run_undef rfl rfl ?_
      | refine run_guard1t rfl rfl (by omega) ?_
      | refine run_guard1f rfl rfl (by omega) ?_
      | refine run_guard0t rfl rfl (by omega) ?_
      | refine run_guard0f rfl rfl (by omega) ?_
      | refine run_guard1 rfl rfl (fun h1 => ?_) (fun h1 => ?_)
      | refine run_guard0 rfl rfl (fun h1 => ?_) (fun h1 => ?_)
      | refine run_guard rfl rfl (fun h1 => ?_) (fun h1 => ?_)
      | refine run_nil ?_
      | refine aw_seq ?_
      | refine aw_region (by kernel_rfl) (Nat.le_of_ble_eq_true rfl) ?_
      | refine aw_block ?_
      | refine aw_cond_t rfl ?_
      | refine aw_cond_f rfl ?_
      | refine aw_cond_tp rfl (by omega) ?_
      | refine aw_cond_fp rfl (by omega) ?_
      | refine aw_cond1 rfl (fun h1 => ?_) (fun h1 => ?_)
      | refine aw_cond rfl (fun h1 => ?_) (fun h1 => ?_)
      | refine aw_skip ?_
      | refine aw_exit ?_
      | refine aw_ret ?_
      | refine pp_ret ?_
      | refine pp_normal ?_
    all_goals first | exact pm_ret _ (renumD [0, 1]) rfl | exact pm_normal _ (renumD [0, 1]) rfl | (exfalso; omega)
end Go.Proofs.Ytjamfmnlhiolkaa
