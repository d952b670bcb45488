/- Offers: hopping lists are read. -/
import Derived.Test.YtfabgdignlfihaaH5
import Derived.Test.YtfabgdignlfihaaBD
import Derived.Test.YtfabgdignlfihaaVJ
set_option linter.unusedVariables false
set_option linter.unusedSimpArgs false
namespace Go.Proofs.Ytfabgdignlfihaa
open Go Av
set_option maxRecDepth 20000
def u_ (d : ByteArray) (w : Int) (p : Nat × Int) : Int × Nat × Int := unsR d p.1 p.2 w
def f_ (d : ByteArray) (p : Nat × Int) : Bool × Nat × Int := flgR d p.1 p.2
def t_ (d : ByteArray) (m : Int) (p : Nat × Int) : ByteArray × Nat × Int := txtR d p.1 p.2 m
/-- So many channels, read. -/
def chR (d : ByteArray) (a : Nat) (e : Int) : Nat → List Int × Nat × Int
  | 0 => ([], a, e)
  | k + 1 => ((chR d a e k).1 ++ [(unsR d (chR d a e k).2.1 (chR d a e k).2.2 4).1], (unsR d (chR d a e k).2.1 (chR d a e k).2.2 4).2)
theorem chR_succ {d : ByteArray} {a a0 a1 : Nat} {e e0 e1 v1 : Int} {k : Nat} {L : List Int} (h : chR d a e k = (L, a0, e0)) (h1 : unsR d a0 e0 4 = (v1, a1, e1)) : chR d a e (k + 1) = (L ++ [v1], a1, e1) := by
  rw [chR, h]
  dsimp only
  rw [h1]
theorem unsR_le {d : ByteArray} {a a' : Nat} {e e' w v : Int} (h : unsR d a e w = (v, a', e')) (ha : a ≤ 8 * d.size) (hw : 1 ≤ w ∧ w ≤ 63) : a' ≤ 8 * d.size := by
  unfold unsR at h
  rcases fieldR_cases h with ⟨_, _, rfl, _⟩ | ⟨_, _, _, rfl, _, h6⟩ <;> omega
theorem flgR_le {d : ByteArray} {a a' : Nat} {e e' : Int} {v : Bool} (h : flgR d a e = (v, a', e')) (ha : a ≤ 8 * d.size) : a' ≤ 8 * d.size := by
  unfold flgR at h
  obtain ⟨v1, a1, e1, h1⟩ : ∃ v1 a1 e1, fieldR d a e true 1 = (v1, a1, e1) := ⟨_, _, _, rfl⟩
  rw [h1] at h
  simp only [Prod.mk.injEq] at h
  obtain ⟨_, rfl, rfl⟩ := h
  rcases fieldR_cases h1 with ⟨_, _, rfl, _⟩ | ⟨_, _, _, rfl, _, h6⟩ <;> omega
theorem unsR_rng {d : ByteArray} {a a' : Nat} {e e' w v : Int} (h : unsR d a e w = (v, a', e')) (hw : 1 ≤ w ∧ w ≤ 63) : 0 ≤ v ∧ v < 2 ^ w.toNat := by
  unfold unsR at h
  rcases fieldR_cases h with ⟨_, rfl, _, _⟩ | ⟨_, _, _, _, rfl, _⟩
  · exact ⟨Int.le_refl _, Int.pow_pos (by decide)⟩
  · exact rdN_bd d a w.toNat
theorem txtR_le {d : ByteArray} {a a' : Nat} {e e' m : Int} {t : ByteArray} (h : txtR d a e m = (t, a', e')) (ha : a ≤ 8 * d.size) (hm : 1 ≤ m ∧ m ≤ 4095) : a' ≤ 8 * d.size := by
  obtain ⟨v1, a1, e1, h1⟩ : ∃ v1 a1 e1, fieldR d a e (decide (1 ≤ m ∧ m ≤ 4095)) (wdth m) = (v1, a1, e1) := ⟨_, _, _, rfl⟩
  have hw := wdth_bd m (by omega)
  have hle : a1 ≤ 8 * d.size := by
    rw [decide_eq_true hm] at h1
    rcases fieldR_cases h1 with ⟨_, _, rfl, _⟩ | ⟨_, _, _, rfl, _, h6⟩ <;> omega
  unfold txtR at h
  rw [h1] at h
  dsimp only at h
  split at h
  · simp only [Prod.mk.injEq] at h
    omega
  · split at h
    · simp only [Prod.mk.injEq] at h; omega
    · split at h
      · simp only [Prod.mk.injEq] at h; omega
      · simp only [Prod.mk.injEq] at h; omega
theorem chR_le {d : ByteArray} {a a' : Nat} {e e' : Int} {k : Nat} {L : List Int} (h : chR d a e k = (L, a', e')) (ha : a ≤ 8 * d.size) : a' ≤ 8 * d.size := by
  induction k generalizing L a' e' with
  | zero => simp only [chR, Prod.mk.injEq] at h; omega
  | succ k ih =>
    obtain ⟨L0, a0, e0, h0⟩ : ∃ x y z, chR d a e k = (x, y, z) := ⟨_, _, _, rfl⟩
    obtain ⟨v1, a1, e1, h1⟩ : ∃ x y z, unsR d a0 e0 4 = (x, y, z) := ⟨_, _, _, rfl⟩
    rw [chR_succ h0 h1] at h
    simp only [Prod.mk.injEq] at h
    obtain ⟨_, rfl, _⟩ := h
    exact unsR_le h1 (ih h0) (by decide)
theorem chR_len {d : ByteArray} {a a' : Nat} {e e' : Int} {k : Nat} {L : List Int} (h : chR d a e k = (L, a', e')) : L.length = k := by
  induction k generalizing L a' e' with
  | zero => simp only [chR, Prod.mk.injEq] at h; rw [← h.1]; rfl
  | succ k ih =>
    obtain ⟨L0, a0, e0, h0⟩ : ∃ x y z, chR d a e k = (x, y, z) := ⟨_, _, _, rfl⟩
    obtain ⟨v1, a1, e1, h1⟩ : ∃ x y z, unsR d a0 e0 4 = (x, y, z) := ⟨_, _, _, rfl⟩
    rw [chR_succ h0 h1] at h
    simp only [Prod.mk.injEq] at h
    obtain ⟨rfl, _⟩ := h
    rw [List.length_append, ih h0]; rfl
/-- A hopping list, read. -/
def lsH (d : ByteArray) (p : Nat × Int) : (Int × Int × Int × List Int) × Nat × Int :=
  let x1 := u_ d 8 p
  let x2 := u_ d 27 x1.2
  let x3 := u_ d 27 x2.2
  let x4 := u_ d 4 x3.2
  let x5 := chR d x4.2.1 x4.2.2 (x4.1 + 1).toNat
  ((x1.1, x2.1, x3.1, x5.1), x5.2)
abbrev OfT := Int × Bool × ByteArray × Int × Int × Int × List Int
def of0 : OfT := (0, false, ⟨#[]⟩, 0, 0, 0, [])
def chkOf (m : OfT) : Int := chkO m.1 m.2.2.1 m.2.2.2.1 m.2.2.2.2.1 m.2.2.2.2.2.1 m.2.2.2.2.2.2
def encOf (m : OfT) : ByteArray := pkB (ofB m.1 m.2.1 m.2.2.1 m.2.2.2.1 m.2.2.2.2.1 m.2.2.2.2.2.1 m.2.2.2.2.2.2)
/-- An offer, read. -/
def rdO (d : ByteArray) : OfT × Nat × Int :=
  let x1 := u_ d 5 (0, 0)
  let x2 := f_ d x1.2
  let x3 := t_ d 8 x2.2
  let x4 := f_ d x3.2
  if x4.1 = true then ((x1.1, x2.1, x3.1, (lsH d x4.2).1), (lsH d x4.2).2) else ((x1.1, x2.1, x3.1, 0, 0, 0, []), x4.2)
/-- What Decode returns. -/
def decO (d : ByteArray) : OfT × Int := if closeR d (rdO d).2.1 (rdO d).2.2 ≠ 0 then (of0, 10) else if chkOf (rdO d).1 ≠ 0 then (of0, 10) else ((rdO d).1, 0)
theorem dec_bad1 {d : ByteArray} {m : OfT} {a : Nat} {e : Int} (h : rdO d = (m, a, e)) (hc : closeR d a e ≠ 0) : decO d = (of0, 10) := by
  unfold decO; rw [h]; exact if_pos hc
theorem dec_bad2 {d : ByteArray} {m : OfT} {a : Nat} {e : Int} (h : rdO d = (m, a, e)) (hc : closeR d a e = 0) (hk : chkOf m ≠ 0) : decO d = (of0, 10) := by
  unfold decO; rw [h]; dsimp only; rw [if_neg (by simpa using hc), if_pos hk]
theorem dec_good {d : ByteArray} {m : OfT} {a : Nat} {e : Int} (h : rdO d = (m, a, e)) (hc : closeR d a e = 0) (hk : chkOf m = 0) : decO d = (m, 0) := by
  unfold decO; rw [h]; dsimp only; rw [if_neg (by simpa using hc), if_neg (by simpa using hk)]
theorem rr_ex2 (d : ByteArray) (a : Nat) (e : Int) : ∃ d2 a2, RR d a e d2 a2 := by
  by_cases he : e = 0
  · exact ⟨d, a, fun _ => ⟨rfl, rfl⟩, fun h => absurd he h⟩
  · exact ⟨⟨#[]⟩, 0, fun h => absurd h he, fun _ => ⟨rfl, rfl⟩⟩
structure Cg where
  i : Nat
  L : List Int
  a : Nat
  e : Int
  d2 : ByteArray
  a2 : Int
set_option maxHeartbeats 4000000 in
theorem ac_list (d : ByteArray) (hd : d.size ≤ 1000000) (a a1 a2 a3 a4 a5 : Nat) (e e1 e2 e3 e4 e5 v f u p : Int) (C : List Int) (N : Nat) (h1 : unsR d a e 8 = (v, a1, e1)) (h2 : unsR d a1 e1 27 = (f, a2, e2)) (h3 : unsR d a2 e2 27 = (u, a3, e3)) (h4 : unsR d a3 e3 4 = (p, a4, e4)) (hN : p + 1 = (N : Int)) (h5 : chR d a4 e4 N = (C, a5, e5)) (ha : a ≤ 8 * d.size) :
    ACalls Try.prog 63 [.func (.func 60) #[.pointer (some ⟨0, 0, none⟩)] #[]] [some ⟨[.string d, .int .i64 (a : Int), .int .i64 e], true, 1⟩] (.agg #[.int .i64 v, .int .i64 f, .int .i64 u, .slice (some ⟨1, 0, none⟩) N N]) [some ⟨[.string d, .int .i64 (a5 : Int), .int .i64 e5], true, 1⟩, some ⟨List.map (Value.int .i64) C, true, 1⟩] := by
  have l1 := unsR_le h1 ha (by decide)
  have l2 := unsR_le h2 l1 (by decide)
  have l3 := unsR_le h3 l2 (by decide)
  have l4 := unsR_le h4 l3 (by decide)
  have hp := unsR_rng h4 (by decide)
  rw [show ((2 : Int) ^ (4 : Int).toNat) = 16 from rfl] at hp
  have H1 := ac_unsR 8 e e1 v a a1 d h1 ha hd (by decide)
  have H2 := ac_unsR 27 e1 e2 f a1 a2 d h2 l1 hd (by decide)
  have H3 := ac_unsR 27 e2 e3 u a2 a3 d h3 l2 hd (by decide)
  have H4 := ac_unsR 4 e3 e4 p a3 a4 d h4 l3 hd (by decide)
  refine acalls_of_aw Try.func63 rfl rfl ?_
  refine aw_ghost 1 rfl ?_
  repeat' first
    | refine st ?_
    | refine stMW [0] H1 ?_
    | refine stMW [0] H2 ?_
    | refine stMW [0] H3 ?_
    | refine stMW [0] H4 ?_
    | refine stm ?_
    | refine run_want rfl rfl ?_
    | refine run_unwant rfl rfl ?_
    | refine run_undef rfl rfl ?_
    | refine run_guard1t rfl rfl (by omega) ?_
    | refine run_guard1f rfl rfl (by omega) ?_
    | refine run_guard0t rfl rfl (by omega) ?_
    | refine run_guard0f rfl rfl (by omega) ?_
    | refine run_guard1 rfl rfl (fun h1 => ?_) (fun h1 => ?_)
    | refine run_guard0 rfl rfl (fun h1 => ?_) (fun h1 => ?_)
    | refine run_guard rfl rfl (fun h1 => ?_) (fun h1 => ?_)
    | refine run_nil ?_
    | refine sd ?_
    | refine sdl ?_
    | refine sdm ?_
    | refine sdb ?_
    | refine rund_want rfl rfl ?_
    | refine rund_unwant rfl rfl ?_
    | refine rund_undef rfl rfl ?_
    | refine rund_guard1 rfl rfl (fun h1 => ?_) (fun h1 => ?_)
    | refine rund_guard0 rfl rfl (fun h1 => ?_) (fun h1 => ?_)
    | refine rund_guard rfl rfl (fun h1 => ?_) (fun h1 => ?_)
    | refine rund_nil ?_
    | refine aw_seq ?_
    | refine aw_region (by kernel_rfl) (Nat.le_of_ble_eq_true rfl) ?_
    | refine aw_region_d (id := 4) [0, 1, 0, 4, 12, 31, 63, 127] 5 (by kernel_rfl) (by kernel_rfl) (by kernel_rfl) (Nat.le_of_ble_eq_true rfl) ?_
    | refine aw_block ?_
    | refine aw_cond_t rfl ?_
    | refine aw_cond_f rfl ?_
    | refine aw_cond_tp rfl (by omega) ?_
    | refine aw_cond_fp rfl (by omega) ?_
    | refine aw_cond1 rfl (fun h1 => ?_) (fun h1 => ?_)
    | refine aw_cond rfl (fun h1 => ?_) (fun h1 => ?_)
    | refine aw_skip ?_
    | refine aw_exit ?_
    | refine aw_ret ?_
    | refine pp_ret ?_
    | refine pp_normal ?_
  clear H1 H2 H3 H4
  refine aw_loopg
    (S := fun y : Cg => [(0, .func (.func 60) #[.pointer (some ⟨0, 0, none⟩)] #[]), (2, .pointer (some ⟨2, 0, none⟩)), (3, .pointer (some ⟨3, 0, none⟩)), (13, .int .i64 (p + 1)), (14, .int .i64 y.i)])
    (B := fun y : Cg => [some ⟨[.string d, .int .i64 (y.a : Int), .int .i64 y.e], true, 1⟩, some ⟨List.map (Value.int .i64) y.L, true, 1⟩, some ⟨[.int .i64 0, .int .i64 0, .int .i64 0, .slice none 0 0], true, 1⟩, some ⟨[.int .i64 v, .int .i64 f, .int .i64 u, .slice (some ⟨1, 0, none⟩) y.i y.i], true, 1⟩])
    (R := fun y : Cg => y.i ≤ N ∧ chR d a4 e4 y.i = (y.L, y.a, y.e) ∧ y.L.length = y.i ∧ y.a ≤ 8 * d.size)
    (μ := fun y : Cg => N - y.i) ⟨0, [], a4, e4, d, 0⟩ (fitsD [0, 1, 2, 3]) ⟨Nat.zero_le _, rfl, rfl, l4⟩ ?_
  rintro ⟨i, Li, ai, ei, d2, a2⟩ ⟨g1, g2, g3, g4⟩
  dsimp only at *
  by_cases hi : i < N
  · obtain ⟨v1, a6, e6, h6⟩ : ∃ v z e1, unsR d ai ei 4 = (v, z, e1) := ⟨_, _, _, rfl⟩
    have l6 := unsR_le h6 g4 (by decide)
    have hn := chR_succ g2 h6
    have H6 := ac_unsR 4 ei e6 v1 ai a6 d h6 g4 hd (by decide)
    repeat' first
      | refine Own.sob (n := 1) (h := ok_append (cs := List.map (Value.int .i64) (Li ++ [v1])) (olds := List.map (Value.int .i64) Li) rfl rfl rfl rfl rfl rfl (Src.slc rfl Ty.eq rfl (Nat.le_of_ble_eq_true rfl) rfl rfl rfl) (by simp; omega) (take_full (by simp; omega)) (by rw [List.map_append]; rfl) (by omega) (by (repeat constructor))) ?_
      | refine st ?_
      | refine Own.soMW [0] H6 ?_
      | refine stm ?_
      | refine run_want rfl rfl ?_
      | refine run_unwant rfl rfl ?_
      | refine run_undef rfl rfl ?_
      | refine run_guard1t rfl rfl (by omega) ?_
      | refine run_guard1f rfl rfl (by omega) ?_
      | refine run_guard0t rfl rfl (by omega) ?_
      | refine run_guard0f rfl rfl (by omega) ?_
      | refine run_guard1 rfl rfl (fun h1 => ?_) (fun h1 => ?_)
      | refine run_guard0 rfl rfl (fun h1 => ?_) (fun h1 => ?_)
      | refine run_guard rfl rfl (fun h1 => ?_) (fun h1 => ?_)
      | refine run_nil ?_
      | refine Own.so ?_
      | refine Own.sol ?_
      | refine Own.som ?_
      | refine Own.sow ?_
      | refine Own.sob ?_
      | refine Own.runo_want rfl rfl ?_
      | refine Own.runo_unwant rfl rfl ?_
      | refine Own.runo_undef rfl rfl ?_
      | refine Own.runo_guard1 rfl rfl (fun h1 => ?_) (fun h1 => ?_)
      | refine Own.runo_guard0 rfl rfl (fun h1 => ?_) (fun h1 => ?_)
      | refine Own.runo_guard rfl rfl (fun h1 => ?_) (fun h1 => ?_)
      | refine Own.runo_nil ?_
      | refine sd ?_
      | refine sdl ?_
      | refine sdm ?_
      | refine sdb ?_
      | refine rund_want rfl rfl ?_
      | refine rund_unwant rfl rfl ?_
      | refine rund_undef rfl rfl ?_
      | refine rund_guard1 rfl rfl (fun h1 => ?_) (fun h1 => ?_)
      | refine rund_guard0 rfl rfl (fun h1 => ?_) (fun h1 => ?_)
      | refine rund_guard rfl rfl (fun h1 => ?_) (fun h1 => ?_)
      | refine rund_nil ?_
      | refine aw_seq ?_
      | refine aw_region (by kernel_rfl) (Nat.le_of_ble_eq_true rfl) ?_
      | refine Own.aw_region_o (id := 4) [0, 1, 0, 4, 12, 31, 63, 127] 5 [[], [], [], [0]] (by kernel_rfl) (by kernel_rfl) (by kernel_rfl) (Nat.le_of_ble_eq_true rfl) (by rfl) ?_
      | refine aw_block ?_
      | refine aw_cond_t rfl ?_
      | refine aw_cond_f rfl ?_
      | refine aw_cond_tp rfl (by omega) ?_
      | refine aw_cond_fp rfl (by omega) ?_
      | refine aw_cond1 rfl (fun h1 => ?_) (fun h1 => ?_)
      | refine aw_cond rfl (fun h1 => ?_) (fun h1 => ?_)
      | refine aw_skip ?_
      | refine aw_exit ?_
      | refine aw_ret ?_
      | refine pp_ret ?_
      | refine pp_normal ?_
    all_goals first | exact Exists.intro ⟨i + 1, Li ++ [v1], a6, e6, d, 0⟩ ⟨fitsD [0, 5, 2, 3], ⟨hi, hn, by rw [List.length_append, g3]; rfl, l6⟩, by dsimp only; omega⟩ | (exfalso; omega)
  · obtain rfl : i = N := by omega
    rw [g2] at h5
    simp only [Prod.mk.injEq] at h5
    obtain ⟨rfl, rfl, rfl⟩ := h5
    repeat' first
      | refine st ?_
      | refine stm ?_
      | refine run_want rfl rfl ?_
      | refine run_unwant rfl rfl ?_
      | refine run_undef rfl rfl ?_
      | refine run_guard1t rfl rfl (by omega) ?_
      | refine run_guard1f rfl rfl (by omega) ?_
      | refine run_guard0t rfl rfl (by omega) ?_
      | refine run_guard0f rfl rfl (by omega) ?_
      | refine run_guard1 rfl rfl (fun h1 => ?_) (fun h1 => ?_)
      | refine run_guard0 rfl rfl (fun h1 => ?_) (fun h1 => ?_)
      | refine run_guard rfl rfl (fun h1 => ?_) (fun h1 => ?_)
      | refine run_nil ?_
      | refine sd ?_
      | refine sdl ?_
      | refine sdm ?_
      | refine sdb ?_
      | refine rund_want rfl rfl ?_
      | refine rund_unwant rfl rfl ?_
      | refine rund_undef rfl rfl ?_
      | refine rund_guard1 rfl rfl (fun h1 => ?_) (fun h1 => ?_)
      | refine rund_guard0 rfl rfl (fun h1 => ?_) (fun h1 => ?_)
      | refine rund_guard rfl rfl (fun h1 => ?_) (fun h1 => ?_)
      | refine rund_nil ?_
      | refine aw_seq ?_
      | refine aw_region (by kernel_rfl) (Nat.le_of_ble_eq_true rfl) ?_
      | refine aw_region_d (id := 4) [0, 1, 0, 4, 12, 31, 63, 127] 5 (by kernel_rfl) (by kernel_rfl) (by kernel_rfl) (Nat.le_of_ble_eq_true rfl) ?_
      | refine aw_block ?_
      | refine aw_cond_t rfl ?_
      | refine aw_cond_f rfl ?_
      | refine aw_cond_tp rfl (by omega) ?_
      | refine aw_cond_fp rfl (by omega) ?_
      | refine aw_cond1 rfl (fun h1 => ?_) (fun h1 => ?_)
      | refine aw_cond rfl (fun h1 => ?_) (fun h1 => ?_)
      | refine aw_skip ?_
      | refine aw_exit ?_
      | refine aw_ret ?_
      | refine pp_ret ?_
      | refine pp_normal ?_
    all_goals first | exact pm_ret _ (renumD [0, 1]) rfl | exact pm_normal _ (renumD [0, 1]) rfl | (exfalso; omega)
end Go.Proofs.Ytfabgdignlfihaa
