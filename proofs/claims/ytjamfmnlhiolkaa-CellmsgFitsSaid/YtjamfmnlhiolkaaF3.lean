/- Messages: lists of places. -/
import Derived.Test.YtjamfmnlhiolkaaF1
set_option linter.unusedVariables false
set_option linter.unusedSimpArgs false
namespace Go.Proofs.Ytjamfmnlhiolkaa
open Go Av
set_option maxRecDepth 20000
abbrev Sp := Int × Int × Unit
def spC (p : Sp) : List Value := [.int .i64 p.1, .int .i64 p.2.1]
instance : RenF spC := ⟨fun _ _ => rfl⟩
/-- The first error among the first places. -/
def spI (S : List Sp) : Nat → Int
  | 0 => 0
  | i + 1 => if spI S i ≠ 0 then spI S i else match S[i]? with
    | some p => if p.1 < 0 ∨ 512 ≤ p.1 ∨ p.2.1 < 0 ∨ 16 ≤ p.2.1 then 2 else if 0 < i ∧ p.1 ≤ (S.getD (i - 1) (0, 0, ())).1 then 5 else 0
    | none => 0
def spE (S : List Sp) : Int := spI S S.length
theorem spI_stay (S : List Sp) (i k : Nat) (h : spI S i ≠ 0) : spI S (i + k) = spI S i := by
  induction k with
  | zero => rfl
  | succ k ih => rw [← Nat.add_assoc, spI, if_pos (by rw [ih]; exact h), ih]
theorem spI_at {S : List Sp} {i : Nat} {a e : Int} {u : Unit} (h : S[i]? = some (a, e, u)) (h0 : spI S i = 0) : spI S (i + 1) = if a < 0 ∨ 512 ≤ a ∨ e < 0 ∨ 16 ≤ e then 2 else if 0 < i ∧ a ≤ (S.getD (i - 1) (0, 0, ())).1 then 5 else 0 := by
  rw [spI, if_neg (by rw [h0]; simp), h]
theorem spE_of {S : List Sp} {i : Nat} (hi : i ≤ S.length) (h : spI S i ≠ 0) : spE S = spI S i := by
  have := spI_stay S i (S.length - i) h
  rwa [show i + (S.length - i) = S.length by omega] at this
structure Og where
  i : Nat
set_option maxHeartbeats 4000000 in
theorem ac_spots (S : List Sp) (n : Nat) (hn : S.length = n) (hb : n ≤ 9000000000000000000) (c : Int) (hc : spE S = c) : ACalls Try.prog 27 [.slice (some ⟨0, 0, none⟩) n n] [some ⟨S.flatMap spC, false, 2⟩] (.int .i64 c) [none] := by
  refine acalls_law Try.func27 rfl rfl rfl ?_
  repeat' first
    | refine st ?_
    | refine stm ?_
    | refine run_want rfl rfl ?_
    | refine run_unwant rfl rfl ?_
    | refine run_undef rfl rfl ?_
    | refine run_guard1t rfl rfl (by omega) ?_
    | refine run_guard1f rfl rfl (by omega) ?_
    | refine run_guard0t rfl rfl (by omega) ?_
    | refine run_guard0f rfl rfl (by omega) ?_
    | refine run_guard1 rfl rfl (fun h1 => ?_) (fun h1 => ?_)
    | refine run_guard0 rfl rfl (fun h1 => ?_) (fun h1 => ?_)
    | refine run_guard rfl rfl (fun h1 => ?_) (fun h1 => ?_)
    | refine run_nil ?_
    | refine sd ?_
    | refine sdl ?_
    | refine sdm ?_
    | refine sdb ?_
    | refine rund_want rfl rfl ?_
    | refine rund_unwant rfl rfl ?_
    | refine rund_undef rfl rfl ?_
    | refine rund_guard1 rfl rfl (fun h1 => ?_) (fun h1 => ?_)
    | refine rund_guard0 rfl rfl (fun h1 => ?_) (fun h1 => ?_)
    | refine rund_guard rfl rfl (fun h1 => ?_) (fun h1 => ?_)
    | refine rund_nil ?_
    | refine aw_seq ?_
    | refine aw_region (by kernel_rfl) (Nat.le_of_ble_eq_true rfl) ?_
    | refine aw_region_d (id := 6) [0, 1, 3, 7, 7, 23, 63, 127, 255, 7, 519, 2047, 4095] 13 (by kernel_rfl) (by kernel_rfl) (by kernel_rfl) (Nat.le_of_ble_eq_true rfl) ?_
    | refine aw_block ?_
    | refine aw_cond_t rfl ?_
    | refine aw_cond_f rfl ?_
    | refine aw_cond_tp rfl (by omega) ?_
    | refine aw_cond_fp rfl (by omega) ?_
    | refine aw_cond1 rfl (fun h1 => ?_) (fun h1 => ?_)
    | refine aw_cond rfl (fun h1 => ?_) (fun h1 => ?_)
    | refine aw_skip ?_
    | refine aw_exit ?_
    | refine aw_ret ?_
    | refine pp_ret ?_
    | refine pp_normal ?_
  refine aw_loopg
    (S := fun y : Og => [(0, .slice (some ⟨0, 0, none⟩) n n), (5, .slice (some ⟨0, 0, none⟩) n n), (6, .int .i64 n), (7, .int .i64 y.i)])
    (B := fun _ : Og => [some ⟨S.flatMap spC, false, 2⟩])
    (R := fun y : Og => y.i ≤ n ∧ spI S y.i = 0)
    (μ := fun y : Og => n - y.i) ⟨0⟩ (fitsD [0]) ⟨Nat.zero_le _, rfl⟩ ?_
  rintro ⟨i⟩ ⟨g1, g2⟩
  dsimp only at *
  by_cases hi : i < n
  · obtain ⟨⟨a, e, u⟩, hq⟩ : ∃ q, S[i]? = some q := ⟨_, List.getElem?_eq_getElem (by omega)⟩
    have hs := spI_at hq g2
    by_cases h2 : a < 0 ∨ 512 ≤ a ∨ e < 0 ∨ 16 ≤ e
    · rw [if_pos h2] at hs
      have hc2 := spE_of (S := S) (i := i + 1) (by omega) (by rw [hs]; decide)
      rw [hc, hs] at hc2
      subst hc2
      repeat' first
        | refine st (h := ok_load_rowsE (f := spC) (cs := [.int .i64 a, .int .i64 e]) i (fun _ => rfl) hq rfl rfl rfl rfl (by omega)) ?_
        | refine st (h := ok_load_rowcellE (f := spC) (n := 2) (v := .int .i64 a) (i) 0 (fun _ => rfl) hq rfl (by decide) rfl rfl rfl (by omega)) ?_
        | refine st (h := ok_load_rowcellE (f := spC) (n := 2) (v := .int .i64 e) (i) 1 (fun _ => rfl) hq rfl (by decide) rfl rfl rfl (by omega)) ?_
        | refine sdl (h := ok_load_rowcellE (f := spC) (n := 2) (v := .int .i64 a) (i) 0 (fun _ => rfl) hq rfl (by decide) rfl rfl rfl (by omega)) ?_
        | refine st ?_
        | refine stm ?_
        | refine run_want rfl rfl ?_
        | refine run_unwant rfl rfl ?_
        | refine run_undef rfl rfl ?_
        | refine run_guard1t rfl rfl (by omega) ?_
        | refine run_guard1f rfl rfl (by omega) ?_
        | refine run_guard0t rfl rfl (by omega) ?_
        | refine run_guard0f rfl rfl (by omega) ?_
        | refine run_guard1 rfl rfl (fun h1 => ?_) (fun h1 => ?_)
        | refine run_guard0 rfl rfl (fun h1 => ?_) (fun h1 => ?_)
        | refine run_guard rfl rfl (fun h1 => ?_) (fun h1 => ?_)
        | refine run_nil ?_
        | refine sd ?_
        | refine sdl ?_
        | refine sdm ?_
        | refine sdb ?_
        | refine rund_want rfl rfl ?_
        | refine rund_unwant rfl rfl ?_
        | refine rund_undef rfl rfl ?_
        | refine rund_guard1 rfl rfl (fun h1 => ?_) (fun h1 => ?_)
        | refine rund_guard0 rfl rfl (fun h1 => ?_) (fun h1 => ?_)
        | refine rund_guard rfl rfl (fun h1 => ?_) (fun h1 => ?_)
        | refine rund_nil ?_
        | refine aw_seq ?_
        | refine aw_region (by kernel_rfl) (Nat.le_of_ble_eq_true rfl) ?_
        | refine aw_region_d (id := 6) [0, 1, 3, 7, 7, 23, 63, 127, 255, 7, 519, 2047, 4095] 13 (by kernel_rfl) (by kernel_rfl) (by kernel_rfl) (Nat.le_of_ble_eq_true rfl) ?_
        | refine aw_block ?_
        | refine aw_cond_t rfl ?_
        | refine aw_cond_f rfl ?_
        | refine aw_cond_tp rfl (by omega) ?_
        | refine aw_cond_fp rfl (by omega) ?_
        | refine aw_cond1 rfl (fun h1 => ?_) (fun h1 => ?_)
        | refine aw_cond rfl (fun h1 => ?_) (fun h1 => ?_)
        | refine aw_skip ?_
        | refine aw_exit ?_
        | refine aw_ret ?_
        | refine pp_ret ?_
        | refine pp_normal ?_
      all_goals first | rfl | (exfalso; omega)
    · rw [if_neg h2] at hs
      by_cases h0 : i = 0
      · rw [if_neg (by omega)] at hs
        repeat' first
          | refine st (h := ok_load_rowsE (f := spC) (cs := [.int .i64 a, .int .i64 e]) i (fun _ => rfl) hq rfl rfl rfl rfl (by omega)) ?_
          | refine st (h := ok_load_rowcellE (f := spC) (n := 2) (v := .int .i64 a) (i) 0 (fun _ => rfl) hq rfl (by decide) rfl rfl rfl (by omega)) ?_
          | refine st (h := ok_load_rowcellE (f := spC) (n := 2) (v := .int .i64 e) (i) 1 (fun _ => rfl) hq rfl (by decide) rfl rfl rfl (by omega)) ?_
          | refine sdl (h := ok_load_rowcellE (f := spC) (n := 2) (v := .int .i64 a) (i) 0 (fun _ => rfl) hq rfl (by decide) rfl rfl rfl (by omega)) ?_
          | refine st ?_
          | refine stm ?_
          | refine run_want rfl rfl ?_
          | refine run_unwant rfl rfl ?_
          | refine run_undef rfl rfl ?_
          | refine run_guard1t rfl rfl (by omega) ?_
          | refine run_guard1f rfl rfl (by omega) ?_
          | refine run_guard0t rfl rfl (by omega) ?_
          | refine run_guard0f rfl rfl (by omega) ?_
          | refine run_guard1 rfl rfl (fun h1 => ?_) (fun h1 => ?_)
          | refine run_guard0 rfl rfl (fun h1 => ?_) (fun h1 => ?_)
          | refine run_guard rfl rfl (fun h1 => ?_) (fun h1 => ?_)
          | refine run_nil ?_
          | refine sd ?_
          | refine sdl ?_
          | refine sdm ?_
          | refine sdb ?_
          | refine rund_want rfl rfl ?_
          | refine rund_unwant rfl rfl ?_
          | refine rund_undef rfl rfl ?_
          | refine rund_guard1 rfl rfl (fun h1 => ?_) (fun h1 => ?_)
          | refine rund_guard0 rfl rfl (fun h1 => ?_) (fun h1 => ?_)
          | refine rund_guard rfl rfl (fun h1 => ?_) (fun h1 => ?_)
          | refine rund_nil ?_
          | refine aw_seq ?_
          | refine aw_region (by kernel_rfl) (Nat.le_of_ble_eq_true rfl) ?_
          | refine aw_region_d (id := 6) [0, 1, 3, 7, 7, 23, 63, 127, 255, 7, 519, 2047, 4095] 13 (by kernel_rfl) (by kernel_rfl) (by kernel_rfl) (Nat.le_of_ble_eq_true rfl) ?_
          | refine aw_block ?_
          | refine aw_cond_t rfl ?_
          | refine aw_cond_f rfl ?_
          | refine aw_cond_tp rfl (by omega) ?_
          | refine aw_cond_fp rfl (by omega) ?_
          | refine aw_cond1 rfl (fun h1 => ?_) (fun h1 => ?_)
          | refine aw_cond rfl (fun h1 => ?_) (fun h1 => ?_)
          | refine aw_skip ?_
          | refine aw_exit ?_
          | refine aw_ret ?_
          | refine pp_ret ?_
          | refine pp_normal ?_
        all_goals first | exact Exists.intro ⟨i + 1⟩ ⟨fitsD [0], ⟨hi, hs⟩, by dsimp only; omega⟩ | (exfalso; omega)
      · obtain ⟨⟨a', e', u'⟩, hp⟩ : ∃ q, S[i - 1]? = some q := ⟨_, List.getElem?_eq_getElem (by omega)⟩
        have hgd : (S.getD (i - 1) (0, 0, ())).1 = a' := by rw [List.getD_eq_getElem?_getD, hp]; rfl
        rw [hgd] at hs
        by_cases h5 : a ≤ a'
        · rw [if_pos ⟨by omega, h5⟩] at hs
          have hc2 := spE_of (S := S) (i := i + 1) (by omega) (by rw [hs]; decide)
          rw [hc, hs] at hc2
          subst hc2
          repeat' first
            | refine sdl (h := ok_load_rowcellE (f := spC) (n := 2) (v := .int .i64 a') (i - 1) 0 (fun _ => rfl) hp rfl (by decide) rfl rfl rfl (by omega)) ?_
            | refine st (h := ok_load_rowsE (f := spC) (cs := [.int .i64 a, .int .i64 e]) i (fun _ => rfl) hq rfl rfl rfl rfl (by omega)) ?_
            | refine st (h := ok_load_rowcellE (f := spC) (n := 2) (v := .int .i64 a) (i) 0 (fun _ => rfl) hq rfl (by decide) rfl rfl rfl (by omega)) ?_
            | refine st (h := ok_load_rowcellE (f := spC) (n := 2) (v := .int .i64 e) (i) 1 (fun _ => rfl) hq rfl (by decide) rfl rfl rfl (by omega)) ?_
            | refine sdl (h := ok_load_rowcellE (f := spC) (n := 2) (v := .int .i64 a) (i) 0 (fun _ => rfl) hq rfl (by decide) rfl rfl rfl (by omega)) ?_
            | refine st ?_
            | refine stm ?_
            | refine run_want rfl rfl ?_
            | refine run_unwant rfl rfl ?_
            | refine run_undef rfl rfl ?_
            | refine run_guard1t rfl rfl (by omega) ?_
            | refine run_guard1f rfl rfl (by omega) ?_
            | refine run_guard0t rfl rfl (by omega) ?_
            | refine run_guard0f rfl rfl (by omega) ?_
            | refine run_guard1 rfl rfl (fun h1 => ?_) (fun h1 => ?_)
            | refine run_guard0 rfl rfl (fun h1 => ?_) (fun h1 => ?_)
            | refine run_guard rfl rfl (fun h1 => ?_) (fun h1 => ?_)
            | refine run_nil ?_
            | refine sd ?_
            | refine sdl ?_
            | refine sdm ?_
            | refine sdb ?_
            | refine rund_want rfl rfl ?_
            | refine rund_unwant rfl rfl ?_
            | refine rund_undef rfl rfl ?_
            | refine rund_guard1 rfl rfl (fun h1 => ?_) (fun h1 => ?_)
            | refine rund_guard0 rfl rfl (fun h1 => ?_) (fun h1 => ?_)
            | refine rund_guard rfl rfl (fun h1 => ?_) (fun h1 => ?_)
            | refine rund_nil ?_
            | refine aw_seq ?_
            | refine aw_region (by kernel_rfl) (Nat.le_of_ble_eq_true rfl) ?_
            | refine aw_region_d (id := 6) [0, 1, 3, 7, 7, 23, 63, 127, 255, 7, 519, 2047, 4095] 13 (by kernel_rfl) (by kernel_rfl) (by kernel_rfl) (Nat.le_of_ble_eq_true rfl) ?_
            | refine aw_block ?_
            | refine aw_cond_t rfl ?_
            | refine aw_cond_f rfl ?_
            | refine aw_cond_tp rfl (by omega) ?_
            | refine aw_cond_fp rfl (by omega) ?_
            | refine aw_cond1 rfl (fun h1 => ?_) (fun h1 => ?_)
            | refine aw_cond rfl (fun h1 => ?_) (fun h1 => ?_)
            | refine aw_skip ?_
            | refine aw_exit ?_
            | refine aw_ret ?_
            | refine pp_ret ?_
            | refine pp_normal ?_
          all_goals first | rfl | (exfalso; omega)
        · rw [if_neg (by omega)] at hs
          repeat' first
            | refine sdl (h := ok_load_rowcellE (f := spC) (n := 2) (v := .int .i64 a') (i - 1) 0 (fun _ => rfl) hp rfl (by decide) rfl rfl rfl (by omega)) ?_
            | refine st (h := ok_load_rowsE (f := spC) (cs := [.int .i64 a, .int .i64 e]) i (fun _ => rfl) hq rfl rfl rfl rfl (by omega)) ?_
            | refine st (h := ok_load_rowcellE (f := spC) (n := 2) (v := .int .i64 a) (i) 0 (fun _ => rfl) hq rfl (by decide) rfl rfl rfl (by omega)) ?_
            | refine st (h := ok_load_rowcellE (f := spC) (n := 2) (v := .int .i64 e) (i) 1 (fun _ => rfl) hq rfl (by decide) rfl rfl rfl (by omega)) ?_
            | refine sdl (h := ok_load_rowcellE (f := spC) (n := 2) (v := .int .i64 a) (i) 0 (fun _ => rfl) hq rfl (by decide) rfl rfl rfl (by omega)) ?_
            | refine st ?_
            | refine stm ?_
            | refine run_want rfl rfl ?_
            | refine run_unwant rfl rfl ?_
            | refine run_undef rfl rfl ?_
            | refine run_guard1t rfl rfl (by omega) ?_
            | refine run_guard1f rfl rfl (by omega) ?_
            | refine run_guard0t rfl rfl (by omega) ?_
            | refine run_guard0f rfl rfl (by omega) ?_
            | refine run_guard1 rfl rfl (fun h1 => ?_) (fun h1 => ?_)
            | refine run_guard0 rfl rfl (fun h1 => ?_) (fun h1 => ?_)
            | refine run_guard rfl rfl (fun h1 => ?_) (fun h1 => ?_)
            | refine run_nil ?_
            | refine sd ?_
            | refine sdl ?_
            | refine sdm ?_
            | refine sdb ?_
            | refine rund_want rfl rfl ?_
            | refine rund_unwant rfl rfl ?_
            | refine rund_undef rfl rfl ?_
            | refine rund_guard1 rfl rfl (fun h1 => ?_) (fun h1 => ?_)
            | refine rund_guard0 rfl rfl (fun h1 => ?_) (fun h1 => ?_)
            | refine rund_guard rfl rfl (fun h1 => ?_) (fun h1 => ?_)
            | refine rund_nil ?_
            | refine aw_seq ?_
            | refine aw_region (by kernel_rfl) (Nat.le_of_ble_eq_true rfl) ?_
            | refine aw_region_d (id := 6) [0, 1, 3, 7, 7, 23, 63, 127, 255, 7, 519, 2047, 4095] 13 (by kernel_rfl) (by kernel_rfl) (by kernel_rfl) (Nat.le_of_ble_eq_true rfl) ?_
            | refine aw_block ?_
            | refine aw_cond_t rfl ?_
            | refine aw_cond_f rfl ?_
            | refine aw_cond_tp rfl (by omega) ?_
            | refine aw_cond_fp rfl (by omega) ?_
            | refine aw_cond1 rfl (fun h1 => ?_) (fun h1 => ?_)
            | refine aw_cond rfl (fun h1 => ?_) (fun h1 => ?_)
            | refine aw_skip ?_
            | refine aw_exit ?_
            | refine aw_ret ?_
            | refine pp_ret ?_
            | refine pp_normal ?_
          all_goals first | exact Exists.intro ⟨i + 1⟩ ⟨fitsD [0], ⟨hi, hs⟩, by dsimp only; omega⟩ | (exfalso; omega)
  · obtain rfl : i = n := by omega
    have hc2 : c = 0 := by rw [← hc, spE, hn]; exact g2
    subst hc2
    repeat' first
      | refine st ?_
      | refine stm ?_
      | refine run_want rfl rfl ?_
      | refine run_unwant rfl rfl ?_
      | refine run_undef rfl rfl ?_
      | refine run_guard1t rfl rfl (by omega) ?_
      | refine run_guard1f rfl rfl (by omega) ?_
      | refine run_guard0t rfl rfl (by omega) ?_
      | refine run_guard0f rfl rfl (by omega) ?_
      | refine run_guard1 rfl rfl (fun h1 => ?_) (fun h1 => ?_)
      | refine run_guard0 rfl rfl (fun h1 => ?_) (fun h1 => ?_)
      | refine run_guard rfl rfl (fun h1 => ?_) (fun h1 => ?_)
      | refine run_nil ?_
      | refine sd ?_
      | refine sdl ?_
      | refine sdm ?_
      | refine sdb ?_
      | refine rund_want rfl rfl ?_
      | refine rund_unwant rfl rfl ?_
      | refine rund_undef rfl rfl ?_
      | refine rund_guard1 rfl rfl (fun h1 => ?_) (fun h1 => ?_)
      | refine rund_guard0 rfl rfl (fun h1 => ?_) (fun h1 => ?_)
      | refine rund_guard rfl rfl (fun h1 => ?_) (fun h1 => ?_)
      | refine rund_nil ?_
      | refine aw_seq ?_
      | refine aw_region (by kernel_rfl) (Nat.le_of_ble_eq_true rfl) ?_
      | refine aw_region_d (id := 6) [0, 1, 3, 7, 7, 23, 63, 127, 255, 7, 519, 2047, 4095] 13 (by kernel_rfl) (by kernel_rfl) (by kernel_rfl) (Nat.le_of_ble_eq_true rfl) ?_
      | refine aw_block ?_
      | refine aw_cond_t rfl ?_
      | refine aw_cond_f rfl ?_
      | refine aw_cond_tp rfl (by omega) ?_
      | refine aw_cond_fp rfl (by omega) ?_
      | refine aw_cond1 rfl (fun h1 => ?_) (fun h1 => ?_)
      | refine aw_cond rfl (fun h1 => ?_) (fun h1 => ?_)
      | refine aw_skip ?_
      | refine aw_exit ?_
      | refine aw_ret ?_
      | refine pp_ret ?_
      | refine pp_normal ?_
    all_goals first | rfl | (exfalso; omega)
set_option maxHeartbeats 4000000 in
theorem ac_places (S : List Sp) (n : Nat) (hn : S.length = n) (hb : n ≤ 9000000000000000000) (c : Int) (hc : spE S = c) : ACalls Try.prog 29 [.slice (some ⟨0, 0, none⟩) n n] [some ⟨S.flatMap spC, false, 2⟩] (.int .i64 c) [none] := by
  refine acalls_law Try.func29 rfl rfl rfl ?_
  repeat' first
    | refine st ?_
    | refine stm ?_
    | refine run_want rfl rfl ?_
    | refine run_unwant rfl rfl ?_
    | refine run_undef rfl rfl ?_
    | refine run_guard1t rfl rfl (by omega) ?_
    | refine run_guard1f rfl rfl (by omega) ?_
    | refine run_guard0t rfl rfl (by omega) ?_
    | refine run_guard0f rfl rfl (by omega) ?_
    | refine run_guard1 rfl rfl (fun h1 => ?_) (fun h1 => ?_)
    | refine run_guard0 rfl rfl (fun h1 => ?_) (fun h1 => ?_)
    | refine run_guard rfl rfl (fun h1 => ?_) (fun h1 => ?_)
    | refine run_nil ?_
    | refine sd ?_
    | refine sdl ?_
    | refine sdm ?_
    | refine sdb ?_
    | refine rund_want rfl rfl ?_
    | refine rund_unwant rfl rfl ?_
    | refine rund_undef rfl rfl ?_
    | refine rund_guard1 rfl rfl (fun h1 => ?_) (fun h1 => ?_)
    | refine rund_guard0 rfl rfl (fun h1 => ?_) (fun h1 => ?_)
    | refine rund_guard rfl rfl (fun h1 => ?_) (fun h1 => ?_)
    | refine rund_nil ?_
    | refine aw_seq ?_
    | refine aw_region (by kernel_rfl) (Nat.le_of_ble_eq_true rfl) ?_
    | refine aw_region_d (id := 6) [0, 1, 3, 7, 7, 23, 63, 127, 255, 7, 7, 1543, 3591, 7687, 16383, 32767] 16 (by kernel_rfl) (by kernel_rfl) (by kernel_rfl) (Nat.le_of_ble_eq_true rfl) ?_
    | refine aw_block ?_
    | refine aw_cond_t rfl ?_
    | refine aw_cond_f rfl ?_
    | refine aw_cond_tp rfl (by omega) ?_
    | refine aw_cond_fp rfl (by omega) ?_
    | refine aw_cond1 rfl (fun h1 => ?_) (fun h1 => ?_)
    | refine aw_cond rfl (fun h1 => ?_) (fun h1 => ?_)
    | refine aw_skip ?_
    | refine aw_exit ?_
    | refine aw_ret ?_
    | refine pp_ret ?_
    | refine pp_normal ?_
  refine aw_loopg
    (S := fun y : Og => [(0, .slice (some ⟨0, 0, none⟩) n n), (3, .int .i64 y.i)])
    (B := fun _ : Og => [some ⟨S.flatMap spC, false, 2⟩])
    (R := fun y : Og => y.i ≤ n ∧ spI S y.i = 0)
    (μ := fun y : Og => n - y.i) ⟨0⟩ (fitsD [0]) ⟨Nat.zero_le _, rfl⟩ ?_
  rintro ⟨i⟩ ⟨g1, g2⟩
  dsimp only at *
  by_cases hi : i < n
  · obtain ⟨⟨a, e, u⟩, hq⟩ : ∃ q, S[i]? = some q := ⟨_, List.getElem?_eq_getElem (by omega)⟩
    have hs := spI_at hq g2
    by_cases h2 : a < 0 ∨ 512 ≤ a ∨ e < 0 ∨ 16 ≤ e
    · rw [if_pos h2] at hs
      have hc2 := spE_of (S := S) (i := i + 1) (by omega) (by rw [hs]; decide)
      rw [hc, hs] at hc2
      subst hc2
      repeat' first
        | refine st (h := ok_load_rowsE (f := spC) (cs := [.int .i64 a, .int .i64 e]) i (fun _ => rfl) hq rfl rfl rfl rfl (by omega)) ?_
        | refine st (h := ok_load_rowcellE (f := spC) (n := 2) (v := .int .i64 a) (i) 0 (fun _ => rfl) hq rfl (by decide) rfl rfl rfl (by omega)) ?_
        | refine st (h := ok_load_rowcellE (f := spC) (n := 2) (v := .int .i64 e) (i) 1 (fun _ => rfl) hq rfl (by decide) rfl rfl rfl (by omega)) ?_
        | refine sdl (h := ok_load_rowcellE (f := spC) (n := 2) (v := .int .i64 a) (i) 0 (fun _ => rfl) hq rfl (by decide) rfl rfl rfl (by omega)) ?_
        | refine st ?_
        | refine stm ?_
        | refine run_want rfl rfl ?_
        | refine run_unwant rfl rfl ?_
        | refine run_undef rfl rfl ?_
        | refine run_guard1t rfl rfl (by omega) ?_
        | refine run_guard1f rfl rfl (by omega) ?_
        | refine run_guard0t rfl rfl (by omega) ?_
        | refine run_guard0f rfl rfl (by omega) ?_
        | refine run_guard1 rfl rfl (fun h1 => ?_) (fun h1 => ?_)
        | refine run_guard0 rfl rfl (fun h1 => ?_) (fun h1 => ?_)
        | refine run_guard rfl rfl (fun h1 => ?_) (fun h1 => ?_)
        | refine run_nil ?_
        | refine sd ?_
        | refine sdl ?_
        | refine sdm ?_
        | refine sdb ?_
        | refine rund_want rfl rfl ?_
        | refine rund_unwant rfl rfl ?_
        | refine rund_undef rfl rfl ?_
        | refine rund_guard1 rfl rfl (fun h1 => ?_) (fun h1 => ?_)
        | refine rund_guard0 rfl rfl (fun h1 => ?_) (fun h1 => ?_)
        | refine rund_guard rfl rfl (fun h1 => ?_) (fun h1 => ?_)
        | refine rund_nil ?_
        | refine aw_seq ?_
        | refine aw_region (by kernel_rfl) (Nat.le_of_ble_eq_true rfl) ?_
        | refine aw_region_d (id := 6) [0, 1, 3, 7, 7, 23, 63, 127, 255, 7, 7, 1543, 3591, 7687, 16383, 32767] 16 (by kernel_rfl) (by kernel_rfl) (by kernel_rfl) (Nat.le_of_ble_eq_true rfl) ?_
        | refine aw_block ?_
        | refine aw_cond_t rfl ?_
        | refine aw_cond_f rfl ?_
        | refine aw_cond_tp rfl (by omega) ?_
        | refine aw_cond_fp rfl (by omega) ?_
        | refine aw_cond1 rfl (fun h1 => ?_) (fun h1 => ?_)
        | refine aw_cond rfl (fun h1 => ?_) (fun h1 => ?_)
        | refine aw_skip ?_
        | refine aw_exit ?_
        | refine aw_ret ?_
        | refine pp_ret ?_
        | refine pp_normal ?_
      all_goals first | rfl | (exfalso; omega)
    · rw [if_neg h2] at hs
      by_cases h0 : i = 0
      · rw [if_neg (by omega)] at hs
        repeat' first
          | refine st (h := ok_load_rowsE (f := spC) (cs := [.int .i64 a, .int .i64 e]) i (fun _ => rfl) hq rfl rfl rfl rfl (by omega)) ?_
          | refine st (h := ok_load_rowcellE (f := spC) (n := 2) (v := .int .i64 a) (i) 0 (fun _ => rfl) hq rfl (by decide) rfl rfl rfl (by omega)) ?_
          | refine st (h := ok_load_rowcellE (f := spC) (n := 2) (v := .int .i64 e) (i) 1 (fun _ => rfl) hq rfl (by decide) rfl rfl rfl (by omega)) ?_
          | refine sdl (h := ok_load_rowcellE (f := spC) (n := 2) (v := .int .i64 a) (i) 0 (fun _ => rfl) hq rfl (by decide) rfl rfl rfl (by omega)) ?_
          | refine st ?_
          | refine stm ?_
          | refine run_want rfl rfl ?_
          | refine run_unwant rfl rfl ?_
          | refine run_undef rfl rfl ?_
          | refine run_guard1t rfl rfl (by omega) ?_
          | refine run_guard1f rfl rfl (by omega) ?_
          | refine run_guard0t rfl rfl (by omega) ?_
          | refine run_guard0f rfl rfl (by omega) ?_
          | refine run_guard1 rfl rfl (fun h1 => ?_) (fun h1 => ?_)
          | refine run_guard0 rfl rfl (fun h1 => ?_) (fun h1 => ?_)
          | refine run_guard rfl rfl (fun h1 => ?_) (fun h1 => ?_)
          | refine run_nil ?_
          | refine sd ?_
          | refine sdl ?_
          | refine sdm ?_
          | refine sdb ?_
          | refine rund_want rfl rfl ?_
          | refine rund_unwant rfl rfl ?_
          | refine rund_undef rfl rfl ?_
          | refine rund_guard1 rfl rfl (fun h1 => ?_) (fun h1 => ?_)
          | refine rund_guard0 rfl rfl (fun h1 => ?_) (fun h1 => ?_)
          | refine rund_guard rfl rfl (fun h1 => ?_) (fun h1 => ?_)
          | refine rund_nil ?_
          | refine aw_seq ?_
          | refine aw_region (by kernel_rfl) (Nat.le_of_ble_eq_true rfl) ?_
          | refine aw_region_d (id := 6) [0, 1, 3, 7, 7, 23, 63, 127, 255, 7, 7, 1543, 3591, 7687, 16383, 32767] 16 (by kernel_rfl) (by kernel_rfl) (by kernel_rfl) (Nat.le_of_ble_eq_true rfl) ?_
          | refine aw_block ?_
          | refine aw_cond_t rfl ?_
          | refine aw_cond_f rfl ?_
          | refine aw_cond_tp rfl (by omega) ?_
          | refine aw_cond_fp rfl (by omega) ?_
          | refine aw_cond1 rfl (fun h1 => ?_) (fun h1 => ?_)
          | refine aw_cond rfl (fun h1 => ?_) (fun h1 => ?_)
          | refine aw_skip ?_
          | refine aw_exit ?_
          | refine aw_ret ?_
          | refine pp_ret ?_
          | refine pp_normal ?_
        all_goals first | exact Exists.intro ⟨i + 1⟩ ⟨fitsD [0], ⟨hi, hs⟩, by dsimp only; omega⟩ | (exfalso; omega)
      · obtain ⟨⟨a', e', u'⟩, hp⟩ : ∃ q, S[i - 1]? = some q := ⟨_, List.getElem?_eq_getElem (by omega)⟩
        have hgd : (S.getD (i - 1) (0, 0, ())).1 = a' := by rw [List.getD_eq_getElem?_getD, hp]; rfl
        rw [hgd] at hs
        by_cases h5 : a ≤ a'
        · rw [if_pos ⟨by omega, h5⟩] at hs
          have hc2 := spE_of (S := S) (i := i + 1) (by omega) (by rw [hs]; decide)
          rw [hc, hs] at hc2
          subst hc2
          repeat' first
            | refine sdl (h := ok_load_rowcellE (f := spC) (n := 2) (v := .int .i64 a') (i - 1) 0 (fun _ => rfl) hp rfl (by decide) rfl rfl rfl (by omega)) ?_
            | refine st (h := ok_load_rowsE (f := spC) (cs := [.int .i64 a, .int .i64 e]) i (fun _ => rfl) hq rfl rfl rfl rfl (by omega)) ?_
            | refine st (h := ok_load_rowcellE (f := spC) (n := 2) (v := .int .i64 a) (i) 0 (fun _ => rfl) hq rfl (by decide) rfl rfl rfl (by omega)) ?_
            | refine st (h := ok_load_rowcellE (f := spC) (n := 2) (v := .int .i64 e) (i) 1 (fun _ => rfl) hq rfl (by decide) rfl rfl rfl (by omega)) ?_
            | refine sdl (h := ok_load_rowcellE (f := spC) (n := 2) (v := .int .i64 a) (i) 0 (fun _ => rfl) hq rfl (by decide) rfl rfl rfl (by omega)) ?_
            | refine st ?_
            | refine stm ?_
            | refine run_want rfl rfl ?_
            | refine run_unwant rfl rfl ?_
            | refine run_undef rfl rfl ?_
            | refine run_guard1t rfl rfl (by omega) ?_
            | refine run_guard1f rfl rfl (by omega) ?_
            | refine run_guard0t rfl rfl (by omega) ?_
            | refine run_guard0f rfl rfl (by omega) ?_
            | refine run_guard1 rfl rfl (fun h1 => ?_) (fun h1 => ?_)
            | refine run_guard0 rfl rfl (fun h1 => ?_) (fun h1 => ?_)
            | refine run_guard rfl rfl (fun h1 => ?_) (fun h1 => ?_)
            | refine run_nil ?_
            | refine sd ?_
            | refine sdl ?_
            | refine sdm ?_
            | refine sdb ?_
            | refine rund_want rfl rfl ?_
            | refine rund_unwant rfl rfl ?_
            | refine rund_undef rfl rfl ?_
            | refine rund_guard1 rfl rfl (fun h1 => ?_) (fun h1 => ?_)
            | refine rund_guard0 rfl rfl (fun h1 => ?_) (fun h1 => ?_)
            | refine rund_guard rfl rfl (fun h1 => ?_) (fun h1 => ?_)
            | refine rund_nil ?_
            | refine aw_seq ?_
            | refine aw_region (by kernel_rfl) (Nat.le_of_ble_eq_true rfl) ?_
            | refine aw_region_d (id := 6) [0, 1, 3, 7, 7, 23, 63, 127, 255, 7, 7, 1543, 3591, 7687, 16383, 32767] 16 (by kernel_rfl) (by kernel_rfl) (by kernel_rfl) (Nat.le_of_ble_eq_true rfl) ?_
            | refine aw_block ?_
            | refine aw_cond_t rfl ?_
            | refine aw_cond_f rfl ?_
            | refine aw_cond_tp rfl (by omega) ?_
            | refine aw_cond_fp rfl (by omega) ?_
            | refine aw_cond1 rfl (fun h1 => ?_) (fun h1 => ?_)
            | refine aw_cond rfl (fun h1 => ?_) (fun h1 => ?_)
            | refine aw_skip ?_
            | refine aw_exit ?_
            | refine aw_ret ?_
            | refine pp_ret ?_
            | refine pp_normal ?_
          all_goals first | rfl | (exfalso; omega)
        · rw [if_neg (by omega)] at hs
          repeat' first
            | refine sdl (h := ok_load_rowcellE (f := spC) (n := 2) (v := .int .i64 a') (i - 1) 0 (fun _ => rfl) hp rfl (by decide) rfl rfl rfl (by omega)) ?_
            | refine st (h := ok_load_rowsE (f := spC) (cs := [.int .i64 a, .int .i64 e]) i (fun _ => rfl) hq rfl rfl rfl rfl (by omega)) ?_
            | refine st (h := ok_load_rowcellE (f := spC) (n := 2) (v := .int .i64 a) (i) 0 (fun _ => rfl) hq rfl (by decide) rfl rfl rfl (by omega)) ?_
            | refine st (h := ok_load_rowcellE (f := spC) (n := 2) (v := .int .i64 e) (i) 1 (fun _ => rfl) hq rfl (by decide) rfl rfl rfl (by omega)) ?_
            | refine sdl (h := ok_load_rowcellE (f := spC) (n := 2) (v := .int .i64 a) (i) 0 (fun _ => rfl) hq rfl (by decide) rfl rfl rfl (by omega)) ?_
            | refine st ?_
            | refine stm ?_
            | refine run_want rfl rfl ?_
            | refine run_unwant rfl rfl ?_
            | refine run_undef rfl rfl ?_
            | refine run_guard1t rfl rfl (by omega) ?_
            | refine run_guard1f rfl rfl (by omega) ?_
            | refine run_guard0t rfl rfl (by omega) ?_
            | refine run_guard0f rfl rfl (by omega) ?_
            | refine run_guard1 rfl rfl (fun h1 => ?_) (fun h1 => ?_)
            | refine run_guard0 rfl rfl (fun h1 => ?_) (fun h1 => ?_)
            | refine run_guard rfl rfl (fun h1 => ?_) (fun h1 => ?_)
            | refine run_nil ?_
            | refine sd ?_
            | refine sdl ?_
            | refine sdm ?_
            | refine sdb ?_
            | refine rund_want rfl rfl ?_
            | refine rund_unwant rfl rfl ?_
            | refine rund_undef rfl rfl ?_
            | refine rund_guard1 rfl rfl (fun h1 => ?_) (fun h1 => ?_)
            | refine rund_guard0 rfl rfl (fun h1 => ?_) (fun h1 => ?_)
            | refine rund_guard rfl rfl (fun h1 => ?_) (fun h1 => ?_)
            | refine rund_nil ?_
            | refine aw_seq ?_
            | refine aw_region (by kernel_rfl) (Nat.le_of_ble_eq_true rfl) ?_
            | refine aw_region_d (id := 6) [0, 1, 3, 7, 7, 23, 63, 127, 255, 7, 7, 1543, 3591, 7687, 16383, 32767] 16 (by kernel_rfl) (by kernel_rfl) (by kernel_rfl) (Nat.le_of_ble_eq_true rfl) ?_
            | refine aw_block ?_
            | refine aw_cond_t rfl ?_
            | refine aw_cond_f rfl ?_
            | refine aw_cond_tp rfl (by omega) ?_
            | refine aw_cond_fp rfl (by omega) ?_
            | refine aw_cond1 rfl (fun h1 => ?_) (fun h1 => ?_)
            | refine aw_cond rfl (fun h1 => ?_) (fun h1 => ?_)
            | refine aw_skip ?_
            | refine aw_exit ?_
            | refine aw_ret ?_
            | refine pp_ret ?_
            | refine pp_normal ?_
          all_goals first | exact Exists.intro ⟨i + 1⟩ ⟨fitsD [0], ⟨hi, hs⟩, by dsimp only; omega⟩ | (exfalso; omega)
  · obtain rfl : i = n := by omega
    have hc2 : c = 0 := by rw [← hc, spE, hn]; exact g2
    subst hc2
    repeat' first
      | refine st ?_
      | refine stm ?_
      | refine run_want rfl rfl ?_
      | refine run_unwant rfl rfl ?_
      | refine run_undef rfl rfl ?_
      | refine run_guard1t rfl rfl (by omega) ?_
      | refine run_guard1f rfl rfl (by omega) ?_
      | refine run_guard0t rfl rfl (by omega) ?_
      | refine run_guard0f rfl rfl (by omega) ?_
      | refine run_guard1 rfl rfl (fun h1 => ?_) (fun h1 => ?_)
      | refine run_guard0 rfl rfl (fun h1 => ?_) (fun h1 => ?_)
      | refine run_guard rfl rfl (fun h1 => ?_) (fun h1 => ?_)
      | refine run_nil ?_
      | refine sd ?_
      | refine sdl ?_
      | refine sdm ?_
      | refine sdb ?_
      | refine rund_want rfl rfl ?_
      | refine rund_unwant rfl rfl ?_
      | refine rund_undef rfl rfl ?_
      | refine rund_guard1 rfl rfl (fun h1 => ?_) (fun h1 => ?_)
      | refine rund_guard0 rfl rfl (fun h1 => ?_) (fun h1 => ?_)
      | refine rund_guard rfl rfl (fun h1 => ?_) (fun h1 => ?_)
      | refine rund_nil ?_
      | refine aw_seq ?_
      | refine aw_region (by kernel_rfl) (Nat.le_of_ble_eq_true rfl) ?_
      | refine aw_region_d (id := 6) [0, 1, 3, 7, 7, 23, 63, 127, 255, 7, 7, 1543, 3591, 7687, 16383, 32767] 16 (by kernel_rfl) (by kernel_rfl) (by kernel_rfl) (Nat.le_of_ble_eq_true rfl) ?_
      | refine aw_block ?_
      | refine aw_cond_t rfl ?_
      | refine aw_cond_f rfl ?_
      | refine aw_cond_tp rfl (by omega) ?_
      | refine aw_cond_fp rfl (by omega) ?_
      | refine aw_cond1 rfl (fun h1 => ?_) (fun h1 => ?_)
      | refine aw_cond rfl (fun h1 => ?_) (fun h1 => ?_)
      | refine aw_skip ?_
      | refine aw_exit ?_
      | refine aw_ret ?_
      | refine pp_ret ?_
      | refine pp_normal ?_
    all_goals first | rfl | (exfalso; omega)
end Go.Proofs.Ytjamfmnlhiolkaa
