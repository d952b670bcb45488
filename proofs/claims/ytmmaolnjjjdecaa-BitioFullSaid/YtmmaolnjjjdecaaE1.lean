/- Bits: few, write, refWrite. -/
import Derived.Test.YtmmaolnjjjdecaaC9
import Derived.Test.YtmmaolnjjjdecaaV21
set_option linter.unusedVariables false
set_option linter.unusedSimpArgs false
namespace Go.Proofs.Ytmmaolnjjjdecaa
open Go Av
set_option maxRecDepth 20000
abbrev Fd := Int × Int × Int × ByteArray × Unit
def fdC (p : Fd) : List Value := [.int .i64 p.1, .int .i64 p.2.1, .int .i64 p.2.2.1, .string p.2.2.2.1]
def fewB (l : List Fd) : Bool := decide (l.length ≤ 40 ∧ ∀ f ∈ l, f.2.2.2.1.size ≤ 200)
instance : RenF fdC := ⟨fun _ _ => rfl⟩
structure Kg where
  i : Nat
set_option maxHeartbeats 1000000 in
theorem ac_few (l : List Fd) : ACalls Try.prog 12 [.slice (some ⟨0, 0, none⟩) l.length l.length] [some ⟨l.flatMap fdC, false, 4⟩] (.bool (fewB l)) [none] := by
  obtain ⟨c, hc⟩ : ∃ c, fewB l = c := ⟨_, rfl⟩
  rw [hc]
  unfold fewB at hc
  obtain ⟨n, hn⟩ : ∃ n, l.length = n := ⟨_, rfl⟩
  rw [hn] at hc ⊢
  by_cases h40 : n ≤ 40
  · refine acalls_law Try.func12 rfl rfl rfl ?_
    repeat' first
      | refine st ?_
      | refine stm ?_
      | refine run_want rfl rfl ?_
      | refine run_unwant rfl rfl ?_
      | refine run_undef rfl rfl ?_
      | refine run_guard1t rfl rfl (by omega) ?_
      | refine run_guard1f rfl rfl (by omega) ?_
      | refine run_guard0t rfl rfl (by omega) ?_
      | refine run_guard0f rfl rfl (by omega) ?_
      | refine run_guard1 rfl rfl (fun h1 => ?_) (fun h1 => ?_)
      | refine run_guard0 rfl rfl (fun h1 => ?_) (fun h1 => ?_)
      | refine run_guard rfl rfl (fun h1 => ?_) (fun h1 => ?_)
      | refine run_nil ?_
      | refine aw_seq ?_
      | refine aw_region (by kernel_rfl) (Nat.le_of_ble_eq_true rfl) ?_
      | refine aw_block ?_
      | refine aw_cond_t rfl ?_
      | refine aw_cond_f rfl ?_
      | refine aw_cond_tp rfl (by omega) ?_
      | refine aw_cond_fp rfl (by omega) ?_
      | refine aw_cond1 rfl (fun h1 => ?_) (fun h1 => ?_)
      | refine aw_cond rfl (fun h1 => ?_) (fun h1 => ?_)
      | refine aw_skip ?_
      | refine aw_exit ?_
      | refine aw_ret ?_
      | refine pp_ret ?_
      | refine pp_normal ?_
    refine aw_loopg
      (S := fun y : Kg => [(8, .slice (some ⟨0, 0, none⟩) n n), (9, .int .i64 n), (10, .int .i64 y.i)])
      (B := fun _ : Kg => [some ⟨l.flatMap fdC, false, 4⟩])
      (R := fun y : Kg => y.i ≤ n ∧ ∀ j, j < y.i → ∀ f, l[j]? = some f → f.2.2.2.1.size ≤ 200)
      (μ := fun y : Kg => n - y.i) ⟨0⟩ (fitsD [0]) ⟨Nat.zero_le _, fun j hj => absurd hj (Nat.not_lt_zero j)⟩ ?_
    rintro ⟨i⟩ ⟨g1, g2⟩
    dsimp only at *
    by_cases hi : i < n
    · obtain ⟨⟨k, w, x, t, u⟩, hq⟩ : ∃ q, l[i]? = some q := ⟨_, List.getElem?_eq_getElem (by omega)⟩
      by_cases ht : t.size ≤ 200
      · skip
        repeat' first
          | refine st (h := ok_load_rowsE (f := fdC) (cs := [.int .i64 k, .int .i64 w, .int .i64 x, .string t]) i (fun _ => rfl) hq rfl rfl rfl rfl (by omega)) ?_
          | refine st ?_
          | refine stm ?_
          | refine run_want rfl rfl ?_
          | refine run_unwant rfl rfl ?_
          | refine run_undef rfl rfl ?_
          | refine run_guard1t rfl rfl (by omega) ?_
          | refine run_guard1f rfl rfl (by omega) ?_
          | refine run_guard0t rfl rfl (by omega) ?_
          | refine run_guard0f rfl rfl (by omega) ?_
          | refine run_guard1 rfl rfl (fun h1 => ?_) (fun h1 => ?_)
          | refine run_guard0 rfl rfl (fun h1 => ?_) (fun h1 => ?_)
          | refine run_guard rfl rfl (fun h1 => ?_) (fun h1 => ?_)
          | refine run_nil ?_
          | refine aw_seq ?_
          | refine aw_region (by kernel_rfl) (Nat.le_of_ble_eq_true rfl) ?_
          | refine aw_block ?_
          | refine aw_cond_t rfl ?_
          | refine aw_cond_f rfl ?_
          | refine aw_cond_tp rfl (by omega) ?_
          | refine aw_cond_fp rfl (by omega) ?_
          | refine aw_cond1 rfl (fun h1 => ?_) (fun h1 => ?_)
          | refine aw_cond rfl (fun h1 => ?_) (fun h1 => ?_)
          | refine aw_skip ?_
          | refine aw_exit ?_
          | refine aw_ret ?_
          | refine pp_ret ?_
          | refine pp_normal ?_
        refine Exists.intro ⟨i + 1⟩ ⟨fitsD [0], ⟨hi, fun j hj f hf => ?_⟩, by dsimp only; omega⟩
        rcases Nat.lt_or_ge j i with h' | h'
        · exact g2 j h' f hf
        · obtain rfl : j = i := by dsimp only at hj; omega
          rw [hq] at hf; cases hf; exact ht
      · have hc' := decide_eq_false (p := n ≤ 40 ∧ ∀ f ∈ l, f.2.2.2.1.size ≤ 200) (fun h => ht (h.2 _ (List.mem_of_getElem? hq)))
        rw [hc'] at hc
        subst hc
        repeat' first
          | refine st (h := ok_load_rowsE (f := fdC) (cs := [.int .i64 k, .int .i64 w, .int .i64 x, .string t]) i (fun _ => rfl) hq rfl rfl rfl rfl (by omega)) ?_
          | refine st ?_
          | refine stm ?_
          | refine run_want rfl rfl ?_
          | refine run_unwant rfl rfl ?_
          | refine run_undef rfl rfl ?_
          | refine run_guard1t rfl rfl (by omega) ?_
          | refine run_guard1f rfl rfl (by omega) ?_
          | refine run_guard0t rfl rfl (by omega) ?_
          | refine run_guard0f rfl rfl (by omega) ?_
          | refine run_guard1 rfl rfl (fun h1 => ?_) (fun h1 => ?_)
          | refine run_guard0 rfl rfl (fun h1 => ?_) (fun h1 => ?_)
          | refine run_guard rfl rfl (fun h1 => ?_) (fun h1 => ?_)
          | refine run_nil ?_
          | refine aw_seq ?_
          | refine aw_region (by kernel_rfl) (Nat.le_of_ble_eq_true rfl) ?_
          | refine aw_block ?_
          | refine aw_cond_t rfl ?_
          | refine aw_cond_f rfl ?_
          | refine aw_cond_tp rfl (by omega) ?_
          | refine aw_cond_fp rfl (by omega) ?_
          | refine aw_cond1 rfl (fun h1 => ?_) (fun h1 => ?_)
          | refine aw_cond rfl (fun h1 => ?_) (fun h1 => ?_)
          | refine aw_skip ?_
          | refine aw_exit ?_
          | refine aw_ret ?_
          | refine pp_ret ?_
          | refine pp_normal ?_
        all_goals first | rfl | (exfalso; omega)
    · have hc' := decide_eq_true (p := n ≤ 40 ∧ ∀ f ∈ l, f.2.2.2.1.size ≤ 200) ⟨h40, fun f hf => by
        obtain ⟨j, hj⟩ := List.getElem?_of_mem hf
        exact g2 j (by have := (List.getElem?_eq_some_iff.1 hj).1; omega) f hj⟩
      rw [hc'] at hc
      subst hc
      repeat' first
        | refine st ?_
        | refine stm ?_
        | refine run_want rfl rfl ?_
        | refine run_unwant rfl rfl ?_
        | refine run_undef rfl rfl ?_
        | refine run_guard1t rfl rfl (by omega) ?_
        | refine run_guard1f rfl rfl (by omega) ?_
        | refine run_guard0t rfl rfl (by omega) ?_
        | refine run_guard0f rfl rfl (by omega) ?_
        | refine run_guard1 rfl rfl (fun h1 => ?_) (fun h1 => ?_)
        | refine run_guard0 rfl rfl (fun h1 => ?_) (fun h1 => ?_)
        | refine run_guard rfl rfl (fun h1 => ?_) (fun h1 => ?_)
        | refine run_nil ?_
        | refine aw_seq ?_
        | refine aw_region (by kernel_rfl) (Nat.le_of_ble_eq_true rfl) ?_
        | refine aw_block ?_
        | refine aw_cond_t rfl ?_
        | refine aw_cond_f rfl ?_
        | refine aw_cond_tp rfl (by omega) ?_
        | refine aw_cond_fp rfl (by omega) ?_
        | refine aw_cond1 rfl (fun h1 => ?_) (fun h1 => ?_)
        | refine aw_cond rfl (fun h1 => ?_) (fun h1 => ?_)
        | refine aw_skip ?_
        | refine aw_exit ?_
        | refine aw_ret ?_
        | refine pp_ret ?_
        | refine pp_normal ?_
      all_goals first | rfl | (exfalso; omega)
  · rw [decide_eq_false (fun h => h40 h.1)] at hc
    subst hc
    refine acalls_law Try.func12 rfl rfl rfl ?_
    repeat' first
      | refine st ?_
      | refine stm ?_
      | refine run_want rfl rfl ?_
      | refine run_unwant rfl rfl ?_
      | refine run_undef rfl rfl ?_
      | refine run_guard1t rfl rfl (by omega) ?_
      | refine run_guard1f rfl rfl (by omega) ?_
      | refine run_guard0t rfl rfl (by omega) ?_
      | refine run_guard0f rfl rfl (by omega) ?_
      | refine run_guard1 rfl rfl (fun h1 => ?_) (fun h1 => ?_)
      | refine run_guard0 rfl rfl (fun h1 => ?_) (fun h1 => ?_)
      | refine run_guard rfl rfl (fun h1 => ?_) (fun h1 => ?_)
      | refine run_nil ?_
      | refine aw_seq ?_
      | refine aw_region (by kernel_rfl) (Nat.le_of_ble_eq_true rfl) ?_
      | refine aw_block ?_
      | refine aw_cond_t rfl ?_
      | refine aw_cond_f rfl ?_
      | refine aw_cond_tp rfl (by omega) ?_
      | refine aw_cond_fp rfl (by omega) ?_
      | refine aw_cond1 rfl (fun h1 => ?_) (fun h1 => ?_)
      | refine aw_cond rfl (fun h1 => ?_) (fun h1 => ?_)
      | refine aw_skip ?_
      | refine aw_exit ?_
      | refine aw_ret ?_
      | refine pp_ret ?_
      | refine pp_normal ?_
    all_goals first | rfl | (exfalso; omega)
/-- A writer's bits and error behind a field. -/
def wrF (bs : List Int) (e q w x : Int) (t : ByteArray) : List Int × Int :=
  if q = 0 then unsW bs e w x else if q = 1 then sgnW bs e w x else if q = 2 then flgW bs e (decide (¬ x = 0)) else if q = 3 then txtW bs e w t else (bs, e)
set_option maxHeartbeats 1000000 in
theorem ac_write (q w x : Int) (t : ByteArray) (e e' : Int) (bs bs' Z Z' : List Int) (n n' : Nat) (k k' : Int) (hZ : pack bs = Z) (hn : n = Z.length) (hk : k = bs.length) (hst : wrF bs e q w x t = (bs', e')) (hZ' : pack bs' = Z') (hn' : n' = Z'.length) (hk' : k' = bs'.length) (hl : bs.length ≤ 524288) (hw : -9223372036854775808 ≤ w ∧ w ≤ 9223372036854775807) (hx : -9223372036854775808 ≤ x ∧ x ≤ 9223372036854775807) (ht : t.size ≤ 1000000) : ACalls Try.prog 15 [.pointer (some ⟨0, 0, none⟩), .agg #[.int .i64 q, .int .i64 w, .int .i64 x, .string t]] [some ⟨[.slice (some ⟨1, 0, none⟩) n n, .int .i64 k, .int .i64 e], true, 1⟩, some ⟨List.map (Value.int .u8) Z, true, 1⟩] (.tuple #[]) [some ⟨[.slice (some ⟨2, 0, none⟩) n' n', .int .i64 k', .int .i64 e'], true, 1⟩, none, some ⟨List.map (Value.int .u8) Z', true, 1⟩] := by
  unfold wrF at hst
  by_cases h0 : q = 0
  · rw [if_pos h0] at hst
    have HX := ac_unsigned w x e e' bs bs' Z Z' n n' k k' hZ hn hk hst hZ' hn' hk' hl hw hx
    refine acalls_of_aw Try.func15 rfl rfl ?_
    repeat' first
      | refine st ?_
      | refine stMW [0, 1] HX ?_
      | refine stm ?_
      | refine run_want rfl rfl ?_
      | refine run_unwant rfl rfl ?_
      | refine run_undef rfl rfl ?_
      | refine run_guard1t rfl rfl (by omega) ?_
      | refine run_guard1f rfl rfl (by omega) ?_
      | refine run_guard0t rfl rfl (by omega) ?_
      | refine run_guard0f rfl rfl (by omega) ?_
      | refine run_guard1 rfl rfl (fun h1 => ?_) (fun h1 => ?_)
      | refine run_guard0 rfl rfl (fun h1 => ?_) (fun h1 => ?_)
      | refine run_guard rfl rfl (fun h1 => ?_) (fun h1 => ?_)
      | refine run_nil ?_
      | refine aw_seq ?_
      | refine aw_region (by kernel_rfl) (Nat.le_of_ble_eq_true rfl) ?_
      | refine aw_block ?_
      | refine aw_cond_t rfl ?_
      | refine aw_cond_f rfl ?_
      | refine aw_cond_tp rfl (by omega) ?_
      | refine aw_cond_fp rfl (by omega) ?_
      | refine aw_cond1 rfl (fun h1 => ?_) (fun h1 => ?_)
      | refine aw_cond rfl (fun h1 => ?_) (fun h1 => ?_)
      | refine aw_skip ?_
      | refine aw_exit ?_
      | refine aw_ret ?_
      | refine pp_ret ?_
      | refine pp_normal ?_
    all_goals first | exact pm_normal _ (renumD [0, 1, 3]) rfl | (exfalso; omega)
  · rw [if_neg h0] at hst
    by_cases h1 : q = 1
    · rw [if_pos h1] at hst
      have HX := ac_signed w x e e' bs bs' Z Z' n n' k k' hZ hn hk hst hZ' hn' hk' hl hw hx
      refine acalls_of_aw Try.func15 rfl rfl ?_
      repeat' first
        | refine st ?_
        | refine stMW [0, 1] HX ?_
        | refine stm ?_
        | refine run_want rfl rfl ?_
        | refine run_unwant rfl rfl ?_
        | refine run_undef rfl rfl ?_
        | refine run_guard1t rfl rfl (by omega) ?_
        | refine run_guard1f rfl rfl (by omega) ?_
        | refine run_guard0t rfl rfl (by omega) ?_
        | refine run_guard0f rfl rfl (by omega) ?_
        | refine run_guard1 rfl rfl (fun h1 => ?_) (fun h1 => ?_)
        | refine run_guard0 rfl rfl (fun h1 => ?_) (fun h1 => ?_)
        | refine run_guard rfl rfl (fun h1 => ?_) (fun h1 => ?_)
        | refine run_nil ?_
        | refine aw_seq ?_
        | refine aw_region (by kernel_rfl) (Nat.le_of_ble_eq_true rfl) ?_
        | refine aw_block ?_
        | refine aw_cond_t rfl ?_
        | refine aw_cond_f rfl ?_
        | refine aw_cond_tp rfl (by omega) ?_
        | refine aw_cond_fp rfl (by omega) ?_
        | refine aw_cond1 rfl (fun h1 => ?_) (fun h1 => ?_)
        | refine aw_cond rfl (fun h1 => ?_) (fun h1 => ?_)
        | refine aw_skip ?_
        | refine aw_exit ?_
        | refine aw_ret ?_
        | refine pp_ret ?_
        | refine pp_normal ?_
      all_goals first | exact pm_normal _ (renumD [0, 1, 3]) rfl | (exfalso; omega)
    · rw [if_neg h1] at hst
      by_cases h2 : q = 2
      · rw [if_pos h2] at hst
        have HX := ac_flag (decide (¬ x = 0)) e e' bs bs' Z Z' n n' k k' hZ hn hk hst hZ' hn' hk' hl
        refine acalls_of_aw Try.func15 rfl rfl ?_
        repeat' first
          | refine st ?_
          | refine stMW [0, 1] HX ?_
          | refine stm ?_
          | refine run_want rfl rfl ?_
          | refine run_unwant rfl rfl ?_
          | refine run_undef rfl rfl ?_
          | refine run_guard1t rfl rfl (by omega) ?_
          | refine run_guard1f rfl rfl (by omega) ?_
          | refine run_guard0t rfl rfl (by omega) ?_
          | refine run_guard0f rfl rfl (by omega) ?_
          | refine run_guard1 rfl rfl (fun h1 => ?_) (fun h1 => ?_)
          | refine run_guard0 rfl rfl (fun h1 => ?_) (fun h1 => ?_)
          | refine run_guard rfl rfl (fun h1 => ?_) (fun h1 => ?_)
          | refine run_nil ?_
          | refine aw_seq ?_
          | refine aw_region (by kernel_rfl) (Nat.le_of_ble_eq_true rfl) ?_
          | refine aw_block ?_
          | refine aw_cond_t rfl ?_
          | refine aw_cond_f rfl ?_
          | refine aw_cond_tp rfl (by omega) ?_
          | refine aw_cond_fp rfl (by omega) ?_
          | refine aw_cond1 rfl (fun h1 => ?_) (fun h1 => ?_)
          | refine aw_cond rfl (fun h1 => ?_) (fun h1 => ?_)
          | refine aw_skip ?_
          | refine aw_exit ?_
          | refine aw_ret ?_
          | refine pp_ret ?_
          | refine pp_normal ?_
        all_goals first | exact pm_normal _ (renumD [0, 1, 3]) rfl | (exfalso; omega)
      · rw [if_neg h2] at hst
        by_cases h3 : q = 3
        · rw [if_pos h3] at hst
          have HX := ac_text w t e e' bs bs' Z Z' n n' k k' hZ hn hk hst hZ' hn' hk' hl hw ht
          refine acalls_of_aw Try.func15 rfl rfl ?_
          repeat' first
            | refine st ?_
            | refine stMW [0, 1] HX ?_
            | refine stm ?_
            | refine run_want rfl rfl ?_
            | refine run_unwant rfl rfl ?_
            | refine run_undef rfl rfl ?_
            | refine run_guard1t rfl rfl (by omega) ?_
            | refine run_guard1f rfl rfl (by omega) ?_
            | refine run_guard0t rfl rfl (by omega) ?_
            | refine run_guard0f rfl rfl (by omega) ?_
            | refine run_guard1 rfl rfl (fun h1 => ?_) (fun h1 => ?_)
            | refine run_guard0 rfl rfl (fun h1 => ?_) (fun h1 => ?_)
            | refine run_guard rfl rfl (fun h1 => ?_) (fun h1 => ?_)
            | refine run_nil ?_
            | refine aw_seq ?_
            | refine aw_region (by kernel_rfl) (Nat.le_of_ble_eq_true rfl) ?_
            | refine aw_block ?_
            | refine aw_cond_t rfl ?_
            | refine aw_cond_f rfl ?_
            | refine aw_cond_tp rfl (by omega) ?_
            | refine aw_cond_fp rfl (by omega) ?_
            | refine aw_cond1 rfl (fun h1 => ?_) (fun h1 => ?_)
            | refine aw_cond rfl (fun h1 => ?_) (fun h1 => ?_)
            | refine aw_skip ?_
            | refine aw_exit ?_
            | refine aw_ret ?_
            | refine pp_ret ?_
            | refine pp_normal ?_
          all_goals first | exact pm_normal _ (renumD [0, 1, 3]) rfl | (exfalso; omega)
        · rw [if_neg h3] at hst
          obtain ⟨rfl, rfl⟩ := Prod.mk.inj hst
          subst hZ hZ'
          obtain rfl : n = n' := by omega
          obtain rfl : k = k' := by omega
          refine acalls_of_aw Try.func15 rfl rfl ?_
          repeat' first
            | refine st ?_
            | refine stm ?_
            | refine run_want rfl rfl ?_
            | refine run_unwant rfl rfl ?_
            | refine run_undef rfl rfl ?_
            | refine run_guard1t rfl rfl (by omega) ?_
            | refine run_guard1f rfl rfl (by omega) ?_
            | refine run_guard0t rfl rfl (by omega) ?_
            | refine run_guard0f rfl rfl (by omega) ?_
            | refine run_guard1 rfl rfl (fun h1 => ?_) (fun h1 => ?_)
            | refine run_guard0 rfl rfl (fun h1 => ?_) (fun h1 => ?_)
            | refine run_guard rfl rfl (fun h1 => ?_) (fun h1 => ?_)
            | refine run_nil ?_
            | refine aw_seq ?_
            | refine aw_region (by kernel_rfl) (Nat.le_of_ble_eq_true rfl) ?_
            | refine aw_block ?_
            | refine aw_cond_t rfl ?_
            | refine aw_cond_f rfl ?_
            | refine aw_cond_tp rfl (by omega) ?_
            | refine aw_cond_fp rfl (by omega) ?_
            | refine aw_cond1 rfl (fun h1 => ?_) (fun h1 => ?_)
            | refine aw_cond rfl (fun h1 => ?_) (fun h1 => ?_)
            | refine aw_skip ?_
            | refine aw_exit ?_
            | refine aw_ret ?_
            | refine pp_ret ?_
            | refine pp_normal ?_
          all_goals first | exact pm_normal _ (renumD [0, 1, 1]) rfl | (exfalso; omega)
set_option maxHeartbeats 1000000 in
theorem ac_refWrite (q w x : Int) (t : ByteArray) (e e' : Int) (bs bs' : List Int) (n n' : Nat) (hn : n = bs.length) (hst : wrF bs e q w x t = (bs', e')) (hn' : n' = bs'.length) (hl : bs.length ≤ 524288) (hw : -9223372036854775808 ≤ w ∧ w ≤ 9223372036854775807) (hx : -9223372036854775808 ≤ x ∧ x ≤ 9223372036854775807) (ht : t.size ≤ 1000000) : ACalls Try.prog 16 [.pointer (some ⟨0, 0, none⟩), .agg #[.int .i64 q, .int .i64 w, .int .i64 x, .string t]] [some ⟨[.slice (some ⟨1, 0, none⟩) n n, .int .i64 e], true, 1⟩, some ⟨List.map (Value.int .u8) bs, true, 1⟩] (.tuple #[]) [some ⟨[.slice (some ⟨2, 0, none⟩) n' n', .int .i64 e'], true, 1⟩, none, some ⟨List.map (Value.int .u8) bs', true, 1⟩] := by
  unfold wrF at hst
  by_cases h0 : q = 0
  · rw [if_pos h0] at hst
    have HX := ac_runsigned w x e e' bs bs' n n' hn hst hn' hl hw hx
    refine acalls_of_aw Try.func16 rfl rfl ?_
    repeat' first
      | refine st ?_
      | refine stMW [0, 1] HX ?_
      | refine stm ?_
      | refine run_want rfl rfl ?_
      | refine run_unwant rfl rfl ?_
      | refine run_undef rfl rfl ?_
      | refine run_guard1t rfl rfl (by omega) ?_
      | refine run_guard1f rfl rfl (by omega) ?_
      | refine run_guard0t rfl rfl (by omega) ?_
      | refine run_guard0f rfl rfl (by omega) ?_
      | refine run_guard1 rfl rfl (fun h1 => ?_) (fun h1 => ?_)
      | refine run_guard0 rfl rfl (fun h1 => ?_) (fun h1 => ?_)
      | refine run_guard rfl rfl (fun h1 => ?_) (fun h1 => ?_)
      | refine run_nil ?_
      | refine aw_seq ?_
      | refine aw_region (by kernel_rfl) (Nat.le_of_ble_eq_true rfl) ?_
      | refine aw_block ?_
      | refine aw_cond_t rfl ?_
      | refine aw_cond_f rfl ?_
      | refine aw_cond_tp rfl (by omega) ?_
      | refine aw_cond_fp rfl (by omega) ?_
      | refine aw_cond1 rfl (fun h1 => ?_) (fun h1 => ?_)
      | refine aw_cond rfl (fun h1 => ?_) (fun h1 => ?_)
      | refine aw_skip ?_
      | refine aw_exit ?_
      | refine aw_ret ?_
      | refine pp_ret ?_
      | refine pp_normal ?_
    all_goals first | exact pm_normal _ (renumD [0, 1, 3]) rfl | (exfalso; omega)
  · rw [if_neg h0] at hst
    by_cases h1 : q = 1
    · rw [if_pos h1] at hst
      have HX := ac_rsigned w x e e' bs bs' n n' hn hst hn' hl hw hx
      refine acalls_of_aw Try.func16 rfl rfl ?_
      repeat' first
        | refine st ?_
        | refine stMW [0, 1] HX ?_
        | refine stm ?_
        | refine run_want rfl rfl ?_
        | refine run_unwant rfl rfl ?_
        | refine run_undef rfl rfl ?_
        | refine run_guard1t rfl rfl (by omega) ?_
        | refine run_guard1f rfl rfl (by omega) ?_
        | refine run_guard0t rfl rfl (by omega) ?_
        | refine run_guard0f rfl rfl (by omega) ?_
        | refine run_guard1 rfl rfl (fun h1 => ?_) (fun h1 => ?_)
        | refine run_guard0 rfl rfl (fun h1 => ?_) (fun h1 => ?_)
        | refine run_guard rfl rfl (fun h1 => ?_) (fun h1 => ?_)
        | refine run_nil ?_
        | refine aw_seq ?_
        | refine aw_region (by kernel_rfl) (Nat.le_of_ble_eq_true rfl) ?_
        | refine aw_block ?_
        | refine aw_cond_t rfl ?_
        | refine aw_cond_f rfl ?_
        | refine aw_cond_tp rfl (by omega) ?_
        | refine aw_cond_fp rfl (by omega) ?_
        | refine aw_cond1 rfl (fun h1 => ?_) (fun h1 => ?_)
        | refine aw_cond rfl (fun h1 => ?_) (fun h1 => ?_)
        | refine aw_skip ?_
        | refine aw_exit ?_
        | refine aw_ret ?_
        | refine pp_ret ?_
        | refine pp_normal ?_
      all_goals first | exact pm_normal _ (renumD [0, 1, 3]) rfl | (exfalso; omega)
    · rw [if_neg h1] at hst
      by_cases h2 : q = 2
      · rw [if_pos h2] at hst
        have HX := ac_rflag (decide (¬ x = 0)) e e' bs bs' n n' hn hst hn' hl
        refine acalls_of_aw Try.func16 rfl rfl ?_
        repeat' first
          | refine st ?_
          | refine stMW [0, 1] HX ?_
          | refine stm ?_
          | refine run_want rfl rfl ?_
          | refine run_unwant rfl rfl ?_
          | refine run_undef rfl rfl ?_
          | refine run_guard1t rfl rfl (by omega) ?_
          | refine run_guard1f rfl rfl (by omega) ?_
          | refine run_guard0t rfl rfl (by omega) ?_
          | refine run_guard0f rfl rfl (by omega) ?_
          | refine run_guard1 rfl rfl (fun h1 => ?_) (fun h1 => ?_)
          | refine run_guard0 rfl rfl (fun h1 => ?_) (fun h1 => ?_)
          | refine run_guard rfl rfl (fun h1 => ?_) (fun h1 => ?_)
          | refine run_nil ?_
          | refine aw_seq ?_
          | refine aw_region (by kernel_rfl) (Nat.le_of_ble_eq_true rfl) ?_
          | refine aw_block ?_
          | refine aw_cond_t rfl ?_
          | refine aw_cond_f rfl ?_
          | refine aw_cond_tp rfl (by omega) ?_
          | refine aw_cond_fp rfl (by omega) ?_
          | refine aw_cond1 rfl (fun h1 => ?_) (fun h1 => ?_)
          | refine aw_cond rfl (fun h1 => ?_) (fun h1 => ?_)
          | refine aw_skip ?_
          | refine aw_exit ?_
          | refine aw_ret ?_
          | refine pp_ret ?_
          | refine pp_normal ?_
        all_goals first | exact pm_normal _ (renumD [0, 1, 3]) rfl | (exfalso; omega)
      · rw [if_neg h2] at hst
        by_cases h3 : q = 3
        · rw [if_pos h3] at hst
          have HX := ac_rtext w t e e' bs bs' n n' hn hst hn' hl hw ht
          refine acalls_of_aw Try.func16 rfl rfl ?_
          repeat' first
            | refine st ?_
            | refine stMW [0, 1] HX ?_
            | refine stm ?_
            | refine run_want rfl rfl ?_
            | refine run_unwant rfl rfl ?_
            | refine run_undef rfl rfl ?_
            | refine run_guard1t rfl rfl (by omega) ?_
            | refine run_guard1f rfl rfl (by omega) ?_
            | refine run_guard0t rfl rfl (by omega) ?_
            | refine run_guard0f rfl rfl (by omega) ?_
            | refine run_guard1 rfl rfl (fun h1 => ?_) (fun h1 => ?_)
            | refine run_guard0 rfl rfl (fun h1 => ?_) (fun h1 => ?_)
            | refine run_guard rfl rfl (fun h1 => ?_) (fun h1 => ?_)
            | refine run_nil ?_
            | refine aw_seq ?_
            | refine aw_region (by kernel_rfl) (Nat.le_of_ble_eq_true rfl) ?_
            | refine aw_block ?_
            | refine aw_cond_t rfl ?_
            | refine aw_cond_f rfl ?_
            | refine aw_cond_tp rfl (by omega) ?_
            | refine aw_cond_fp rfl (by omega) ?_
            | refine aw_cond1 rfl (fun h1 => ?_) (fun h1 => ?_)
            | refine aw_cond rfl (fun h1 => ?_) (fun h1 => ?_)
            | refine aw_skip ?_
            | refine aw_exit ?_
            | refine aw_ret ?_
            | refine pp_ret ?_
            | refine pp_normal ?_
          all_goals first | exact pm_normal _ (renumD [0, 1, 3]) rfl | (exfalso; omega)
        · rw [if_neg h3] at hst
          obtain ⟨rfl, rfl⟩ := Prod.mk.inj hst
          obtain rfl : n = n' := by omega
          refine acalls_of_aw Try.func16 rfl rfl ?_
          repeat' first
            | refine st ?_
            | refine stm ?_
            | refine run_want rfl rfl ?_
            | refine run_unwant rfl rfl ?_
            | refine run_undef rfl rfl ?_
            | refine run_guard1t rfl rfl (by omega) ?_
            | refine run_guard1f rfl rfl (by omega) ?_
            | refine run_guard0t rfl rfl (by omega) ?_
            | refine run_guard0f rfl rfl (by omega) ?_
            | refine run_guard1 rfl rfl (fun h1 => ?_) (fun h1 => ?_)
            | refine run_guard0 rfl rfl (fun h1 => ?_) (fun h1 => ?_)
            | refine run_guard rfl rfl (fun h1 => ?_) (fun h1 => ?_)
            | refine run_nil ?_
            | refine aw_seq ?_
            | refine aw_region (by kernel_rfl) (Nat.le_of_ble_eq_true rfl) ?_
            | refine aw_block ?_
            | refine aw_cond_t rfl ?_
            | refine aw_cond_f rfl ?_
            | refine aw_cond_tp rfl (by omega) ?_
            | refine aw_cond_fp rfl (by omega) ?_
            | refine aw_cond1 rfl (fun h1 => ?_) (fun h1 => ?_)
            | refine aw_cond rfl (fun h1 => ?_) (fun h1 => ?_)
            | refine aw_skip ?_
            | refine aw_exit ?_
            | refine aw_ret ?_
            | refine pp_ret ?_
            | refine pp_normal ?_
          all_goals first | exact pm_normal _ (renumD [0, 1, 1]) rfl | (exfalso; omega)
end Go.Proofs.Ytmmaolnjjjdecaa
