/- The next slot. -/
import Derived.Test.YtfabgdignlfihaaK0
set_option linter.unusedVariables false
set_option linter.unusedSimpArgs false
namespace Go.Proofs.Ytfabgdignlfihaa
open Go Av
set_option maxRecDepth 20000
theorem atC_mem {C : List Ce} {q : Int} {c : Ce} (h : atC C q = some c) : c ∈ C ∧ c.1 = q := ⟨List.mem_of_find?_eq_some h, by have := List.find?_some h; simpa using this⟩
theorem shH_of {q : Int} : ∀ {C : List Ce} {c : Ce}, c ∈ C → c.2.2.1 = 3 → c.1 = q → shH q C = true
  | [], c, h, _, _ => by simp at h
  | d :: C, c, h, h1, h2 => by
    rw [shH]
    rcases List.mem_cons.1 h with rfl | h
    · rw [decide_eq_true ⟨h1, h2⟩]; rfl
    · rw [shH_of h h1 h2, Bool.or_true]
structure Ng where
  i : Nat
  F : List Bool
def freeP (C : List Ce) (i q : Nat) : Prop := ∃ j, j < i ∧ ∃ c, C[j]? = some c ∧ c.1 = q ∧ atC C q = some c ∧ c.2.2.1 = 3
theorem freeP_succ {C : List Ce} {i q : Nat} {c : Ce} (h : C[i]? = some c) : freeP C (i + 1) q ↔ freeP C i q ∨ (c.1 = q ∧ atC C q = some c ∧ c.2.2.1 = 3) := by
  constructor
  · rintro ⟨j, hj, d, h1, h2⟩
    rcases Nat.lt_or_ge j i with h3 | h3
    · exact .inl ⟨j, h3, d, h1, h2⟩
    · obtain rfl : j = i := by omega
      rw [h] at h1; cases h1
      exact .inr h2
  · rintro (⟨j, hj, h1⟩ | h1)
    · exact ⟨j, by omega, h1⟩
    · exact ⟨i, by omega, c, h, h1⟩
theorem freeP_end {C : List Ce} {q : Nat} : freeP C C.length q ↔ ∃ c, atC C q = some c ∧ c.2.2.1 = 3 := by
  constructor
  · rintro ⟨j, _, c, _, _, h1, h2⟩
    exact ⟨c, h1, h2⟩
  · rintro ⟨c, h1, h2⟩
    obtain ⟨hm, hq⟩ := atC_mem h1
    obtain ⟨j, hj⟩ := List.mem_iff_getElem?.1 hm
    exact ⟨j, (List.getElem?_eq_some_iff.1 hj).1, c, hj, hq, h1, h2⟩
set_option maxHeartbeats 4000000 in
theorem ac_next (node len : Int) (C : List Ce) (n : Nat) (hn : C.length = n) (hb : n ≤ 1000000) (s t : Int) (hs : s ≤ 4611686018427387904) (p : Int) (z : Bool) (hx : nextR node len C s t = (p, z)) : ACalls Try.prog 20 [.agg #[.int .i64 node, .int .i64 len, .slice (some ⟨0, 0, none⟩) n n], .int .i64 s, .int .i64 t] [some ⟨C.flatMap tcC, false, 6⟩] (.tuple #[.int .i64 p, .bool z]) [none] := by
  unfold nextR at hx
  obtain ⟨y, hy⟩ : ∃ y, chkT node len C = y := ⟨_, rfl⟩
  have HR := ac_right node len C n hn hb t _ rfl
  rw [hy] at HR
  rw [hy] at hx
  by_cases h1 : y ≠ 0 ∨ t < 1 ∨ 32 < t ∨ s < 0
  · rw [if_pos h1] at hx
    obtain ⟨rfl, rfl⟩ := Prod.mk.inj hx.symm
    refine acalls_law Try.func20 rfl rfl rfl ?_
    repeat' first
      | refine st (h := ok_not_dec2 rfl) ?_
      | refine sd (h := ok_not_dec2 rfl) ?_
      | refine st ?_
      | refine stRW [0] HR ?_
      | refine sdRW [0] HR ?_
      | refine stm ?_
      | refine run_want rfl rfl ?_
      | refine run_unwant rfl rfl ?_
      | refine run_undef rfl rfl ?_
      | refine run_guard1t rfl rfl (by omega) ?_
      | refine run_guard1f rfl rfl (by omega) ?_
      | refine run_guard0t rfl rfl (by omega) ?_
      | refine run_guard0f rfl rfl (by omega) ?_
      | refine run_guard1 rfl rfl (fun h1 => ?_) (fun h1 => ?_)
      | refine run_guard0 rfl rfl (fun h1 => ?_) (fun h1 => ?_)
      | refine run_guard rfl rfl (fun h1 => ?_) (fun h1 => ?_)
      | refine run_nil ?_
      | refine sd ?_
      | refine sdl ?_
      | refine sdm (n := 1) ?_
      | refine sdm ?_
      | refine sdb ?_
      | refine rund_want rfl rfl ?_
      | refine rund_unwant rfl rfl ?_
      | refine rund_undef rfl rfl ?_
      | refine rund_guard1 rfl rfl (fun h1 => ?_) (fun h1 => ?_)
      | refine rund_guard0 rfl rfl (fun h1 => ?_) (fun h1 => ?_)
      | refine rund_guard rfl rfl (fun h1 => ?_) (fun h1 => ?_)
      | refine rund_nil ?_
      | refine aw_seq ?_
      | refine aw_region (by kernel_rfl) (Nat.le_of_ble_eq_true rfl) ?_
      | refine aw_region_dC (id := 19) [0, 0, 2, 7, 0, 31, 0, 127, 0, 511, 0, 2047, 0, 4096, 0, 28672, 65535] 17 (by (repeat constructor)) (by kernel_rfl) (by kernel_rfl) (by kernel_rfl) (by rfl) ?_
      | refine aw_block ?_
      | refine aw_cond_t rfl ?_
      | refine aw_cond_f rfl ?_
      | refine aw_cond_tp rfl (by omega) ?_
      | refine aw_cond_fp rfl (by omega) ?_
      | refine aw_cond1 rfl (fun h1 => ?_) (fun h1 => ?_)
      | refine aw_cond rfl (fun h1 => ?_) (fun h1 => ?_)
      | refine aw_skip ?_
      | refine aw_exit ?_
      | refine aw_ret ?_
      | refine pp_ret ?_
      | refine pp_normal ?_
    all_goals first
      | rfl
      | (exfalso; omega)
      | (exfalso; simp only [Bool.not_eq_true', Bool.not_eq_false', decide_eq_true_eq, decide_eq_false_iff_not, Bool.not_false, Bool.not_true] at *; omega)
      | (exfalso; simp_all; first | done | omega)
  · rw [if_neg h1] at hx
    obtain rfl : y = 0 := Decidable.byContradiction fun h => h1 (.inl h)
    have ht : 1 ≤ t ∧ t ≤ 32 ∧ 0 ≤ s := by omega
    clear h1
    obtain ⟨q1, q2, q3, q4⟩ := chkT_0 hy
    have hN0 : 1 ≤ len * t ∧ len ≤ len * t ∧ len * t ≤ 16384 := by
      have h1 := Int.mul_le_mul q2.2 ht.2.1 (by omega) (by decide)
      have h2 := Int.mul_le_mul (Int.le_refl len) ht.1 (by decide) (by omega)
      omega
    obtain ⟨N, hN⟩ : ∃ N : Nat, len * t = N := ⟨(len * t).toNat, by omega⟩
    rw [show (len * t).toNat = N by omega] at hx
    have hper : ∀ j : Nat, dueB node len C (s + (j + N : Nat)) t = dueB node len C (s + j) t := fun j => by
      rw [← due_per (node := node) (C := C) (s := s + j) q2.1 ht.1 (by omega), hN]
      congr 1
      omega
    rw [decide_eq_true (show (0 : Int) = 0 ∧ 1 ≤ t ∧ t ≤ 32 by omega)] at HR
    obtain ⟨a, ha⟩ : ∃ a, shN C = a := ⟨_, rfl⟩
    have ha0 : 0 ≤ a ∧ a ≤ 512 := by have := shN_bd C; omega
    have HS := ac_shared node len C n hn hb a ha
    have hform : ∀ {i : Nat} {c : Ce}, C[i]? = some c → 0 ≤ c.1 ∧ c.1 < len := fun {i c} hc => by
      have := (ceI_get q4 hc).1
      unfold formE at this
      split at this
      · cases this
      · split at this
        · cases this
        · split at this
          · cases this
          · omega
    refine acalls_law Try.func20 rfl rfl rfl ?_
    repeat' first
      | refine st (h := ok_not_dec2 rfl) ?_
      | refine sd (h := ok_not_dec2 rfl) ?_
      | refine st ?_
      | refine stRW [0] HR ?_
      | refine sdRW [0] HR ?_
      | refine stm ?_
      | refine run_want rfl rfl ?_
      | refine run_unwant rfl rfl ?_
      | refine run_undef rfl rfl ?_
      | refine run_guard1t rfl rfl (by omega) ?_
      | refine run_guard1f rfl rfl (by omega) ?_
      | refine run_guard0t rfl rfl (by omega) ?_
      | refine run_guard0f rfl rfl (by omega) ?_
      | refine run_guard1 rfl rfl (fun h1 => ?_) (fun h1 => ?_)
      | refine run_guard0 rfl rfl (fun h1 => ?_) (fun h1 => ?_)
      | refine run_guard rfl rfl (fun h1 => ?_) (fun h1 => ?_)
      | refine run_nil ?_
      | refine sd ?_
      | refine sdl ?_
      | refine sdm (n := 1) ?_
      | refine sdm ?_
      | refine sdb ?_
      | refine rund_want rfl rfl ?_
      | refine rund_unwant rfl rfl ?_
      | refine rund_undef rfl rfl ?_
      | refine rund_guard1 rfl rfl (fun h1 => ?_) (fun h1 => ?_)
      | refine rund_guard0 rfl rfl (fun h1 => ?_) (fun h1 => ?_)
      | refine rund_guard rfl rfl (fun h1 => ?_) (fun h1 => ?_)
      | refine rund_nil ?_
      | refine aw_seq ?_
      | refine aw_region (by kernel_rfl) (Nat.le_of_ble_eq_true rfl) ?_
      | refine aw_region_dC (id := 19) [0, 0, 2, 7, 0, 31, 0, 127, 0, 511, 0, 2047, 0, 4096, 0, 28672, 65535] 17 (by (repeat constructor)) (by kernel_rfl) (by kernel_rfl) (by kernel_rfl) (by rfl) ?_
      | refine aw_block ?_
      | refine aw_cond_t rfl ?_
      | refine aw_cond_f rfl ?_
      | refine aw_cond_tp rfl (by omega) ?_
      | refine aw_cond_fp rfl (by omega) ?_
      | refine aw_cond1 rfl (fun h1 => ?_) (fun h1 => ?_)
      | refine aw_cond rfl (fun h1 => ?_) (fun h1 => ?_)
      | refine aw_skip ?_
      | refine aw_exit ?_
      | refine aw_ret ?_
      | refine pp_ret ?_
      | refine pp_normal ?_
    rw [show List.replicate len.toNat (Value.bool false) = List.map Value.bool (List.replicate len.toNat false) from (List.map_replicate ..).symm]
    clear HR
    refine aw_loopg
      (S := fun y : Ng => [(1, .int .i64 s), (2, .int .i64 t), (3, .pointer (some ⟨1, 0, none⟩)), (8, .slice (some ⟨2, 0, none⟩) len.toNat len.toNat), (31, .slice (some ⟨0, 0, none⟩) n n), (32, .int .i64 n), (33, .int .i64 y.i)])
      (B := fun y : Ng => [some ⟨C.flatMap tcC, false, 6⟩, some ⟨[.int .i64 node, .int .i64 len, .slice (some ⟨0, 0, none⟩) n n], true, 1⟩, some ⟨List.map Value.bool y.F, true, 1⟩])
      (R := fun y : Ng => y.i ≤ n ∧ y.F.length = len.toNat ∧ ∀ q : Nat, q < len.toNat → (y.F[q]? = some true ↔ freeP C y.i q))
      (μ := fun y : Ng => n - y.i) ⟨0, _⟩ (fitsD [0, 1, 2]) ⟨Nat.zero_le _, by simp, fun q hq => by simp [hq, freeP]⟩ ?_
    rintro ⟨i, F⟩ ⟨g1, g2, g3⟩
    dsimp only at *
    by_cases hi : i < n
    · obtain ⟨⟨sl, of, k, sd_, pe, fl, u⟩, hc⟩ : ∃ c, C[i]? = some c := ⟨_, List.getElem?_eq_getElem (by omega)⟩
      have hsl := hform hc
      dsimp only at hsl
      have hmd : sl % len = sl := Int.emod_eq_of_lt hsl.1 hsl.2
      obtain ⟨o, ho⟩ : ∃ o, atC C sl = o := ⟨_, rfl⟩
      have hao : atR node len C sl = o := by
        unfold atR
        rw [if_neg (by rw [hy]; omega), hmd]
        exact ho
      cases o with
      | none =>
        exfalso
        unfold atC at ho
        rw [List.find?_eq_none] at ho
        have := ho _ (List.mem_of_getElem? hc)
        simp at this
      | some c' =>
        obtain ⟨sl', of', k', sd', pe', fl', u'⟩ := c'
        have HA : ACalls Try.prog 54 [.agg #[.int .i64 node, .int .i64 len, .slice (some ⟨0, 0, none⟩) n n], .int .i64 sl] [some ⟨C.flatMap tcC, false, 6⟩] (.tuple #[.agg #[.int .i64 sl', .int .i64 of', .int .i64 k', .bool sd', .int .i64 pe', .int .i64 fl'], .bool true]) [none] := ac_at node len C n hn hb sl (some (sl', of', k', sd', pe', fl', u')) hao
        have hq : ∀ q : Nat, freeP C (i + 1) q ↔ freeP C i q ∨ (sl = q ∧ atC C q = some (sl, of, k, sd_, pe, fl, u) ∧ k = 3) := fun q => freeP_succ hc
        by_cases he : ((sl', of', k', sd', pe', fl', u') : Ce) = (sl, of, k, sd_, pe, fl, u) ∧ k = 3
        · obtain ⟨he1, he2⟩ := he
          rw [he1] at ho
          simp only [Prod.mk.injEq] at he1
          obtain ⟨rfl, rfl, rfl, rfl, rfl, rfl, _⟩ := he1
          have hst : ∀ q : Nat, q < len.toNat → ((F.set sl'.toNat true)[q]? = some true ↔ freeP C (i + 1) q) := fun q hq' => by
            rw [hq q, List.getElem?_set]
            by_cases hqs : sl'.toNat = q
            · rw [if_pos hqs, if_pos (by omega)]
              exact ⟨fun _ => .inr ⟨by omega, by rw [show ((q : Nat) : Int) = sl' by omega]; exact ho, he2⟩, fun _ => rfl⟩
            · rw [if_neg hqs, g3 q hq']
              exact ⟨.inl, fun h => h.resolve_right fun h => hqs (by omega)⟩
          repeat' first
            | refine st (h := ok_not_dec2 rfl) ?_
            | refine sd (h := ok_not_dec2 rfl) ?_
            | refine st (h := ok_load_rowsE (f := tcC) (cs := [.int .i64 sl', .int .i64 of', .int .i64 k', .bool sd', .int .i64 pe', .int .i64 fl']) (i) (fun _ => rfl) hc rfl rfl rfl rfl (by omega)) ?_
            | refine stm (h := ok_storeN (cs' := List.map Value.bool (F.set sl'.toNat true)) rfl rfl (ListR.refl _) rfl rfl rfl rfl (splice_map (f := Value.bool) (by omega) (by omega)) (by ((repeat constructor); first | done | fail)) rfl) ?_
            | refine st ?_
            | refine stRW [0] HA ?_
            | refine sdRW [0] HA ?_
            | refine stm ?_
            | refine run_want rfl rfl ?_
            | refine run_unwant rfl rfl ?_
            | refine run_undef rfl rfl ?_
            | refine run_guard1t rfl rfl (by omega) ?_
            | refine run_guard1f rfl rfl (by omega) ?_
            | refine run_guard0t rfl rfl (by omega) ?_
            | refine run_guard0f rfl rfl (by omega) ?_
            | refine run_guard1 rfl rfl (fun h1 => ?_) (fun h1 => ?_)
            | refine run_guard0 rfl rfl (fun h1 => ?_) (fun h1 => ?_)
            | refine run_guard rfl rfl (fun h1 => ?_) (fun h1 => ?_)
            | refine run_nil ?_
            | refine sd ?_
            | refine sdl ?_
            | refine sdm (n := 1) ?_
            | refine sdm ?_
            | refine sdb ?_
            | refine rund_want rfl rfl ?_
            | refine rund_unwant rfl rfl ?_
            | refine rund_undef rfl rfl ?_
            | refine rund_guard1 rfl rfl (fun h1 => ?_) (fun h1 => ?_)
            | refine rund_guard0 rfl rfl (fun h1 => ?_) (fun h1 => ?_)
            | refine rund_guard rfl rfl (fun h1 => ?_) (fun h1 => ?_)
            | refine rund_nil ?_
            | refine aw_seq ?_
            | refine aw_region (by kernel_rfl) (Nat.le_of_ble_eq_true rfl) ?_
            | refine aw_region_dC (id := 19) [0, 0, 2, 7, 0, 31, 0, 127, 0, 511, 0, 2047, 0, 4096, 0, 28672, 65535] 17 (by (repeat constructor)) (by kernel_rfl) (by kernel_rfl) (by kernel_rfl) (by rfl) ?_
            | refine aw_block ?_
            | refine aw_cond_t rfl ?_
            | refine aw_cond_f rfl ?_
            | refine aw_cond_tp rfl (by omega) ?_
            | refine aw_cond_fp rfl (by omega) ?_
            | refine aw_cond1 rfl (fun h1 => ?_) (fun h1 => ?_)
            | refine aw_cond rfl (fun h1 => ?_) (fun h1 => ?_)
            | refine aw_skip ?_
            | refine aw_exit ?_
            | refine aw_ret ?_
            | refine pp_ret ?_
            | refine pp_normal ?_
          all_goals first | exact Exists.intro ⟨i + 1, F.set sl'.toNat true⟩ ⟨fitsD [0, 1, 2], ⟨hi, by dsimp only; rw [List.length_set]; exact g2, hst⟩, by dsimp only; omega⟩ | (exfalso; omega) | exact absurd (by (repeat' constructor)) h1 | exact absurd (by simp) h1 | (exfalso; simp_all; done)
        · have hst : ∀ q : Nat, q < len.toNat → (F[q]? = some true ↔ freeP C (i + 1) q) := fun q hq' => by
            rw [hq q, g3 q hq']
            refine ⟨.inl, fun h => h.resolve_right fun ⟨h1, h2, h3⟩ => he ⟨?_, h3⟩⟩
            rw [← h1, ho] at h2
            exact Option.some.inj h2
          repeat' first
            | refine st (h := ok_not_dec2 rfl) ?_
            | refine sd (h := ok_not_dec2 rfl) ?_
            | refine st (h := ok_load_rowsE (f := tcC) (cs := [.int .i64 sl, .int .i64 of, .int .i64 k, .bool sd_, .int .i64 pe, .int .i64 fl]) (i) (fun _ => rfl) hc rfl rfl rfl rfl (by omega)) ?_
            | refine st ?_
            | refine stRW [0] HA ?_
            | refine sdRW [0] HA ?_
            | refine stm ?_
            | refine run_want rfl rfl ?_
            | refine run_unwant rfl rfl ?_
            | refine run_undef rfl rfl ?_
            | refine run_guard1t rfl rfl (by omega) ?_
            | refine run_guard1f rfl rfl (by omega) ?_
            | refine run_guard0t rfl rfl (by omega) ?_
            | refine run_guard0f rfl rfl (by omega) ?_
            | refine run_guard1 rfl rfl (fun h1 => ?_) (fun h1 => ?_)
            | refine run_guard0 rfl rfl (fun h1 => ?_) (fun h1 => ?_)
            | refine run_guard rfl rfl (fun h1 => ?_) (fun h1 => ?_)
            | refine run_nil ?_
            | refine sd ?_
            | refine sdl ?_
            | refine sdm (n := 1) ?_
            | refine sdm ?_
            | refine sdb ?_
            | refine rund_want rfl rfl ?_
            | refine rund_unwant rfl rfl ?_
            | refine rund_undef rfl rfl ?_
            | refine rund_guard1 rfl rfl (fun h1 => ?_) (fun h1 => ?_)
            | refine rund_guard0 rfl rfl (fun h1 => ?_) (fun h1 => ?_)
            | refine rund_guard rfl rfl (fun h1 => ?_) (fun h1 => ?_)
            | refine rund_nil ?_
            | refine aw_seq ?_
            | refine aw_region (by kernel_rfl) (Nat.le_of_ble_eq_true rfl) ?_
            | refine aw_region_dC (id := 19) [0, 0, 2, 7, 0, 31, 0, 127, 0, 511, 0, 2047, 0, 4096, 0, 28672, 65535] 17 (by (repeat constructor)) (by kernel_rfl) (by kernel_rfl) (by kernel_rfl) (by rfl) ?_
            | refine aw_block ?_
            | refine aw_cond_t rfl ?_
            | refine aw_cond_f rfl ?_
            | refine aw_cond_tp rfl (by omega) ?_
            | refine aw_cond_fp rfl (by omega) ?_
            | refine aw_cond1 rfl (fun h1 => ?_) (fun h1 => ?_)
            | refine aw_cond rfl (fun h1 => ?_) (fun h1 => ?_)
            | refine aw_skip ?_
            | refine aw_exit ?_
            | refine aw_ret ?_
            | refine pp_ret ?_
            | refine pp_normal ?_
          all_goals first | exact Exists.intro ⟨i + 1, F⟩ ⟨fitsD [0, 1, 2], ⟨hi, g2, hst⟩, by dsimp only; omega⟩ | (exfalso; omega) | (exfalso; simp_all; done)
    · obtain rfl : n = i := by omega
      have g4 : ∀ q : Nat, q < len.toNat → (F[q]? = some true ↔ ∃ c, atC C q = some c ∧ c.2.2.1 = 3) := fun q hq => by rw [g3 q hq, ← hn, freeP_end]
      clear g3
      repeat' first
        | refine st (h := ok_not_dec2 rfl) ?_
        | refine sd (h := ok_not_dec2 rfl) ?_
        | refine st (v := .int .i64 N) (h := by (rw [← hN]; apply ok_mul64; rfl; rfl; (rw [hN]; omega))) ?_
        | refine sd (v := .int .i64 N) (h := by (rw [← hN]; apply ok_mul64; rfl; rfl; (rw [hN]; omega))) ?_
        | refine st ?_
        | refine stMW [0] HS ?_
        | refine stm ?_
        | refine run_want rfl rfl ?_
        | refine run_unwant rfl rfl ?_
        | refine run_undef rfl rfl ?_
        | refine run_guard1t rfl rfl (by omega) ?_
        | refine run_guard1f rfl rfl (by omega) ?_
        | refine run_guard0t rfl rfl (by omega) ?_
        | refine run_guard0f rfl rfl (by omega) ?_
        | refine run_guard1 rfl rfl (fun h1 => ?_) (fun h1 => ?_)
        | refine run_guard0 rfl rfl (fun h1 => ?_) (fun h1 => ?_)
        | refine run_guard rfl rfl (fun h1 => ?_) (fun h1 => ?_)
        | refine run_nil ?_
        | refine sd ?_
        | refine sdl ?_
        | refine sdm (n := 1) ?_
        | refine sdm ?_
        | refine sdb ?_
        | refine rund_want rfl rfl ?_
        | refine rund_unwant rfl rfl ?_
        | refine rund_undef rfl rfl ?_
        | refine rund_guard1 rfl rfl (fun h1 => ?_) (fun h1 => ?_)
        | refine rund_guard0 rfl rfl (fun h1 => ?_) (fun h1 => ?_)
        | refine rund_guard rfl rfl (fun h1 => ?_) (fun h1 => ?_)
        | refine rund_nil ?_
        | refine aw_seq ?_
        | refine aw_region (by kernel_rfl) (Nat.le_of_ble_eq_true rfl) ?_
        | refine aw_region_dC (id := 19) [0, 0, 2, 7, 0, 31, 0, 127, 0, 511, 0, 2047, 0, 4096, 0, 28672, 65535] 17 (by (repeat constructor)) (by kernel_rfl) (by kernel_rfl) (by kernel_rfl) (by rfl) ?_
        | refine aw_block ?_
        | refine aw_cond_t rfl ?_
        | refine aw_cond_f rfl ?_
        | refine aw_cond_tp rfl (by omega) ?_
        | refine aw_cond_fp rfl (by omega) ?_
        | refine aw_cond1 rfl (fun h1 => ?_) (fun h1 => ?_)
        | refine aw_cond rfl (fun h1 => ?_) (fun h1 => ?_)
        | refine aw_skip ?_
        | refine aw_exit ?_
        | refine aw_ret ?_
        | refine pp_ret ?_
        | refine pp_normal ?_
      clear HS
      refine aw_loopg
        (S := fun y : Og => [(1, .int .i64 s), (2, .int .i64 t), (3, .pointer (some ⟨1, 0, none⟩)), (8, .slice (some ⟨2, 0, none⟩) len.toNat len.toNat), (13, .func (.func 86) #[] #[.pointer (some ⟨3, 0, none⟩)]), (14, .int .i64 a), (65, .int .i64 N), (66, .int .i64 y.i)])
        (B := fun _ : Og => [some ⟨C.flatMap tcC, false, 6⟩, some ⟨[.int .i64 node, .int .i64 len, .slice (some ⟨0, 0, none⟩) n n], true, 1⟩, some ⟨List.map Value.bool F, true, 1⟩, some ⟨[.int .i64 node, .int .i64 len, .slice (some ⟨0, 0, none⟩) n n], true, 1⟩])
        (R := fun y : Og => y.i ≤ N ∧ ∀ j : Nat, j < y.i → dueB node len C (s + j) t = false)
        (μ := fun y : Og => N - y.i) ⟨0⟩ (fitsD [0, 1, 2, 3]) ⟨Nat.zero_le _, fun j hj => absurd hj (Nat.not_lt_zero _)⟩ ?_
      rintro ⟨i⟩ ⟨g5, g6⟩
      dsimp only at *
      by_cases hi2 : i < N
      · have hmod : 0 ≤ (s + i) % len ∧ (s + i) % len < len := ⟨Int.emod_nonneg _ (by omega), Int.emod_lt_of_pos _ (by omega)⟩
        obtain ⟨q, hq⟩ : ∃ q : Nat, (s + i) % len = q := ⟨((s + i) % len).toNat, by omega⟩
        rw [hq] at hmod
        have hql : q < len.toNat := by omega
        obtain ⟨fb, hfb⟩ : ∃ fb, F[q]? = some fb := ⟨_, List.getElem?_eq_getElem (by omega)⟩
        have hat : atR node len C (s + i) = atC C q := by
          unfold atR
          rw [if_neg (by rw [hy]; omega), hq]
        have next : dueB node len C (s + i) t = false → ∀ j : Nat, j < i + 1 → dueB node len C (s + j) t = false := fun h j hj => by
          rcases Nat.lt_or_ge j i with h' | h'
          · exact g6 j h'
          · obtain rfl : j = i := by omega
            exact h
        cases fb
        · have hd : dueB node len C (s + i) t = false := by
            unfold dueB
            rw [hat]
            cases ho : atC C q with
            | none => rfl
            | some c =>
              dsimp only
              rw [decide_eq_false fun h3 => by
                have := (g4 q hql).2 ⟨c, ho, h3⟩
                rw [hfb] at this; cases this]
              simp
          have hst := next hd
          repeat' first
            | refine st (h := ok_not_dec2 rfl) ?_
            | refine sd (h := ok_not_dec2 rfl) ?_
            | refine st (v := .int .i64 q) (h := by (rw [← hq]; apply ok_rem_pos; rfl; rfl; omega)) ?_
            | refine sd (v := .int .i64 q) (h := by (rw [← hq]; apply ok_rem_pos; rfl; rfl; omega)) ?_
            | refine st (h := ok_load_mapE (f := Value.bool) q hfb rfl rfl rfl (by omega)) ?_
            | refine sdl (h := ok_load_mapE (f := Value.bool) q hfb rfl rfl rfl (by omega)) ?_
            | refine st ?_
            | refine stm ?_
            | refine run_want rfl rfl ?_
            | refine run_unwant rfl rfl ?_
            | refine run_undef rfl rfl ?_
            | refine run_guard1t rfl rfl (by omega) ?_
            | refine run_guard1f rfl rfl (by omega) ?_
            | refine run_guard0t rfl rfl (by omega) ?_
            | refine run_guard0f rfl rfl (by omega) ?_
            | refine run_guard1 rfl rfl (fun h1 => ?_) (fun h1 => ?_)
            | refine run_guard0 rfl rfl (fun h1 => ?_) (fun h1 => ?_)
            | refine run_guard rfl rfl (fun h1 => ?_) (fun h1 => ?_)
            | refine run_nil ?_
            | refine sd ?_
            | refine sdl ?_
            | refine sdm (n := 1) ?_
            | refine sdm ?_
            | refine sdb ?_
            | refine rund_want rfl rfl ?_
            | refine rund_unwant rfl rfl ?_
            | refine rund_undef rfl rfl ?_
            | refine rund_guard1 rfl rfl (fun h1 => ?_) (fun h1 => ?_)
            | refine rund_guard0 rfl rfl (fun h1 => ?_) (fun h1 => ?_)
            | refine rund_guard rfl rfl (fun h1 => ?_) (fun h1 => ?_)
            | refine rund_nil ?_
            | refine aw_seq ?_
            | refine aw_region (by kernel_rfl) (Nat.le_of_ble_eq_true rfl) ?_
            | refine aw_region_dC (id := 19) [0, 0, 2, 7, 0, 31, 0, 127, 0, 511, 0, 2047, 0, 4096, 0, 28672, 65535] 17 (by (repeat constructor)) (by kernel_rfl) (by kernel_rfl) (by kernel_rfl) (by rfl) ?_
            | refine aw_block ?_
            | refine aw_cond_t rfl ?_
            | refine aw_cond_f rfl ?_
            | refine aw_cond_tp rfl (by omega) ?_
            | refine aw_cond_fp rfl (by omega) ?_
            | refine aw_cond1 rfl (fun h1 => ?_) (fun h1 => ?_)
            | refine aw_cond rfl (fun h1 => ?_) (fun h1 => ?_)
            | refine aw_skip ?_
            | refine aw_exit ?_
            | refine aw_ret ?_
            | refine pp_ret ?_
            | refine pp_normal ?_
          all_goals first | exact Exists.intro ⟨i + 1⟩ ⟨fitsD [0, 1, 2, 3], ⟨hi2, hst⟩, by dsimp only; omega⟩ | (exfalso; omega)
        · obtain ⟨c, hc, hk3⟩ := (g4 q hql).1 hfb
          obtain ⟨e, d, hbf⟩ : ∃ e d, bef C q = (e, d) := ⟨_, _, rfl⟩
          have he0 : 0 ≤ e ∧ e ≤ 512 := by have := bef_bd C q; rw [hbf] at this; dsimp only at this; omega
          obtain rfl : d = true := by
            have := (bef_sh (q := q) (chk_pw q4)).1
            rw [hbf] at this
            dsimp only at this
            rw [this]
            exact shH_of (atC_mem hc).1 hk3 (atC_mem hc).2
          have HB := ac_before node len C n hn hb q e true hbf
          obtain ⟨v, hv⟩ : ∃ v, (s + i) / len = v := ⟨_, rfl⟩
          have hv0 : 0 ≤ v := by rw [← hv]; exact Int.ediv_nonneg (by omega) (by omega)
          obtain ⟨kk, hk⟩ : ∃ kk, v % t = kk := ⟨_, rfl⟩
          have hk0 : 0 ≤ kk ∧ kk < 32 := by
            have := Int.emod_lt_of_pos v (show 0 < t by omega)
            have := Int.emod_nonneg v (show t ≠ 0 by omega)
            omega
          obtain ⟨w, hw⟩ : ∃ w, kk * a = w := ⟨_, rfl⟩
          have hw0 : 0 ≤ w ∧ w ≤ 16384 := by rw [← hw]; exact mul_bd hk0 ha0
          have hd : dueB node len C (s + i) t = decide ((w + e) % t = node % t) := by
            unfold dueB
            rw [hat, hc]
            dsimp only
            have : turnR node len C (s + i) t = ((w + e) % t, true) := by
              unfold turnR
              rw [if_neg (by rw [hy]; omega), hq, hbf]
              dsimp only
              rw [if_pos rfl, hv, hk, ha, hw]
            rw [this, decide_eq_true hk3]
            rfl
          by_cases hdd : (w + e) % t = node % t
          · rw [decide_eq_true hdd] at hd
            rw [firstB_some hi2 hd fun j hj => g6 j hj] at hx
            obtain ⟨rfl, rfl⟩ := Prod.mk.inj hx.symm
            repeat' first
              | refine st (h := ok_not_dec2 rfl) ?_
              | refine sd (h := ok_not_dec2 rfl) ?_
              | refine st (v := .int .i64 q) (h := by (rw [← hq]; apply ok_rem_pos; rfl; rfl; omega)) ?_
              | refine sd (v := .int .i64 q) (h := by (rw [← hq]; apply ok_rem_pos; rfl; rfl; omega)) ?_
              | refine st (v := .int .i64 v) (h := by (rw [← hv]; apply ok_quo64; rfl; rfl; omega)) ?_
              | refine sd (v := .int .i64 v) (h := by (rw [← hv]; apply ok_quo64; rfl; rfl; omega)) ?_
              | refine st (v := .int .i64 kk) (h := by (rw [← hk]; apply ok_rem_pos; rfl; rfl; omega)) ?_
              | refine sd (v := .int .i64 kk) (h := by (rw [← hk]; apply ok_rem_pos; rfl; rfl; omega)) ?_
              | refine st (v := .int .i64 w) (h := by (rw [← hw]; apply ok_mul64; rfl; rfl; (rw [hw]; omega))) ?_
              | refine sd (v := .int .i64 w) (h := by (rw [← hw]; apply ok_mul64; rfl; rfl; (rw [hw]; omega))) ?_
              | refine st (h := ok_load_mapE (f := Value.bool) q hfb rfl rfl rfl (by omega)) ?_
              | refine sdl (h := ok_load_mapE (f := Value.bool) q hfb rfl rfl rfl (by omega)) ?_
              | refine st ?_
              | refine stRW [0, 3] HB ?_
              | refine sdRW [0, 3] HB ?_
              | refine stm ?_
              | refine run_want rfl rfl ?_
              | refine run_unwant rfl rfl ?_
              | refine run_undef rfl rfl ?_
              | refine run_guard1t rfl rfl (by omega) ?_
              | refine run_guard1f rfl rfl (by omega) ?_
              | refine run_guard0t rfl rfl (by omega) ?_
              | refine run_guard0f rfl rfl (by omega) ?_
              | refine run_guard1 rfl rfl (fun h1 => ?_) (fun h1 => ?_)
              | refine run_guard0 rfl rfl (fun h1 => ?_) (fun h1 => ?_)
              | refine run_guard rfl rfl (fun h1 => ?_) (fun h1 => ?_)
              | refine run_nil ?_
              | refine sd ?_
              | refine sdl ?_
              | refine sdm (n := 1) ?_
              | refine sdm ?_
              | refine sdb ?_
              | refine rund_want rfl rfl ?_
              | refine rund_unwant rfl rfl ?_
              | refine rund_undef rfl rfl ?_
              | refine rund_guard1 rfl rfl (fun h1 => ?_) (fun h1 => ?_)
              | refine rund_guard0 rfl rfl (fun h1 => ?_) (fun h1 => ?_)
              | refine rund_guard rfl rfl (fun h1 => ?_) (fun h1 => ?_)
              | refine rund_nil ?_
              | refine aw_seq ?_
              | refine aw_region (by kernel_rfl) (Nat.le_of_ble_eq_true rfl) ?_
              | refine aw_region_dC (id := 19) [0, 0, 2, 7, 0, 31, 0, 127, 0, 511, 0, 2047, 0, 4096, 0, 28672, 65535] 17 (by (repeat constructor)) (by kernel_rfl) (by kernel_rfl) (by kernel_rfl) (by rfl) ?_
              | refine aw_block ?_
              | refine aw_cond_t rfl ?_
              | refine aw_cond_f rfl ?_
              | refine aw_cond_tp rfl (by omega) ?_
              | refine aw_cond_fp rfl (by omega) ?_
              | refine aw_cond1 rfl (fun h1 => ?_) (fun h1 => ?_)
              | refine aw_cond rfl (fun h1 => ?_) (fun h1 => ?_)
              | refine aw_skip ?_
              | refine aw_exit ?_
              | refine aw_ret ?_
              | refine pp_ret ?_
              | refine pp_normal ?_
            all_goals first
              | rfl
              | (exfalso; omega)
              | (exfalso; simp only [Bool.not_eq_true', Bool.not_eq_false', decide_eq_true_eq, decide_eq_false_iff_not, Bool.not_false, Bool.not_true] at *; omega)
              | (exfalso; simp_all; first | done | omega)
          · rw [decide_eq_false hdd] at hd
            have hst := next hd
            repeat' first
              | refine st (h := ok_not_dec2 rfl) ?_
              | refine sd (h := ok_not_dec2 rfl) ?_
              | refine st (v := .int .i64 q) (h := by (rw [← hq]; apply ok_rem_pos; rfl; rfl; omega)) ?_
              | refine sd (v := .int .i64 q) (h := by (rw [← hq]; apply ok_rem_pos; rfl; rfl; omega)) ?_
              | refine st (v := .int .i64 v) (h := by (rw [← hv]; apply ok_quo64; rfl; rfl; omega)) ?_
              | refine sd (v := .int .i64 v) (h := by (rw [← hv]; apply ok_quo64; rfl; rfl; omega)) ?_
              | refine st (v := .int .i64 kk) (h := by (rw [← hk]; apply ok_rem_pos; rfl; rfl; omega)) ?_
              | refine sd (v := .int .i64 kk) (h := by (rw [← hk]; apply ok_rem_pos; rfl; rfl; omega)) ?_
              | refine st (v := .int .i64 w) (h := by (rw [← hw]; apply ok_mul64; rfl; rfl; (rw [hw]; omega))) ?_
              | refine sd (v := .int .i64 w) (h := by (rw [← hw]; apply ok_mul64; rfl; rfl; (rw [hw]; omega))) ?_
              | refine st (h := ok_load_mapE (f := Value.bool) q hfb rfl rfl rfl (by omega)) ?_
              | refine sdl (h := ok_load_mapE (f := Value.bool) q hfb rfl rfl rfl (by omega)) ?_
              | refine st ?_
              | refine stRW [0, 3] HB ?_
              | refine sdRW [0, 3] HB ?_
              | refine stm ?_
              | refine run_want rfl rfl ?_
              | refine run_unwant rfl rfl ?_
              | refine run_undef rfl rfl ?_
              | refine run_guard1t rfl rfl (by omega) ?_
              | refine run_guard1f rfl rfl (by omega) ?_
              | refine run_guard0t rfl rfl (by omega) ?_
              | refine run_guard0f rfl rfl (by omega) ?_
              | refine run_guard1 rfl rfl (fun h1 => ?_) (fun h1 => ?_)
              | refine run_guard0 rfl rfl (fun h1 => ?_) (fun h1 => ?_)
              | refine run_guard rfl rfl (fun h1 => ?_) (fun h1 => ?_)
              | refine run_nil ?_
              | refine sd ?_
              | refine sdl ?_
              | refine sdm (n := 1) ?_
              | refine sdm ?_
              | refine sdb ?_
              | refine rund_want rfl rfl ?_
              | refine rund_unwant rfl rfl ?_
              | refine rund_undef rfl rfl ?_
              | refine rund_guard1 rfl rfl (fun h1 => ?_) (fun h1 => ?_)
              | refine rund_guard0 rfl rfl (fun h1 => ?_) (fun h1 => ?_)
              | refine rund_guard rfl rfl (fun h1 => ?_) (fun h1 => ?_)
              | refine rund_nil ?_
              | refine aw_seq ?_
              | refine aw_region (by kernel_rfl) (Nat.le_of_ble_eq_true rfl) ?_
              | refine aw_region_dC (id := 19) [0, 0, 2, 7, 0, 31, 0, 127, 0, 511, 0, 2047, 0, 4096, 0, 28672, 65535] 17 (by (repeat constructor)) (by kernel_rfl) (by kernel_rfl) (by kernel_rfl) (by rfl) ?_
              | refine aw_block ?_
              | refine aw_cond_t rfl ?_
              | refine aw_cond_f rfl ?_
              | refine aw_cond_tp rfl (by omega) ?_
              | refine aw_cond_fp rfl (by omega) ?_
              | refine aw_cond1 rfl (fun h1 => ?_) (fun h1 => ?_)
              | refine aw_cond rfl (fun h1 => ?_) (fun h1 => ?_)
              | refine aw_skip ?_
              | refine aw_exit ?_
              | refine aw_ret ?_
              | refine pp_ret ?_
              | refine pp_normal ?_
            all_goals first | exact Exists.intro ⟨i + 1⟩ ⟨fitsD [0, 1, 2, 3], ⟨hi2, hst⟩, by dsimp only; omega⟩ | (exfalso; omega)
      · obtain rfl : N = i := by omega
        rw [firstB_none fun j hj => g6 j hj] at hx
        obtain ⟨rfl, rfl⟩ := Prod.mk.inj hx.symm
        repeat' first
          | refine st (h := ok_not_dec2 rfl) ?_
          | refine sd (h := ok_not_dec2 rfl) ?_
          | refine st (v := .int .i64 q) (h := by (rw [← hq]; apply ok_rem_pos; rfl; rfl; omega)) ?_
          | refine sd (v := .int .i64 q) (h := by (rw [← hq]; apply ok_rem_pos; rfl; rfl; omega)) ?_
          | refine st (h := ok_load_mapE (f := Value.bool) q hfb rfl rfl rfl (by omega)) ?_
          | refine sdl (h := ok_load_mapE (f := Value.bool) q hfb rfl rfl rfl (by omega)) ?_
          | refine st ?_
          | refine stm ?_
          | refine run_want rfl rfl ?_
          | refine run_unwant rfl rfl ?_
          | refine run_undef rfl rfl ?_
          | refine run_guard1t rfl rfl (by omega) ?_
          | refine run_guard1f rfl rfl (by omega) ?_
          | refine run_guard0t rfl rfl (by omega) ?_
          | refine run_guard0f rfl rfl (by omega) ?_
          | refine run_guard1 rfl rfl (fun h1 => ?_) (fun h1 => ?_)
          | refine run_guard0 rfl rfl (fun h1 => ?_) (fun h1 => ?_)
          | refine run_guard rfl rfl (fun h1 => ?_) (fun h1 => ?_)
          | refine run_nil ?_
          | refine sd ?_
          | refine sdl ?_
          | refine sdm (n := 1) ?_
          | refine sdm ?_
          | refine sdb ?_
          | refine rund_want rfl rfl ?_
          | refine rund_unwant rfl rfl ?_
          | refine rund_undef rfl rfl ?_
          | refine rund_guard1 rfl rfl (fun h1 => ?_) (fun h1 => ?_)
          | refine rund_guard0 rfl rfl (fun h1 => ?_) (fun h1 => ?_)
          | refine rund_guard rfl rfl (fun h1 => ?_) (fun h1 => ?_)
          | refine rund_nil ?_
          | refine aw_seq ?_
          | refine aw_region (by kernel_rfl) (Nat.le_of_ble_eq_true rfl) ?_
          | refine aw_region_dC (id := 19) [0, 0, 2, 7, 0, 31, 0, 127, 0, 511, 0, 2047, 0, 4096, 0, 28672, 65535] 17 (by (repeat constructor)) (by kernel_rfl) (by kernel_rfl) (by kernel_rfl) (by rfl) ?_
          | refine aw_block ?_
          | refine aw_cond_t rfl ?_
          | refine aw_cond_f rfl ?_
          | refine aw_cond_tp rfl (by omega) ?_
          | refine aw_cond_fp rfl (by omega) ?_
          | refine aw_cond1 rfl (fun h1 => ?_) (fun h1 => ?_)
          | refine aw_cond rfl (fun h1 => ?_) (fun h1 => ?_)
          | refine aw_skip ?_
          | refine aw_exit ?_
          | refine aw_ret ?_
          | refine pp_ret ?_
          | refine pp_normal ?_
        all_goals first
          | rfl
          | (exfalso; omega)
          | (exfalso; simp only [Bool.not_eq_true', Bool.not_eq_false', decide_eq_true_eq, decide_eq_false_iff_not, Bool.not_false, Bool.not_true] at *; omega)
          | (exfalso; simp_all; first | done | omega)
end Go.Proofs.Ytfabgdignlfihaa
