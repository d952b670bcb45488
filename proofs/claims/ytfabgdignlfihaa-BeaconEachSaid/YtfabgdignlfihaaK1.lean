/- Turns: shared cells. -/
import Derived.Test.YtfabgdignlfihaaI4
import Derived.Test.YtfabgdignlfihaaI6
set_option linter.unusedVariables false
set_option linter.unusedSimpArgs false
namespace Go.Proofs.Ytfabgdignlfihaa
open Go Av
set_option maxRecDepth 20000
/-- How many shared cells stand before a slot, as far as it has none itself; whether it has one. -/
def bef : List Ce → Int → Int × Bool
  | [], _ => (0, false)
  | c :: C, s => if c.2.2.1 ≠ 3 ∨ s < c.1 then bef C s else if c.1 = s then (0, true) else ((bef C s).1 + 1, (bef C s).2)
theorem bef_skip {c : Ce} {C : List Ce} {s : Int} (h : c.2.2.1 ≠ 3 ∨ s < c.1) : bef (c :: C) s = bef C s := by rw [bef, if_pos h]
theorem bef_hit {c : Ce} {C : List Ce} {s : Int} (h : ¬ (c.2.2.1 ≠ 3 ∨ s < c.1)) (h2 : c.1 = s) : bef (c :: C) s = (0, true) := by rw [bef, if_neg h, if_pos h2]
theorem bef_step {c : Ce} {C : List Ce} {s : Int} (h : ¬ (c.2.2.1 ≠ 3 ∨ s < c.1)) (h2 : ¬ c.1 = s) : bef (c :: C) s = ((bef C s).1 + 1, (bef C s).2) := by rw [bef, if_neg h, if_neg h2]
theorem bef_bd : ∀ (C : List Ce) (s : Int), 0 ≤ (bef C s).1 ∧ (bef C s).1 ≤ C.length
  | [], s => ⟨Int.le_refl _, Int.le_refl _⟩
  | c :: C, s => by
    have ih := bef_bd C s
    rw [bef]
    split
    · rw [List.length_cons]; omega
    · split
      · exact ⟨Int.le_refl _, by rw [List.length_cons]; omega⟩
      · dsimp only; rw [List.length_cons]; omega
/-- How many shared cells there are. -/
def shN : List Ce → Int
  | [] => 0
  | c :: C => (if c.2.2.1 = 3 then 1 else 0) + shN C
theorem shN_bd : ∀ (C : List Ce), 0 ≤ shN C ∧ shN C ≤ C.length
  | [] => ⟨Int.le_refl _, Int.le_refl _⟩
  | c :: C => by
    have ih := shN_bd C
    rw [shN, List.length_cons]
    split <;> omega
/-- The shared cells before a slot, counted. -/
def shB (q : Int) : List Ce → Int
  | [] => 0
  | c :: C => (if c.2.2.1 = 3 ∧ c.1 < q then 1 else 0) + shB q C
theorem shB_bd (q : Int) : ∀ (C : List Ce), 0 ≤ shB q C ∧ shB q C ≤ C.length
  | [] => ⟨Int.le_refl _, Int.le_refl _⟩
  | c :: C => by
    have ih := shB_bd q C
    rw [shB, List.length_cons]
    split <;> omega
/-- A slot has a shared cell. -/
def shH (q : Int) : List Ce → Bool
  | [] => false
  | c :: C => decide (c.2.2.1 = 3 ∧ c.1 = q) || shH q C
theorem shB_none {q : Int} : ∀ {C : List Ce}, (∀ c ∈ C, q ≤ c.1) → shB q C = 0
  | [], _ => rfl
  | c :: C, h => by
    rw [shB, shB_none fun d hd => h d (List.mem_cons_of_mem _ hd), if_neg]
    · rfl
    · have := h c (List.mem_cons_self ..)
      omega
theorem bef_sh {q : Int} : ∀ {C : List Ce}, C.Pairwise (fun a b => lessC a b = true) → (bef C q).2 = shH q C ∧ ((bef C q).2 = true → (bef C q).1 = shB q C)
  | [], _ => ⟨rfl, fun h => by cases h⟩
  | c :: C, hp => by
    rw [List.pairwise_cons] at hp
    obtain ⟨i1, i2⟩ := bef_sh (q := q) hp.2
    have hle : ∀ d ∈ C, c.1 ≤ d.1 := fun d hd => by
      have := of_decide_eq_true (hp.1 d hd)
      omega
    by_cases h1 : c.2.2.1 ≠ 3 ∨ q < c.1
    · rw [bef_skip h1, shH, shB, decide_eq_false (by omega), if_neg (by omega)]
      exact ⟨by rw [i1]; rfl, fun h => by rw [i2 h]; omega⟩
    · by_cases h2 : c.1 = q
      · rw [bef_hit h1 h2, shH, shB, decide_eq_true (by omega), if_neg (by omega), shB_none (fun d hd => by have := hle d hd; omega)]
        exact ⟨rfl, fun _ => rfl⟩
      · rw [bef_step h1 h2, shH, shB, decide_eq_false (by omega), if_pos (by omega)]
        exact ⟨by rw [i1]; rfl, fun h => by rw [i2 h]; omega⟩
theorem chk_pw {node len : Int} {C : List Ce} (h : ceI node len C C.length = 0) : C.Pairwise (fun a b => lessC a b = true) := by
  rw [List.pairwise_iff_getElem]
  intro i j hi hj hij
  exact chk_less h (List.getElem?_eq_getElem hi) (j - i - 1) _ (by rw [show i + (j - i - 1) + 1 = j by omega]; exact List.getElem?_eq_getElem hj)
theorem drop_at {C : List Ce} {i : Nat} {c : Ce} (h : C[i]? = some c) : C.drop i = c :: C.drop (i + 1) := by
  obtain ⟨hi, hx⟩ := List.getElem?_eq_some_iff.1 h
  rw [List.drop_eq_getElem_cons hi, hx]
/-- Whose turn it is. -/
def turnR (node len : Int) (C : List Ce) (s t : Int) : Int × Bool := if chkT node len C ≠ 0 ∨ t < 1 ∨ 32 < t ∨ s < 0 then (0, false) else if (bef C (s % len)).2 = true then ((s / len % t * shN C + (bef C (s % len)).1) % t, true) else (0, false)
structure Sg where
  i : Nat
  a : Int
  b : Int
  h : Bool
theorem mul_bd {x y : Int} (h1 : 0 ≤ x ∧ x < 32) (h2 : 0 ≤ y ∧ y ≤ 512) : 0 ≤ x * y ∧ x * y ≤ 16384 := by
  refine ⟨Int.mul_nonneg h1.1 h2.1, ?_⟩
  have := Int.mul_le_mul (show x ≤ 32 by omega) h2.2 h2.1 (by decide)
  omega
theorem ac_right (node len : Int) (C : List Ce) (n : Nat) (hn : C.length = n) (hb : n ≤ 1000000) (t : Int) (x : Bool) (hx : decide (chkT node len C = 0 ∧ 1 ≤ t ∧ t ≤ 32) = x) : ACalls Try.prog 51 [.agg #[.int .i64 node, .int .i64 len, .slice (some ⟨0, 0, none⟩) n n], .int .i64 t] [some ⟨C.flatMap tcC, false, 6⟩] (.bool x) [none] := by
  obtain ⟨y, hy⟩ : ∃ y, chkT node len C = y := ⟨_, rfl⟩
  have HC := ac_tcheck node len C n hn (by omega) y hy
  rw [hy] at hx
  subst hx
  refine acalls_law Try.func51 rfl rfl rfl ?_
  repeat' first
    | refine st ?_
    | refine stRW [0] HC ?_
    | refine sdRW [0] HC ?_
    | refine stm ?_
    | refine run_want rfl rfl ?_
    | refine run_unwant rfl rfl ?_
    | refine run_undef rfl rfl ?_
    | refine run_guard1t rfl rfl (by omega) ?_
    | refine run_guard1f rfl rfl (by omega) ?_
    | refine run_guard0t rfl rfl (by omega) ?_
    | refine run_guard0f rfl rfl (by omega) ?_
    | refine run_guard1 rfl rfl (fun h1 => ?_) (fun h1 => ?_)
    | refine run_guard0 rfl rfl (fun h1 => ?_) (fun h1 => ?_)
    | refine run_guard rfl rfl (fun h1 => ?_) (fun h1 => ?_)
    | refine run_nil ?_
    | refine aw_seq ?_
    | refine aw_region (by kernel_rfl) (Nat.le_of_ble_eq_true rfl) ?_
    | refine aw_block ?_
    | refine aw_cond_t rfl ?_
    | refine aw_cond_f rfl ?_
    | refine aw_cond_tp rfl (by omega) ?_
    | refine aw_cond_fp rfl (by omega) ?_
    | refine aw_cond1 rfl (fun h1 => ?_) (fun h1 => ?_)
    | refine aw_cond rfl (fun h1 => ?_) (fun h1 => ?_)
    | refine aw_skip ?_
    | refine aw_exit ?_
    | refine aw_ret ?_
    | refine pp_ret ?_
    | refine pp_normal ?_
  all_goals first
    | rfl
    | (show Value.bool _ = Value.bool _; congr 1; first | exact decide_eq_false (by omega) | exact decide_eq_true (by omega) | exact (decide_eq_false (by omega)).symm | exact (decide_eq_true (by omega)).symm | exact decide_eq_decide.2 (by omega))
    | (exfalso; omega)
    | (exfalso; simp only [Bool.not_eq_true', Bool.not_eq_false', decide_eq_true_eq, decide_eq_false_iff_not, Bool.not_false, Bool.not_true] at *; omega)
    | (exfalso; simp_all; first | done | omega)
set_option maxHeartbeats 2000000 in
theorem ac_before (node len : Int) (C : List Ce) (n : Nat) (hn : C.length = n) (hb : n ≤ 1000000) (s p : Int) (z : Bool) (hx : bef C s = (p, z)) : ACalls Try.prog 86 [.int .i64 s, .pointer (some ⟨1, 0, none⟩)] [some ⟨C.flatMap tcC, false, 6⟩, some ⟨[.int .i64 node, .int .i64 len, .slice (some ⟨0, 0, none⟩) n n], false, 1⟩] (.tuple #[.int .i64 p, .bool z]) [none, none] := by
  refine acalls_law Try.func86 rfl rfl rfl ?_
  repeat' first
    | refine st ?_
    | refine stm ?_
    | refine run_want rfl rfl ?_
    | refine run_unwant rfl rfl ?_
    | refine run_undef rfl rfl ?_
    | refine run_guard1t rfl rfl (by omega) ?_
    | refine run_guard1f rfl rfl (by omega) ?_
    | refine run_guard0t rfl rfl (by omega) ?_
    | refine run_guard0f rfl rfl (by omega) ?_
    | refine run_guard1 rfl rfl (fun h1 => ?_) (fun h1 => ?_)
    | refine run_guard0 rfl rfl (fun h1 => ?_) (fun h1 => ?_)
    | refine run_guard rfl rfl (fun h1 => ?_) (fun h1 => ?_)
    | refine run_nil ?_
    | refine aw_seq ?_
    | refine aw_region (by kernel_rfl) (Nat.le_of_ble_eq_true rfl) ?_
    | refine aw_block ?_
    | refine aw_cond_t rfl ?_
    | refine aw_cond_f rfl ?_
    | refine aw_cond_tp rfl (by omega) ?_
    | refine aw_cond_fp rfl (by omega) ?_
    | refine aw_cond1 rfl (fun h1 => ?_) (fun h1 => ?_)
    | refine aw_cond rfl (fun h1 => ?_) (fun h1 => ?_)
    | refine aw_skip ?_
    | refine aw_exit ?_
    | refine aw_ret ?_
    | refine pp_ret ?_
    | refine pp_normal ?_
  refine aw_loopg
    (S := fun y : Sg => [(0, .int .i64 s), (5, .int .i64 y.a), (9, .slice (some ⟨0, 0, none⟩) n n), (10, .int .i64 n), (11, .int .i64 y.i)])
    (B := fun _ : Sg => [some ⟨C.flatMap tcC, false, 6⟩, some ⟨[.int .i64 node, .int .i64 len, .slice (some ⟨0, 0, none⟩) n n], false, 1⟩])
    (R := fun y : Sg => y.i ≤ n ∧ bef C s = (y.a + (bef (C.drop y.i) s).1, (bef (C.drop y.i) s).2) ∧ 0 ≤ y.a ∧ y.a ≤ y.i)
    (μ := fun y : Sg => n - y.i) ⟨0, 0, 0, false⟩ (fitsD [0, 1]) ⟨Nat.zero_le _, by simp, Int.le_refl _, Int.le_refl _⟩ ?_
  rintro ⟨i, a, b, h⟩ ⟨g1, g2, g3, g4⟩
  dsimp only at *
  by_cases hi : i < n
  · obtain ⟨⟨sl, of, k, sd_, pe, fl, u⟩, hc⟩ : ∃ c, C[i]? = some c := ⟨_, List.getElem?_eq_getElem (by omega)⟩
    have hd := drop_at hc
    rw [hd] at g2
    by_cases h1 : k ≠ 3 ∨ s < sl
    · rw [bef_skip (c := (sl, of, k, sd_, pe, fl, u)) h1] at g2
      repeat' first
        | refine st (h := ok_load_rowsE (f := tcC) (cs := [.int .i64 sl, .int .i64 of, .int .i64 k, .bool sd_, .int .i64 pe, .int .i64 fl]) (i) (fun _ => rfl) hc rfl rfl rfl rfl (by omega)) ?_
        | refine st ?_
        | refine stm ?_
        | refine run_want rfl rfl ?_
        | refine run_unwant rfl rfl ?_
        | refine run_undef rfl rfl ?_
        | refine run_guard1t rfl rfl (by omega) ?_
        | refine run_guard1f rfl rfl (by omega) ?_
        | refine run_guard0t rfl rfl (by omega) ?_
        | refine run_guard0f rfl rfl (by omega) ?_
        | refine run_guard1 rfl rfl (fun h1 => ?_) (fun h1 => ?_)
        | refine run_guard0 rfl rfl (fun h1 => ?_) (fun h1 => ?_)
        | refine run_guard rfl rfl (fun h1 => ?_) (fun h1 => ?_)
        | refine run_nil ?_
        | refine aw_seq ?_
        | refine aw_region (by kernel_rfl) (Nat.le_of_ble_eq_true rfl) ?_
        | refine aw_block ?_
        | refine aw_cond_t rfl ?_
        | refine aw_cond_f rfl ?_
        | refine aw_cond_tp rfl (by omega) ?_
        | refine aw_cond_fp rfl (by omega) ?_
        | refine aw_cond1 rfl (fun h1 => ?_) (fun h1 => ?_)
        | refine aw_cond rfl (fun h1 => ?_) (fun h1 => ?_)
        | refine aw_skip ?_
        | refine aw_exit ?_
        | refine aw_ret ?_
        | refine pp_ret ?_
        | refine pp_normal ?_
      all_goals first | exact Exists.intro ⟨i + 1, a, 0, false⟩ ⟨fitsD [0, 1], ⟨hi, g2, g3, by dsimp only; omega⟩, by dsimp only; omega⟩ | (exfalso; omega)
    · by_cases h2 : sl = s
      · rw [bef_hit (c := (sl, of, k, sd_, pe, fl, u)) h1 h2, hx] at g2
        obtain ⟨rfl, rfl⟩ : p = a ∧ z = true := by simp only [Prod.mk.injEq] at g2; exact ⟨by omega, g2.2⟩
        repeat' first
          | refine st (h := ok_load_rowsE (f := tcC) (cs := [.int .i64 sl, .int .i64 of, .int .i64 k, .bool sd_, .int .i64 pe, .int .i64 fl]) (i) (fun _ => rfl) hc rfl rfl rfl rfl (by omega)) ?_
          | refine st ?_
          | refine stm ?_
          | refine run_want rfl rfl ?_
          | refine run_unwant rfl rfl ?_
          | refine run_undef rfl rfl ?_
          | refine run_guard1t rfl rfl (by omega) ?_
          | refine run_guard1f rfl rfl (by omega) ?_
          | refine run_guard0t rfl rfl (by omega) ?_
          | refine run_guard0f rfl rfl (by omega) ?_
          | refine run_guard1 rfl rfl (fun h1 => ?_) (fun h1 => ?_)
          | refine run_guard0 rfl rfl (fun h1 => ?_) (fun h1 => ?_)
          | refine run_guard rfl rfl (fun h1 => ?_) (fun h1 => ?_)
          | refine run_nil ?_
          | refine aw_seq ?_
          | refine aw_region (by kernel_rfl) (Nat.le_of_ble_eq_true rfl) ?_
          | refine aw_block ?_
          | refine aw_cond_t rfl ?_
          | refine aw_cond_f rfl ?_
          | refine aw_cond_tp rfl (by omega) ?_
          | refine aw_cond_fp rfl (by omega) ?_
          | refine aw_cond1 rfl (fun h1 => ?_) (fun h1 => ?_)
          | refine aw_cond rfl (fun h1 => ?_) (fun h1 => ?_)
          | refine aw_skip ?_
          | refine aw_exit ?_
          | refine aw_ret ?_
          | refine pp_ret ?_
          | refine pp_normal ?_
        all_goals first
          | rfl
          | (exfalso; omega)
          | (exfalso; simp only [Bool.not_eq_true', Bool.not_eq_false', decide_eq_true_eq, decide_eq_false_iff_not, Bool.not_false, Bool.not_true] at *; omega)
          | (exfalso; simp_all; first | done | omega)
      · rw [bef_step (c := (sl, of, k, sd_, pe, fl, u)) h1 h2] at g2
        have g2' : bef C s = ((a + 1) + (bef (C.drop (i + 1)) s).1, (bef (C.drop (i + 1)) s).2) := by rw [g2]; dsimp only; congr 1; omega
        repeat' first
          | refine st (h := ok_load_rowsE (f := tcC) (cs := [.int .i64 sl, .int .i64 of, .int .i64 k, .bool sd_, .int .i64 pe, .int .i64 fl]) (i) (fun _ => rfl) hc rfl rfl rfl rfl (by omega)) ?_
          | refine st ?_
          | refine stm ?_
          | refine run_want rfl rfl ?_
          | refine run_unwant rfl rfl ?_
          | refine run_undef rfl rfl ?_
          | refine run_guard1t rfl rfl (by omega) ?_
          | refine run_guard1f rfl rfl (by omega) ?_
          | refine run_guard0t rfl rfl (by omega) ?_
          | refine run_guard0f rfl rfl (by omega) ?_
          | refine run_guard1 rfl rfl (fun h1 => ?_) (fun h1 => ?_)
          | refine run_guard0 rfl rfl (fun h1 => ?_) (fun h1 => ?_)
          | refine run_guard rfl rfl (fun h1 => ?_) (fun h1 => ?_)
          | refine run_nil ?_
          | refine aw_seq ?_
          | refine aw_region (by kernel_rfl) (Nat.le_of_ble_eq_true rfl) ?_
          | refine aw_block ?_
          | refine aw_cond_t rfl ?_
          | refine aw_cond_f rfl ?_
          | refine aw_cond_tp rfl (by omega) ?_
          | refine aw_cond_fp rfl (by omega) ?_
          | refine aw_cond1 rfl (fun h1 => ?_) (fun h1 => ?_)
          | refine aw_cond rfl (fun h1 => ?_) (fun h1 => ?_)
          | refine aw_skip ?_
          | refine aw_exit ?_
          | refine aw_ret ?_
          | refine pp_ret ?_
          | refine pp_normal ?_
        all_goals first | exact Exists.intro ⟨i + 1, a + 1, 0, false⟩ ⟨fitsD [0, 1], ⟨hi, g2', by dsimp only; omega, by dsimp only; omega⟩, by dsimp only; omega⟩ | (exfalso; omega)
  · obtain rfl : n = i := by omega
    rw [List.drop_of_length_le (by omega), hx] at g2
    obtain ⟨rfl, rfl⟩ : p = a ∧ z = false := by simp only [bef, Prod.mk.injEq] at g2; exact ⟨by omega, g2.2⟩
    repeat' first
      | refine st (h := ok_load_rowsE (f := tcC) (cs := [.int .i64 sl, .int .i64 of, .int .i64 k, .bool sd_, .int .i64 pe, .int .i64 fl]) (i) (fun _ => rfl) hc rfl rfl rfl rfl (by omega)) ?_
      | refine st ?_
      | refine stm ?_
      | refine run_want rfl rfl ?_
      | refine run_unwant rfl rfl ?_
      | refine run_undef rfl rfl ?_
      | refine run_guard1t rfl rfl (by omega) ?_
      | refine run_guard1f rfl rfl (by omega) ?_
      | refine run_guard0t rfl rfl (by omega) ?_
      | refine run_guard0f rfl rfl (by omega) ?_
      | refine run_guard1 rfl rfl (fun h1 => ?_) (fun h1 => ?_)
      | refine run_guard0 rfl rfl (fun h1 => ?_) (fun h1 => ?_)
      | refine run_guard rfl rfl (fun h1 => ?_) (fun h1 => ?_)
      | refine run_nil ?_
      | refine aw_seq ?_
      | refine aw_region (by kernel_rfl) (Nat.le_of_ble_eq_true rfl) ?_
      | refine aw_block ?_
      | refine aw_cond_t rfl ?_
      | refine aw_cond_f rfl ?_
      | refine aw_cond_tp rfl (by omega) ?_
      | refine aw_cond_fp rfl (by omega) ?_
      | refine aw_cond1 rfl (fun h1 => ?_) (fun h1 => ?_)
      | refine aw_cond rfl (fun h1 => ?_) (fun h1 => ?_)
      | refine aw_skip ?_
      | refine aw_exit ?_
      | refine aw_ret ?_
      | refine pp_ret ?_
      | refine pp_normal ?_
    all_goals first
      | rfl
      | (exfalso; omega)
      | (exfalso; simp only [Bool.not_eq_true', Bool.not_eq_false', decide_eq_true_eq, decide_eq_false_iff_not, Bool.not_false, Bool.not_true] at *; omega)
      | (exfalso; simp_all; first | done | omega)
set_option maxHeartbeats 2000000 in
theorem ac_shared (node len : Int) (C : List Ce) (n : Nat) (hn : C.length = n) (hb : n ≤ 1000000) (x : Int) (hx : shN C = x) : ACalls Try.prog 52 [.agg #[.int .i64 node, .int .i64 len, .slice (some ⟨0, 0, none⟩) n n]] [some ⟨C.flatMap tcC, false, 6⟩] (.tuple #[.func (.func 86) #[] #[.pointer (some ⟨1, 0, none⟩)], .int .i64 x]) [none, some ⟨[.int .i64 node, .int .i64 len, .slice (some ⟨0, 0, none⟩) n n], true, 1⟩] := by
  refine acalls_of_aw Try.func52 rfl rfl ?_
  repeat' first
    | refine st ?_
    | refine st (h := ok_makeFunc (by ((repeat (apply ArgsR.cons; rfl)); exact ArgsR.nil)) (by ((repeat (apply ArgsR.cons; rfl)); exact ArgsR.nil))) ?_
    | refine stm ?_
    | refine run_want rfl rfl ?_
    | refine run_unwant rfl rfl ?_
    | refine run_undef rfl rfl ?_
    | refine run_guard1t rfl rfl (by omega) ?_
    | refine run_guard1f rfl rfl (by omega) ?_
    | refine run_guard0t rfl rfl (by omega) ?_
    | refine run_guard0f rfl rfl (by omega) ?_
    | refine run_guard1 rfl rfl (fun h1 => ?_) (fun h1 => ?_)
    | refine run_guard0 rfl rfl (fun h1 => ?_) (fun h1 => ?_)
    | refine run_guard rfl rfl (fun h1 => ?_) (fun h1 => ?_)
    | refine run_nil ?_
    | refine aw_seq ?_
    | refine aw_region (by kernel_rfl) (Nat.le_of_ble_eq_true rfl) ?_
    | refine aw_block ?_
    | refine aw_cond_t rfl ?_
    | refine aw_cond_f rfl ?_
    | refine aw_cond_tp rfl (by omega) ?_
    | refine aw_cond_fp rfl (by omega) ?_
    | refine aw_cond1 rfl (fun h1 => ?_) (fun h1 => ?_)
    | refine aw_cond rfl (fun h1 => ?_) (fun h1 => ?_)
    | refine aw_skip ?_
    | refine aw_exit ?_
    | refine aw_ret ?_
    | refine pp_ret ?_
    | refine pp_normal ?_
  refine aw_loopg
    (S := fun y : Sg => [(1, .pointer (some ⟨1, 0, none⟩)), (4, .int .i64 y.a), (8, .slice (some ⟨0, 0, none⟩) n n), (9, .int .i64 n), (10, .int .i64 y.i)])
    (B := fun _ : Sg => [some ⟨C.flatMap tcC, false, 6⟩, some ⟨[.int .i64 node, .int .i64 len, .slice (some ⟨0, 0, none⟩) n n], true, 1⟩])
    (R := fun y : Sg => y.i ≤ n ∧ shN C = y.a + shN (C.drop y.i) ∧ 0 ≤ y.a ∧ y.a ≤ y.i)
    (μ := fun y : Sg => n - y.i) ⟨0, 0, 0, false⟩ (fitsD [0, 1]) ⟨Nat.zero_le _, by simp, Int.le_refl _, Int.le_refl _⟩ ?_
  rintro ⟨i, a, b, h⟩ ⟨g1, g2, g3, g4⟩
  dsimp only at *
  by_cases hi : i < n
  · obtain ⟨⟨sl, of, k, sd_, pe, fl, u⟩, hc⟩ : ∃ c, C[i]? = some c := ⟨_, List.getElem?_eq_getElem (by omega)⟩
    have hd := drop_at hc
    rw [hd, shN] at g2
    dsimp only at g2
    by_cases h1 : k = 3
    · rw [if_pos h1] at g2
      repeat' first
        | refine st (h := ok_load_rowsE (f := tcC) (cs := [.int .i64 sl, .int .i64 of, .int .i64 k, .bool sd_, .int .i64 pe, .int .i64 fl]) (i) (fun _ => rfl) hc rfl rfl rfl rfl (by omega)) ?_
        | refine st ?_
        | refine st (h := ok_makeFunc (by ((repeat (apply ArgsR.cons; rfl)); exact ArgsR.nil)) (by ((repeat (apply ArgsR.cons; rfl)); exact ArgsR.nil))) ?_
        | refine stm ?_
        | refine run_want rfl rfl ?_
        | refine run_unwant rfl rfl ?_
        | refine run_undef rfl rfl ?_
        | refine run_guard1t rfl rfl (by omega) ?_
        | refine run_guard1f rfl rfl (by omega) ?_
        | refine run_guard0t rfl rfl (by omega) ?_
        | refine run_guard0f rfl rfl (by omega) ?_
        | refine run_guard1 rfl rfl (fun h1 => ?_) (fun h1 => ?_)
        | refine run_guard0 rfl rfl (fun h1 => ?_) (fun h1 => ?_)
        | refine run_guard rfl rfl (fun h1 => ?_) (fun h1 => ?_)
        | refine run_nil ?_
        | refine aw_seq ?_
        | refine aw_region (by kernel_rfl) (Nat.le_of_ble_eq_true rfl) ?_
        | refine aw_block ?_
        | refine aw_cond_t rfl ?_
        | refine aw_cond_f rfl ?_
        | refine aw_cond_tp rfl (by omega) ?_
        | refine aw_cond_fp rfl (by omega) ?_
        | refine aw_cond1 rfl (fun h1 => ?_) (fun h1 => ?_)
        | refine aw_cond rfl (fun h1 => ?_) (fun h1 => ?_)
        | refine aw_skip ?_
        | refine aw_exit ?_
        | refine aw_ret ?_
        | refine pp_ret ?_
        | refine pp_normal ?_
      all_goals first | exact Exists.intro ⟨i + 1, a + 1, 0, false⟩ ⟨fitsD [0, 1], ⟨hi, by dsimp only; omega, by dsimp only; omega, by dsimp only; omega⟩, by dsimp only; omega⟩ | (exfalso; omega)
    · rw [if_neg h1] at g2
      repeat' first
        | refine st (h := ok_load_rowsE (f := tcC) (cs := [.int .i64 sl, .int .i64 of, .int .i64 k, .bool sd_, .int .i64 pe, .int .i64 fl]) (i) (fun _ => rfl) hc rfl rfl rfl rfl (by omega)) ?_
        | refine st ?_
        | refine st (h := ok_makeFunc (by ((repeat (apply ArgsR.cons; rfl)); exact ArgsR.nil)) (by ((repeat (apply ArgsR.cons; rfl)); exact ArgsR.nil))) ?_
        | refine stm ?_
        | refine run_want rfl rfl ?_
        | refine run_unwant rfl rfl ?_
        | refine run_undef rfl rfl ?_
        | refine run_guard1t rfl rfl (by omega) ?_
        | refine run_guard1f rfl rfl (by omega) ?_
        | refine run_guard0t rfl rfl (by omega) ?_
        | refine run_guard0f rfl rfl (by omega) ?_
        | refine run_guard1 rfl rfl (fun h1 => ?_) (fun h1 => ?_)
        | refine run_guard0 rfl rfl (fun h1 => ?_) (fun h1 => ?_)
        | refine run_guard rfl rfl (fun h1 => ?_) (fun h1 => ?_)
        | refine run_nil ?_
        | refine aw_seq ?_
        | refine aw_region (by kernel_rfl) (Nat.le_of_ble_eq_true rfl) ?_
        | refine aw_block ?_
        | refine aw_cond_t rfl ?_
        | refine aw_cond_f rfl ?_
        | refine aw_cond_tp rfl (by omega) ?_
        | refine aw_cond_fp rfl (by omega) ?_
        | refine aw_cond1 rfl (fun h1 => ?_) (fun h1 => ?_)
        | refine aw_cond rfl (fun h1 => ?_) (fun h1 => ?_)
        | refine aw_skip ?_
        | refine aw_exit ?_
        | refine aw_ret ?_
        | refine pp_ret ?_
        | refine pp_normal ?_
      all_goals first | exact Exists.intro ⟨i + 1, a, 0, false⟩ ⟨fitsD [0, 1], ⟨hi, by dsimp only; omega, by dsimp only; omega, by dsimp only; omega⟩, by dsimp only; omega⟩ | (exfalso; omega)
  · obtain rfl : n = i := by omega
    rw [List.drop_of_length_le (by omega), hx] at g2
    obtain rfl : x = a := by simp only [shN] at g2; omega
    repeat' first
      | refine st (h := ok_load_rowsE (f := tcC) (cs := [.int .i64 sl, .int .i64 of, .int .i64 k, .bool sd_, .int .i64 pe, .int .i64 fl]) (i) (fun _ => rfl) hc rfl rfl rfl rfl (by omega)) ?_
      | refine st ?_
      | refine st (h := ok_makeFunc (by ((repeat (apply ArgsR.cons; rfl)); exact ArgsR.nil)) (by ((repeat (apply ArgsR.cons; rfl)); exact ArgsR.nil))) ?_
      | refine stm ?_
      | refine run_want rfl rfl ?_
      | refine run_unwant rfl rfl ?_
      | refine run_undef rfl rfl ?_
      | refine run_guard1t rfl rfl (by omega) ?_
      | refine run_guard1f rfl rfl (by omega) ?_
      | refine run_guard0t rfl rfl (by omega) ?_
      | refine run_guard0f rfl rfl (by omega) ?_
      | refine run_guard1 rfl rfl (fun h1 => ?_) (fun h1 => ?_)
      | refine run_guard0 rfl rfl (fun h1 => ?_) (fun h1 => ?_)
      | refine run_guard rfl rfl (fun h1 => ?_) (fun h1 => ?_)
      | refine run_nil ?_
      | refine aw_seq ?_
      | refine aw_region (by kernel_rfl) (Nat.le_of_ble_eq_true rfl) ?_
      | refine aw_block ?_
      | refine aw_cond_t rfl ?_
      | refine aw_cond_f rfl ?_
      | refine aw_cond_tp rfl (by omega) ?_
      | refine aw_cond_fp rfl (by omega) ?_
      | refine aw_cond1 rfl (fun h1 => ?_) (fun h1 => ?_)
      | refine aw_cond rfl (fun h1 => ?_) (fun h1 => ?_)
      | refine aw_skip ?_
      | refine aw_exit ?_
      | refine aw_ret ?_
      | refine pp_ret ?_
      | refine pp_normal ?_
    all_goals first | exact pm_ret _ (renumD [0, 1]) rfl | (exfalso; omega)
end Go.Proofs.Ytfabgdignlfihaa
