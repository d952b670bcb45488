/- Tables: cells are searched. -/
import Derived.Test.YtfabgdignlfihaaI4
set_option linter.unusedVariables false
set_option linter.unusedSimpArgs false
namespace Go.Proofs.Ytfabgdignlfihaa
open Go Av
set_option maxRecDepth 20000
/-- The slots rise. -/
def mono (C : List Ce) : Prop := ∀ (i j : Nat) (a b : Ce), i ≤ j → C[i]? = some a → C[j]? = some b → a.1 ≤ b.1
theorem ceI_zero {node len : Int} {C : List Ce} (h : ceI node len C C.length = 0) : ∀ i, i ≤ C.length → ceI node len C i = 0 := fun i hi => by
  rcases Decidable.em (ceI node len C i = 0) with h0 | h0
  · exact h0
  · exact absurd ((ceI_end hi h0).symm.trans h) h0
theorem ceI_get {node len : Int} {C : List Ce} (h : ceI node len C C.length = 0) {i : Nat} {c : Ce} (hc : C[i]? = some c) : formE node len c = 0 ∧ (0 < i → ∀ b, C[i - 1]? = some b → lessC b c = true) := by
  have hi := (List.getElem?_eq_some_iff.1 hc).1
  have h1 := ceI_at hc (ceI_zero h i (by omega))
  rw [ceI_zero h (i + 1) (by omega)] at h1
  by_cases hf : formE node len c = 0
  · refine ⟨hf, fun hi0 b hb => ?_⟩
    rw [if_neg (by simp [hf]), show C.getD (i - 1) (0, 0, 0, false, 0, 0, ()) = b by rw [List.getD_eq_getElem?_getD, hb]; rfl] at h1
    cases hl : lessC b c
    · rw [if_pos ⟨hi0, hl⟩] at h1; cases h1
    · rfl
  · rw [if_pos hf] at h1
    exact absurd h1.symm hf
theorem lessC_trans {a b c : Ce} (h1 : lessC a b = true) (h2 : lessC b c = true) : lessC a c = true := by
  have h1 := of_decide_eq_true h1
  have h2 := of_decide_eq_true h2
  exact decide_eq_true (by omega)
/-- A right table's cells are in order. -/
theorem chk_less {node len : Int} {C : List Ce} (h : ceI node len C C.length = 0) {i : Nat} {a : Ce} (ha : C[i]? = some a) : ∀ (d : Nat) (b : Ce), C[i + d + 1]? = some b → lessC a b = true
  | 0, b, hb => (ceI_get h hb).2 (by omega) a (by simpa using ha)
  | d + 1, b, hb => by
    have hlt := (List.getElem?_eq_some_iff.1 hb).1
    obtain ⟨c, hc⟩ : ∃ c, C[i + d + 1]? = some c := ⟨_, List.getElem?_eq_getElem (by omega)⟩
    exact lessC_trans (chk_less h ha d c hc) ((ceI_get h hb).2 (by omega) c (by rw [← hc]; congr 1))
theorem chk_mono {node len : Int} {C : List Ce} (h : ceI node len C C.length = 0) : mono C := fun i j a b hij ha hb => by
  by_cases hji : i = j
  · subst hji
    rw [ha] at hb; cases hb
    exact Int.le_refl _
  · have := of_decide_eq_true (chk_less h ha (j - i - 1) b (by rw [← hb]; congr 1; omega))
    omega
theorem chkT_0 {node len : Int} {C : List Ce} (h : chkT node len C = 0) : (0 ≤ node ∧ node < 32) ∧ (1 ≤ len ∧ len ≤ 512) ∧ C.length ≤ 512 ∧ ceI node len C C.length = 0 := by
  unfold chkT at h
  by_cases h1 : node < 0 ∨ 32 ≤ node ∨ len < 1 ∨ 512 < len
  · rw [if_pos h1] at h; cases h
  · rw [if_neg h1] at h
    by_cases h2 : 512 < C.length
    · rw [if_pos h2] at h; cases h
    · rw [if_neg h2] at h
      exact ⟨by omega, by omega, by omega, h⟩
/-- The first cell of a slot. -/
def atC (C : List Ce) (q : Int) : Option Ce := C.find? fun c => decide (c.1 = q)
theorem atC_lb {C : List Ce} {q : Int} {i : Nat} (h1 : ∀ (j : Nat) (c : Ce), j < i → C[j]? = some c → c.1 < q) {c : Ce} (hc : C[i]? = some c) (hq : c.1 = q) : atC C q = some c := by
  unfold atC
  rw [List.find?_eq_some_iff_getElem]
  obtain ⟨hi, hx⟩ := List.getElem?_eq_some_iff.1 hc
  refine ⟨decide_eq_true hq, i, hi, hx, fun j hj => ?_⟩
  have := h1 j C[j] hj (List.getElem?_eq_getElem (by omega))
  simp only [Bool.not_eq_true', decide_eq_false_iff_not]
  omega
theorem atC_no {C : List Ce} {q : Int} (h : ∀ (j : Nat) (c : Ce), C[j]? = some c → c.1 ≠ q) : atC C q = none := by
  unfold atC
  rw [List.find?_eq_none]
  intro c hc
  obtain ⟨j, hj⟩ := List.mem_iff_getElem?.1 hc
  have := h j c hj
  simpa using this
structure BsG where
  lo : Nat
  hi : Nat
theorem ok_shrE {P : Program} {ρ : Operand → Option Value} {m : Mem} {d : Option Tmp} {t : TypeId} {pp : String} {af : Array Edge} {g : Option (Nat × Bool)} {xt x y yt k k' a b} {c : Int} (hc : a / 2 ^ (min b.toNat k.bits) = c) (hx : ρ x = some (.int k a)) (hy : ρ y = some (.int k' b)) (h : 0 ≤ b) : OpOK P ⟨d, .binOp .shr xt x y yt, t, pp, af, g⟩ ρ m (.int k c) m := hc ▸ ok_shr hx hy h
/-- The cell in force in a slot. -/
def atR (node len : Int) (C : List Ce) (s : Int) : Option Ce := if chkT node len C ≠ 0 ∨ s < 0 then none else atC C (s % len)
set_option maxHeartbeats 1000000 in
theorem ac_atcmp (sl of k pe fl : Int) (sd_ : Bool) (q x : Int) (hx : cmpI sl q = x) : ACalls Try.prog 89 [.agg #[.int .i64 sl, .int .i64 of, .int .i64 k, .bool sd_, .int .i64 pe, .int .i64 fl], .int .i64 q] [] (.int .i64 x) [] := by
  have H := ac_cmp sl q x hx
  refine acalls_law Try.func89 rfl rfl rfl ?_
  repeat' first
    | refine st ?_
    | refine st_call (H) ?_
    | refine sd_call (H) ?_
    | refine stm ?_
    | refine run_want rfl rfl ?_
    | refine run_unwant rfl rfl ?_
    | refine run_undef rfl rfl ?_
    | refine run_guard1t rfl rfl (by omega) ?_
    | refine run_guard1f rfl rfl (by omega) ?_
    | refine run_guard0t rfl rfl (by omega) ?_
    | refine run_guard0f rfl rfl (by omega) ?_
    | refine run_guard1 rfl rfl (fun h1 => ?_) (fun h1 => ?_)
    | refine run_guard0 rfl rfl (fun h1 => ?_) (fun h1 => ?_)
    | refine run_guard rfl rfl (fun h1 => ?_) (fun h1 => ?_)
    | refine run_nil ?_
    | refine aw_seq ?_
    | refine aw_region (by kernel_rfl) (Nat.le_of_ble_eq_true rfl) ?_
    | refine aw_block ?_
    | refine aw_cond_t rfl ?_
    | refine aw_cond_f rfl ?_
    | refine aw_cond_tp rfl (by omega) ?_
    | refine aw_cond_fp rfl (by omega) ?_
    | refine aw_cond1 rfl (fun h1 => ?_) (fun h1 => ?_)
    | refine aw_cond rfl (fun h1 => ?_) (fun h1 => ?_)
    | refine aw_skip ?_
    | refine aw_exit ?_
    | refine aw_ret ?_
    | refine pp_ret ?_
    | refine pp_normal ?_
  all_goals first
    | rfl
    | (exfalso; omega)
    | (exfalso; simp only [Bool.not_eq_true', Bool.not_eq_false', decide_eq_true_eq, decide_eq_false_iff_not, Bool.not_false, Bool.not_true] at *; omega)
    | (exfalso; simp_all; first | done | omega)
set_option maxHeartbeats 4000000 in
theorem ac_search (C : List Ce) (n : Nat) (hn : C.length = n) (hb : n ≤ 1000000) (q : Int) (hm : mono C) : ∃ (i : Nat) (b : Bool), i ≤ n ∧ (∀ (j : Nat) (c : Ce), j < i → C[j]? = some c → c.1 < q) ∧ (∀ (j : Nat) (c : Ce), i ≤ j → C[j]? = some c → q ≤ c.1) ∧ ACalls Try.prog 88 [.slice (some ⟨0, 0, none⟩) n n, .int .i64 q, .func (.func 89) #[] #[]] [some ⟨C.flatMap tcC, false, 6⟩] (.tuple #[.int .i64 i, .bool b]) [none] := by
  obtain ⟨i, hi1, hi2, hi3⟩ : ∃ i, i ≤ n ∧ (∀ (j : Nat) (c : Ce), j < i → C[j]? = some c → c.1 < q) ∧ (∀ (j : Nat) (c : Ce), i ≤ j → C[j]? = some c → q ≤ c.1) := by
    refine ⟨C.findIdx fun c => decide (q ≤ c.1), by rw [← hn]; exact List.findIdx_le_length, fun j c hj hc => ?_, fun j c hj hc => ?_⟩
    · have hl := (List.getElem?_eq_some_iff.1 hc)
      have := List.not_of_lt_findIdx hj
      rw [hl.2] at this
      simpa using this
    · obtain ⟨hl, hx⟩ := List.getElem?_eq_some_iff.1 hc
      have hlt : C.findIdx (fun c => decide (q ≤ c.1)) < C.length := by omega
      have h1 := List.findIdx_getElem (w := hlt)
      have h2 := of_decide_eq_true h1
      exact Int.le_trans h2 (hm _ j _ c hj (List.getElem?_eq_getElem hlt) hc)
  obtain ⟨b, hb'⟩ : ∃ b, (match C[i]? with | some c => decide (c.1 = q) | none => false) = b := ⟨_, rfl⟩
  refine ⟨i, b, hi1, hi2, hi3, ?_⟩
  refine acalls_law Try.func88 rfl rfl rfl ?_
  repeat' first
    | refine st ?_
    | refine stm ?_
    | refine run_want rfl rfl ?_
    | refine run_unwant rfl rfl ?_
    | refine run_undef rfl rfl ?_
    | refine run_guard1t rfl rfl (by omega) ?_
    | refine run_guard1f rfl rfl (by omega) ?_
    | refine run_guard0t rfl rfl (by omega) ?_
    | refine run_guard0f rfl rfl (by omega) ?_
    | refine run_guard1 rfl rfl (fun h1 => ?_) (fun h1 => ?_)
    | refine run_guard0 rfl rfl (fun h1 => ?_) (fun h1 => ?_)
    | refine run_guard rfl rfl (fun h1 => ?_) (fun h1 => ?_)
    | refine run_nil ?_
    | refine aw_seq ?_
    | refine aw_region (by kernel_rfl) (Nat.le_of_ble_eq_true rfl) ?_
    | refine aw_block ?_
    | refine aw_cond_t rfl ?_
    | refine aw_cond_f rfl ?_
    | refine aw_cond_tp rfl (by omega) ?_
    | refine aw_cond_fp rfl (by omega) ?_
    | refine aw_cond1 rfl (fun h1 => ?_) (fun h1 => ?_)
    | refine aw_cond rfl (fun h1 => ?_) (fun h1 => ?_)
    | refine aw_skip ?_
    | refine aw_exit ?_
    | refine aw_ret ?_
    | refine pp_ret ?_
    | refine pp_normal ?_
  refine aw_loopg
    (S := fun y : BsG => [(0, .slice (some ⟨0, 0, none⟩) n n), (1, .int .i64 q), (2, .func (.func 89) #[] #[]), (8, .int .i64 n), (9, .int .i64 y.lo), (10, .int .i64 y.hi)])
    (B := fun _ : BsG => [some ⟨C.flatMap tcC, false, 6⟩])
    (R := fun y : BsG => y.lo ≤ i ∧ i ≤ y.hi ∧ y.hi ≤ n)
    (μ := fun y : BsG => y.hi - y.lo) ⟨0, n⟩ (fitsD [0]) ⟨Nat.zero_le _, hi1, Nat.le_refl _⟩ ?_
  rintro ⟨lo, hi⟩ ⟨g1, g2, g3⟩
  dsimp only at *
  by_cases hlh : lo < hi
  · obtain ⟨mid, hmid⟩ : ∃ mid, (lo + hi) / 2 = mid := ⟨_, rfl⟩
    have hsh : ((lo : Int) + hi) / 2 ^ (min (1 : Int).toNat IntKind.u64.bits) = (mid : Int) := by
      rw [show min (1 : Int).toNat IntKind.u64.bits = 1 from rfl]
      omega
    obtain ⟨⟨sl, of, k, sd_, pe, fl, u⟩, hc⟩ : ∃ c, C[mid]? = some c := ⟨_, List.getElem?_eq_getElem (by omega)⟩
    obtain ⟨x, hx⟩ : ∃ x, cmpI sl q = x := ⟨_, rfl⟩
    have H := ac_atcmp sl of k pe fl sd_ q x hx
    have hxs : x < 0 ↔ sl < q := by rw [← hx]; unfold cmpI; split <;> (try split) <;> omega
    by_cases hs : sl < q
    · have hi4 : mid < i := by
        rcases Nat.lt_or_ge mid i with h | h
        · exact h
        · have := hi3 mid _ h hc
          dsimp only at this
          omega
      have hx0 := hxs.2 hs
      repeat' first
        | refine st (h := ok_shrE hsh rfl rfl (by omega)) ?_
        | refine st (h := ok_load_rowsE (f := tcC) (cs := [.int .i64 sl, .int .i64 of, .int .i64 k, .bool sd_, .int .i64 pe, .int .i64 fl]) (mid) (fun _ => rfl) hc rfl rfl rfl rfl (by omega)) ?_
        | refine st ?_
        | refine st_call (H) ?_
        | refine sd_call (H) ?_
        | refine stm ?_
        | refine run_want rfl rfl ?_
        | refine run_unwant rfl rfl ?_
        | refine run_undef rfl rfl ?_
        | refine run_guard1t rfl rfl (by omega) ?_
        | refine run_guard1f rfl rfl (by omega) ?_
        | refine run_guard0t rfl rfl (by omega) ?_
        | refine run_guard0f rfl rfl (by omega) ?_
        | refine run_guard1 rfl rfl (fun h1 => ?_) (fun h1 => ?_)
        | refine run_guard0 rfl rfl (fun h1 => ?_) (fun h1 => ?_)
        | refine run_guard rfl rfl (fun h1 => ?_) (fun h1 => ?_)
        | refine run_nil ?_
        | refine aw_seq ?_
        | refine aw_region (by kernel_rfl) (Nat.le_of_ble_eq_true rfl) ?_
        | refine aw_block ?_
        | refine aw_cond_t rfl ?_
        | refine aw_cond_f rfl ?_
        | refine aw_cond_tp rfl (by omega) ?_
        | refine aw_cond_fp rfl (by omega) ?_
        | refine aw_cond1 rfl (fun h1 => ?_) (fun h1 => ?_)
        | refine aw_cond rfl (fun h1 => ?_) (fun h1 => ?_)
        | refine aw_skip ?_
        | refine aw_exit ?_
        | refine aw_ret ?_
        | refine pp_ret ?_
        | refine pp_normal ?_
      all_goals first | exact Exists.intro ⟨mid + 1, hi⟩ ⟨fitsD [0], ⟨by dsimp only; omega, by dsimp only; omega, by dsimp only; omega⟩, by dsimp only; omega⟩ | (exfalso; omega)
    · have hi4 : i ≤ mid := by
        rcases Nat.lt_or_ge mid i with h | h
        · have := hi2 mid _ h hc
          dsimp only at this
          omega
        · exact h
      have hx0 : ¬ x < 0 := fun h => hs (hxs.1 h)
      repeat' first
        | refine st (h := ok_shrE hsh rfl rfl (by omega)) ?_
        | refine st (h := ok_load_rowsE (f := tcC) (cs := [.int .i64 sl, .int .i64 of, .int .i64 k, .bool sd_, .int .i64 pe, .int .i64 fl]) (mid) (fun _ => rfl) hc rfl rfl rfl rfl (by omega)) ?_
        | refine st ?_
        | refine st_call (H) ?_
        | refine sd_call (H) ?_
        | refine stm ?_
        | refine run_want rfl rfl ?_
        | refine run_unwant rfl rfl ?_
        | refine run_undef rfl rfl ?_
        | refine run_guard1t rfl rfl (by omega) ?_
        | refine run_guard1f rfl rfl (by omega) ?_
        | refine run_guard0t rfl rfl (by omega) ?_
        | refine run_guard0f rfl rfl (by omega) ?_
        | refine run_guard1 rfl rfl (fun h1 => ?_) (fun h1 => ?_)
        | refine run_guard0 rfl rfl (fun h1 => ?_) (fun h1 => ?_)
        | refine run_guard rfl rfl (fun h1 => ?_) (fun h1 => ?_)
        | refine run_nil ?_
        | refine aw_seq ?_
        | refine aw_region (by kernel_rfl) (Nat.le_of_ble_eq_true rfl) ?_
        | refine aw_block ?_
        | refine aw_cond_t rfl ?_
        | refine aw_cond_f rfl ?_
        | refine aw_cond_tp rfl (by omega) ?_
        | refine aw_cond_fp rfl (by omega) ?_
        | refine aw_cond1 rfl (fun h1 => ?_) (fun h1 => ?_)
        | refine aw_cond rfl (fun h1 => ?_) (fun h1 => ?_)
        | refine aw_skip ?_
        | refine aw_exit ?_
        | refine aw_ret ?_
        | refine pp_ret ?_
        | refine pp_normal ?_
      all_goals first | exact Exists.intro ⟨lo, mid⟩ ⟨fitsD [0], ⟨by dsimp only; omega, by dsimp only; omega, by dsimp only; omega⟩, by dsimp only; omega⟩ | (exfalso; omega)
  · obtain rfl : lo = i := by omega
    by_cases hln : lo < n
    · obtain ⟨⟨sl, of, k, sd_, pe, fl, u⟩, hc⟩ : ∃ c, C[lo]? = some c := ⟨_, List.getElem?_eq_getElem (by omega)⟩
      obtain ⟨x, hx⟩ : ∃ x, cmpI sl q = x := ⟨_, rfl⟩
      have H := ac_atcmp sl of k pe fl sd_ q x hx
      rw [hc] at hb'
      dsimp only at hb'
      have hxs : x = 0 ↔ sl = q := by rw [← hx]; unfold cmpI; split <;> (try split) <;> omega
      have hbx : decide (x = 0) = b := by rw [← hb']; exact decide_eq_decide.2 hxs
      repeat' first
        | refine st (h := ok_load_rowsE (f := tcC) (cs := [.int .i64 sl, .int .i64 of, .int .i64 k, .bool sd_, .int .i64 pe, .int .i64 fl]) (lo) (fun _ => rfl) hc rfl rfl rfl rfl (by omega)) ?_
        | refine st ?_
        | refine st_call (H) ?_
        | refine sd_call (H) ?_
        | refine stm ?_
        | refine run_want rfl rfl ?_
        | refine run_unwant rfl rfl ?_
        | refine run_undef rfl rfl ?_
        | refine run_guard1t rfl rfl (by omega) ?_
        | refine run_guard1f rfl rfl (by omega) ?_
        | refine run_guard0t rfl rfl (by omega) ?_
        | refine run_guard0f rfl rfl (by omega) ?_
        | refine run_guard1 rfl rfl (fun h1 => ?_) (fun h1 => ?_)
        | refine run_guard0 rfl rfl (fun h1 => ?_) (fun h1 => ?_)
        | refine run_guard rfl rfl (fun h1 => ?_) (fun h1 => ?_)
        | refine run_nil ?_
        | refine aw_seq ?_
        | refine aw_region (by kernel_rfl) (Nat.le_of_ble_eq_true rfl) ?_
        | refine aw_block ?_
        | refine aw_cond_t rfl ?_
        | refine aw_cond_f rfl ?_
        | refine aw_cond_tp rfl (by omega) ?_
        | refine aw_cond_fp rfl (by omega) ?_
        | refine aw_cond1 rfl (fun h1 => ?_) (fun h1 => ?_)
        | refine aw_cond rfl (fun h1 => ?_) (fun h1 => ?_)
        | refine aw_skip ?_
        | refine aw_exit ?_
        | refine aw_ret ?_
        | refine pp_ret ?_
        | refine pp_normal ?_
      all_goals first
        | rfl
        | (subst hbx; rfl)
        | (exfalso; omega)
        | (exfalso; simp only [Bool.not_eq_true', Bool.not_eq_false', decide_eq_true_eq, decide_eq_false_iff_not, Bool.not_false, Bool.not_true] at *; omega)
        | (exfalso; simp_all; first | done | omega)
    · rw [List.getElem?_eq_none (by omega)] at hb'
      subst hb'
      repeat' first
        | refine st (h := ok_load_rowsE (f := tcC) (cs := [.int .i64 sl, .int .i64 of, .int .i64 k, .bool sd_, .int .i64 pe, .int .i64 fl]) (lo) (fun _ => rfl) hc rfl rfl rfl rfl (by omega)) ?_
        | refine st ?_
        | refine st_call (H) ?_
        | refine sd_call (H) ?_
        | refine stm ?_
        | refine run_want rfl rfl ?_
        | refine run_unwant rfl rfl ?_
        | refine run_undef rfl rfl ?_
        | refine run_guard1t rfl rfl (by omega) ?_
        | refine run_guard1f rfl rfl (by omega) ?_
        | refine run_guard0t rfl rfl (by omega) ?_
        | refine run_guard0f rfl rfl (by omega) ?_
        | refine run_guard1 rfl rfl (fun h1 => ?_) (fun h1 => ?_)
        | refine run_guard0 rfl rfl (fun h1 => ?_) (fun h1 => ?_)
        | refine run_guard rfl rfl (fun h1 => ?_) (fun h1 => ?_)
        | refine run_nil ?_
        | refine aw_seq ?_
        | refine aw_region (by kernel_rfl) (Nat.le_of_ble_eq_true rfl) ?_
        | refine aw_block ?_
        | refine aw_cond_t rfl ?_
        | refine aw_cond_f rfl ?_
        | refine aw_cond_tp rfl (by omega) ?_
        | refine aw_cond_fp rfl (by omega) ?_
        | refine aw_cond1 rfl (fun h1 => ?_) (fun h1 => ?_)
        | refine aw_cond rfl (fun h1 => ?_) (fun h1 => ?_)
        | refine aw_skip ?_
        | refine aw_exit ?_
        | refine aw_ret ?_
        | refine pp_ret ?_
        | refine pp_normal ?_
      all_goals first
        | rfl
        | (exfalso; omega)
        | (exfalso; simp only [Bool.not_eq_true', Bool.not_eq_false', decide_eq_true_eq, decide_eq_false_iff_not, Bool.not_false, Bool.not_true] at *; omega)
        | (exfalso; simp_all; first | done | omega)
end Go.Proofs.Ytfabgdignlfihaa
