/- Messages: their bits; the reference writes a list. -/
import Derived.Test.YtjamfmnlhiolkaaF4
import Derived.Test.YtjamfmnlhiolkaaW0
set_option linter.unusedVariables false
set_option linter.unusedSimpArgs false
namespace Go.Proofs.Ytjamfmnlhiolkaa
open Go Av
set_option maxRecDepth 20000
/-- The bits of a list of places. -/
def spB (S : List Sp) : List Int := S.flatMap fun p => bitsOf 9 p.1 ++ bitsOf 4 p.2.1
def liB (S : List Sp) : List Int := bitsOf 4 S.length ++ spB S
/-- The bits of a message. -/
def msgB (k n c cnt : Int) (r : Bool) (S O : List Sp) : List Int := bitsOf 3 k ++ bitsOf 1 (if r = true then 1 else 0) ++ bitsOf 8 n ++ bitsOf 2 c ++ bitsOf 10 cnt ++ liB S ++ liB O
theorem spI_zero {S : List Sp} (h : spE S = 0) : ∀ i, i ≤ S.length → spI S i = 0 := fun i hi => by
  rcases Decidable.em (spI S i = 0) with h0 | h0
  · exact h0
  · exact absurd (spE_of hi h0) (by rw [h]; exact fun h => h0 h.symm)
/-- Places without an error are in range, and in order. -/
theorem spE_at {S : List Sp} (h : spE S = 0) {i : Nat} {a e : Int} {u : Unit} (hq : S[i]? = some (a, e, u)) : (0 ≤ a ∧ a < 512 ∧ 0 ≤ e ∧ e < 16) ∧ (0 < i → (S.getD (i - 1) (0, 0, ())).1 < a) := by
  have hi := (List.getElem?_eq_some_iff.1 hq).1
  have h1 := spI_at hq (spI_zero h i (by omega))
  rw [spI_zero h (i + 1) (by omega)] at h1
  by_cases hr : a < 0 ∨ 512 ≤ a ∨ e < 0 ∨ 16 ≤ e
  · rw [if_pos hr] at h1; cases h1
  · rw [if_neg hr] at h1
    refine ⟨by omega, fun hi0 => ?_⟩
    by_cases hl : a ≤ (S.getD (i - 1) (0, 0, ())).1
    · rw [if_pos ⟨hi0, hl⟩] at h1; cases h1
    · omega
theorem take_snoc {α : Type} {l : List α} {i : Nat} {x : α} (h : l[i]? = some x) : l.take (i + 1) = l.take i ++ [x] := by
  rw [List.take_add_one, h]; rfl
theorem spB_snoc {S : List Sp} {i : Nat} {a e : Int} {u : Unit} (hq : S[i]? = some (a, e, u)) (xs : List Int) : xs ++ spB (S.take i) ++ bitsOf 9 a ++ bitsOf 4 e = xs ++ spB (S.take (i + 1)) := by
  rw [take_snoc hq, spB, spB, List.flatMap_append]
  simp [List.append_assoc]
theorem spB_len (S : List Sp) : (spB S).length = 13 * S.length := by
  induction S with
  | nil => rfl
  | cons p S ih => 
    unfold spB at ih ⊢
    rw [List.flatMap_cons, List.length_append, ih, List.length_append, bitsOf_len, bitsOf_len, List.length_cons]; omega
theorem liB_len (S : List Sp) : (liB S).length = 4 + 13 * S.length := by rw [liB, List.length_append, bitsOf_len, spB_len]
theorem spB_01 (S : List Sp) : ∀ b ∈ spB S, b = 0 ∨ b = 1 := fun b hb => by
  obtain ⟨p, _, h⟩ := List.mem_flatMap.1 hb
  rcases List.mem_append.1 h with h | h <;> exact bitsOf_01 _ _ b h
theorem liB_01 (S : List Sp) : ∀ b ∈ liB S, b = 0 ∨ b = 1 := fun b hb => by
  rcases List.mem_append.1 hb with h | h
  · exact bitsOf_01 _ _ b h
  · exact spB_01 S b h
theorem msgB_01 (k n c cnt : Int) (r : Bool) (S O : List Sp) : ∀ b ∈ msgB k n c cnt r S O, b = 0 ∨ b = 1 := fun b hb => by
  unfold msgB at hb
  simp only [List.mem_append] at hb
  rcases hb with (((((h | h) | h) | h) | h) | h) | h <;> first | exact bitsOf_01 _ _ b h | exact liB_01 _ b h
theorem msgB_len (k n c cnt : Int) (r : Bool) (S O : List Sp) : (msgB k n c cnt r S O).length = 32 + 13 * S.length + 13 * O.length := by
  unfold msgB
  simp only [List.length_append, bitsOf_len, liB_len]
  omega
/-- What Check finds right. -/
theorem chk_zero {k n c cnt : Int} {r : Bool} {S O : List Sp} (h : chk k n c cnt r S O = 0) : (1 ≤ k ∧ k ≤ 6) ∧ (0 ≤ n ∧ n ≤ 255) ∧ (0 ≤ c ∧ c ≤ 3) ∧ (0 ≤ cnt ∧ cnt ≤ 512) ∧ (S.length ≤ 8 ∧ O.length ≤ 8) ∧ (spE S = 0 ∧ spE O = 0) ∧ flw r k c cnt S.length O.length = true := by
  unfold chk at h
  by_cases h1 : k < 1 ∨ 6 < k
  · rw [if_pos h1] at h; cases h
  rw [if_neg h1] at h
  by_cases h2 : n < 0 ∨ 255 < n ∨ c < 0 ∨ 3 < c ∨ cnt < 0 ∨ 512 < cnt
  · rw [if_pos h2] at h; cases h
  rw [if_neg h2] at h
  by_cases h3 : 8 < S.length ∨ 8 < O.length
  · rw [if_pos h3] at h; cases h
  rw [if_neg h3] at h
  by_cases h4 : spE S = 0
  · rw [if_neg (by simpa using h4)] at h
    by_cases h5 : spE O = 0
    · rw [if_neg (by simpa using h5)] at h
      cases h6 : flw r k c cnt S.length O.length with
      | true => exact ⟨by omega, by omega, by omega, by omega, by omega, ⟨h4, h5⟩, rfl⟩
      | false => rw [if_pos h6] at h; cases h
    · rw [if_pos h5] at h; exact absurd h h5
  · rw [if_pos h4] at h; exact absurd h h4
structure Mg where
  i : Nat
  b : List Int
set_option maxHeartbeats 4000000 in
theorem ac_rwrite (S : List Sp) (s : Nat) (hs : S.length = s) (h8 : s ≤ 8) (hS : spE S = 0) (bs bs' : List Int) (hl : bs.length ≤ 500000) (hb : bs ++ liB S = bs') : ACalls Try.prog 38 [.pointer (some ⟨0, 0, none⟩), .slice (some ⟨2, 0, none⟩) s s] [some ⟨[.slice (some ⟨1, 0, none⟩) bs.length bs.length, .int .i64 0], true, 1⟩, some ⟨List.map (Value.int .u8) bs, true, 1⟩, some ⟨S.flatMap spC, false, 2⟩] (.tuple #[]) [some ⟨[.slice (some ⟨3, 0, none⟩) bs'.length bs'.length, .int .i64 0], true, 1⟩, none, none, some ⟨List.map (Value.int .u8) bs', true, 1⟩] := by
  obtain ⟨b0, hb0⟩ : ∃ b0, bs ++ bitsOf 4 s = b0 := ⟨_, rfl⟩
  have hl0 : b0.length = bs.length + 4 := by rw [← hb0, List.length_append, bitsOf_len]
  have H0 := ac_runs0 4 s bs b0 (by decide) (by rw [show ((2 : Int) ^ (4 : Int).toNat) = 16 from rfl]; omega) (by omega) hb0
  refine acalls_of_aw Try.func38 rfl rfl ?_
  repeat' first
    | refine st ?_
    | refine stMW [0, 1] H0 ?_
    | refine stm ?_
    | refine run_want rfl rfl ?_
    | refine run_unwant rfl rfl ?_
    | refine run_undef rfl rfl ?_
    | refine run_guard1t rfl rfl (by omega) ?_
    | refine run_guard1f rfl rfl (by omega) ?_
    | refine run_guard0t rfl rfl (by omega) ?_
    | refine run_guard0f rfl rfl (by omega) ?_
    | refine run_guard1 rfl rfl (fun h1 => ?_) (fun h1 => ?_)
    | refine run_guard0 rfl rfl (fun h1 => ?_) (fun h1 => ?_)
    | refine run_guard rfl rfl (fun h1 => ?_) (fun h1 => ?_)
    | refine run_nil ?_
    | refine aw_seq ?_
    | refine aw_region (by kernel_rfl) (Nat.le_of_ble_eq_true rfl) ?_
    | refine aw_block ?_
    | refine aw_cond_t rfl ?_
    | refine aw_cond_f rfl ?_
    | refine aw_cond_tp rfl (by omega) ?_
    | refine aw_cond_fp rfl (by omega) ?_
    | refine aw_cond1 rfl (fun h1 => ?_) (fun h1 => ?_)
    | refine aw_cond rfl (fun h1 => ?_) (fun h1 => ?_)
    | refine aw_skip ?_
    | refine aw_exit ?_
    | refine aw_ret ?_
    | refine pp_ret ?_
    | refine pp_normal ?_
  clear H0
  refine aw_loopg
    (S := fun y : Mg => [(0, .pointer (some ⟨0, 0, none⟩)), (1, .slice (some ⟨2, 0, none⟩) s s), (4, .int .i64 y.i)])
    (B := fun y : Mg => [some ⟨[.slice (some ⟨3, 0, none⟩) y.b.length y.b.length, .int .i64 0], true, 1⟩, none, some ⟨S.flatMap spC, false, 2⟩, some ⟨List.map (Value.int .u8) y.b, true, 1⟩])
    (R := fun y : Mg => y.i ≤ s ∧ y.b = b0 ++ spB (S.take y.i))
    (μ := fun y : Mg => s - y.i) ⟨0, b0⟩ (fitsD [0, 1, 2, 3]) ⟨Nat.zero_le _, by simp [spB]⟩ ?_
  rintro ⟨i, bi⟩ ⟨g1, g2⟩
  dsimp only at *
  by_cases hi : i < s
  · obtain ⟨⟨a, e, u⟩, hq⟩ : ∃ q, S[i]? = some q := ⟨_, List.getElem?_eq_getElem (by omega)⟩
    obtain ⟨hr, _⟩ := spE_at hS hq
    have hbl : bi.length = b0.length + 13 * i := by rw [g2, List.length_append, spB_len, List.length_take]; omega
    obtain ⟨b1, hb1⟩ : ∃ b1, bi ++ bitsOf 9 a = b1 := ⟨_, rfl⟩
    have hl1 : b1.length = bi.length + 9 := by rw [← hb1, List.length_append, bitsOf_len]
    obtain ⟨b2, hb2⟩ : ∃ b2, b1 ++ bitsOf 4 e = b2 := ⟨_, rfl⟩
    have hn : b2 = b0 ++ spB (S.take (i + 1)) := by rw [← hb2, ← hb1, g2]; exact spB_snoc hq b0
    have HX := ac_runs0 9 a bi b1 (by decide) (by rw [show ((2 : Int) ^ (9 : Int).toNat) = 512 from rfl]; omega) (by omega) hb1
    have HY := ac_runs0 4 e b1 b2 (by decide) (by rw [show ((2 : Int) ^ (4 : Int).toNat) = 16 from rfl]; omega) (by omega) hb2
    repeat' first
      | refine st (h := ok_load_rowcellE (f := spC) (n := 2) (v := .int .i64 a) i 0 (fun _ => rfl) hq rfl (by decide) rfl rfl rfl (by omega)) ?_
      | refine st (h := ok_load_rowcellE (f := spC) (n := 2) (v := .int .i64 e) i 1 (fun _ => rfl) hq rfl (by decide) rfl rfl rfl (by omega)) ?_
      | refine st (h := ok_load_rowsE (f := spC) (cs := [.int .i64 a, .int .i64 e]) i (fun _ => rfl) hq rfl rfl rfl rfl (by omega)) ?_
      | refine st ?_
      | refine stMW [0, 3] HX ?_
      | refine stMW [0, 4] HY ?_
      | refine stm ?_
      | refine run_want rfl rfl ?_
      | refine run_unwant rfl rfl ?_
      | refine run_undef rfl rfl ?_
      | refine run_guard1t rfl rfl (by omega) ?_
      | refine run_guard1f rfl rfl (by omega) ?_
      | refine run_guard0t rfl rfl (by omega) ?_
      | refine run_guard0f rfl rfl (by omega) ?_
      | refine run_guard1 rfl rfl (fun h1 => ?_) (fun h1 => ?_)
      | refine run_guard0 rfl rfl (fun h1 => ?_) (fun h1 => ?_)
      | refine run_guard rfl rfl (fun h1 => ?_) (fun h1 => ?_)
      | refine run_nil ?_
      | refine aw_seq ?_
      | refine aw_region (by kernel_rfl) (Nat.le_of_ble_eq_true rfl) ?_
      | refine aw_block ?_
      | refine aw_cond_t rfl ?_
      | refine aw_cond_f rfl ?_
      | refine aw_cond_tp rfl (by omega) ?_
      | refine aw_cond_fp rfl (by omega) ?_
      | refine aw_cond1 rfl (fun h1 => ?_) (fun h1 => ?_)
      | refine aw_cond rfl (fun h1 => ?_) (fun h1 => ?_)
      | refine aw_skip ?_
      | refine aw_exit ?_
      | refine aw_ret ?_
      | refine pp_ret ?_
      | refine pp_normal ?_
    all_goals first | exact Exists.intro ⟨i + 1, b2⟩ ⟨fitsD [0, 1, 2, 5], ⟨hi, hn⟩, by dsimp only; omega⟩ | (exfalso; omega)
  · have e1 : bi = bs' := by
      rw [g2, ← hb, ← hb0, liB, hs, List.append_assoc, List.take_of_length_le (show S.length ≤ i by omega)]
    subst e1
    repeat' first
      | refine st ?_
      | refine stm ?_
      | refine run_want rfl rfl ?_
      | refine run_unwant rfl rfl ?_
      | refine run_undef rfl rfl ?_
      | refine run_guard1t rfl rfl (by omega) ?_
      | refine run_guard1f rfl rfl (by omega) ?_
      | refine run_guard0t rfl rfl (by omega) ?_
      | refine run_guard0f rfl rfl (by omega) ?_
      | refine run_guard1 rfl rfl (fun h1 => ?_) (fun h1 => ?_)
      | refine run_guard0 rfl rfl (fun h1 => ?_) (fun h1 => ?_)
      | refine run_guard rfl rfl (fun h1 => ?_) (fun h1 => ?_)
      | refine run_nil ?_
      | refine aw_seq ?_
      | refine aw_region (by kernel_rfl) (Nat.le_of_ble_eq_true rfl) ?_
      | refine aw_block ?_
      | refine aw_cond_t rfl ?_
      | refine aw_cond_f rfl ?_
      | refine aw_cond_tp rfl (by omega) ?_
      | refine aw_cond_fp rfl (by omega) ?_
      | refine aw_cond1 rfl (fun h1 => ?_) (fun h1 => ?_)
      | refine aw_cond rfl (fun h1 => ?_) (fun h1 => ?_)
      | refine aw_skip ?_
      | refine aw_exit ?_
      | refine aw_ret ?_
      | refine pp_ret ?_
      | refine pp_normal ?_
    all_goals first | exact pm_normal _ (renumD [0, 1, 2, 3]) rfl | exact pm_ret _ (renumD [0, 1, 2, 3]) rfl | (exfalso; omega)
end Go.Proofs.Ytjamfmnlhiolkaa
