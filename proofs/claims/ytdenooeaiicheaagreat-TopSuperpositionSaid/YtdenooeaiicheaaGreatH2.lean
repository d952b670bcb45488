/- Lists of numbers, hopping lists: plain. Lists of numbers, searched. Hopping lists: their channels. -/
import Derived.Test.YtdenooeaiicheaaGreatVL
import Derived.Test.YtdenooeaiicheaaGreatVI
import Derived.Test.YtdenooeaiicheaaGreatJ
set_option linter.unusedVariables false
set_option linter.unusedSimpArgs false
namespace Go.Proofs.YtdenooeaiicheaaGreat
open Go Av
set_option maxRecDepth 20000
/-- The first element of a list where q holds, or -1. -/
def fidx {α : Type} (q : α → Bool) (l : List α) : Int := if l.findIdx q < l.length then (l.findIdx q : Int) else -1
theorem fidx_at {α : Type} {q : α → Bool} {l : List α} {i : Nat} {x : α} (h : l[i]? = some x) (hq : q x = true) (h0 : ∀ (j : Nat), j < i → ∀ y, l[j]? = some y → q y = false) : fidx q l = i := by
  obtain ⟨hi, hx⟩ := List.getElem?_eq_some_iff.1 h
  have : l.findIdx q = i := (List.findIdx_eq hi).2 ⟨by rw [hx]; exact hq, fun j hj => h0 j hj _ (List.getElem?_eq_getElem (by omega))⟩
  unfold fidx
  rw [this, if_pos hi]
theorem fidx_no {α : Type} {q : α → Bool} {l : List α} (h0 : ∀ (j : Nat), j < l.length → ∀ y, l[j]? = some y → q y = false) : fidx q l = -1 := by
  have : l.findIdx q = l.length := List.findIdx_eq_length.2 fun x hx => by
    obtain ⟨j, hj⟩ := List.mem_iff_getElem?.1 hx
    exact h0 j (List.getElem?_eq_some_iff.1 hj).1 x hj
  unfold fidx
  rw [this, if_neg (by omega)]
theorem fidx_pos {α : Type} {q : α → Bool} {l : List α} : 0 ≤ fidx q l ↔ ∃ x ∈ l, q x = true := by
  unfold fidx
  by_cases h : l.findIdx q < l.length
  · rw [if_pos h]
    exact ⟨fun _ => ⟨_, List.getElem_mem h, List.findIdx_getElem⟩, fun _ => by omega⟩
  · rw [if_neg h]
    refine ⟨fun h => by omega, fun ⟨x, hx, hq⟩ => ?_⟩
    exact absurd (List.findIdx_lt_length_of_exists ⟨x, hx, hq⟩) h
theorem fidx_ge {α : Type} {q : α → Bool} {l : List α} : -1 ≤ fidx q l ∧ fidx q l < l.length + 1 := by
  unfold fidx
  split <;> omega
theorem no_step {α : Type} {q : α → Bool} {l : List α} {i : Nat} {x : α} (h0 : ∀ (j : Nat), j < i → ∀ y, l[j]? = some y → q y = false) (h : l[i]? = some x) (hq : q x = false) : ∀ (j : Nat), j < i + 1 → ∀ y, l[j]? = some y → q y = false := fun j hj y hy => by
  rcases Nat.lt_or_ge j i with h1 | h1
  · exact h0 j h1 y hy
  · obtain rfl : j = i := by omega
    rw [h] at hy
    cases hy
    exact hq
/-- A list has a number. -/
def hasI (C : List Int) (c : Int) : Bool := decide (c ∈ C)
theorem hasI_pos (C : List Int) (c : Int) : decide (0 ≤ fidx (fun q => decide (q = c)) C) = hasI C c :=
  decide_eq_decide.2 (fidx_pos.trans ⟨fun ⟨x, h1, h2⟩ => (of_decide_eq_true h2) ▸ h1, fun h => ⟨c, h, decide_eq_true rfl⟩⟩)
theorem hasI_of {C : List Int} {c : Int} {i : Nat} (h : C[i]? = some c) : hasI C c = true := decide_eq_true (List.mem_of_getElem? h)
theorem hasI_not {C : List Int} {c : Int} (h0 : ∀ (j : Nat), j < C.length → ∀ y, C[j]? = some y → decide (y = c) = false) : hasI C c = false := decide_eq_false fun h => by
  obtain ⟨j, hj⟩ := List.mem_iff_getElem?.1 h
  have := h0 j (List.getElem?_eq_some_iff.1 hj).1 c hj
  simp at this
/-- 1 to 16 different channels. -/
def chOK (C : List Int) : Bool := decide (C ≠ [] ∧ (∀ c ∈ C, 0 ≤ c ∧ c < 16) ∧ C.Nodup)
def chP (C : List Int) (i : Nat) : Prop := (∀ c ∈ C.take i, 0 ≤ c ∧ c < 16) ∧ (C.take i).Nodup
theorem chP_zero (C : List Int) : chP C 0 := ⟨fun c h => by simp at h, by simp⟩
theorem chP_step {C : List Int} {i : Nat} {c : Int} (h : chP C i) (hc : C[i]? = some c) (h1 : 0 ≤ c ∧ c < 16) (h2 : hasI (C.take i) c = false) : chP C (i + 1) := by
  have e : C.take (i + 1) = C.take i ++ [c] := by rw [List.take_add_one, hc]; rfl
  have h2 : ¬ c ∈ C.take i := of_decide_eq_false h2
  unfold chP
  rw [e]
  refine ⟨fun x hx => ?_, ?_⟩
  · rcases List.mem_append.1 hx with hx | hx
    · exact h.1 x hx
    · rw [List.mem_singleton] at hx
      rw [hx]; exact h1
  · rw [List.nodup_append]
    refine ⟨h.2, by simp, fun a ha b hb => ?_⟩
    rw [List.mem_singleton] at hb
    rintro rfl
    exact h2 (hb ▸ ha)
theorem chP_end {C : List Int} (h : chP C C.length) (h0 : C.length ≠ 0) : chOK C = true := by
  unfold chP at h
  rw [List.take_length] at h
  exact decide_eq_true ⟨fun e => h0 (by rw [e]; rfl), h.1, h.2⟩
theorem chP_bad {C : List Int} {i : Nat} {c : Int} (hc : C[i]? = some c) (h : ¬ (0 ≤ c ∧ c < 16)) : chOK C = false := decide_eq_false fun h2 => h (h2.2.1 c (List.mem_of_getElem? hc))
theorem chP_twice {C : List Int} {i : Nat} {c : Int} (hc : C[i]? = some c) (h : hasI (C.take i) c = true) : chOK C = false := decide_eq_false fun ⟨_, _, h3⟩ => by
  have hi := (List.getElem?_eq_some_iff.1 hc).1
  have e : C.take (i + 1) = C.take i ++ [c] := by rw [List.take_add_one, hc]; rfl
  have h4 : (C.take (i + 1)).Nodup := h3.sublist (List.take_sublist _ _)
  rw [e, List.nodup_append] at h4
  exact h4.2.2 c (of_decide_eq_true h) c (by simp) rfl
theorem chOK_nil : chOK [] = false := rfl
theorem nodup_lt : ∀ (n : Nat) (C : List Int), C.Nodup → (∀ c ∈ C, 0 ≤ c ∧ c < n) → C.length ≤ n
  | 0, C, _, h => by
    cases C with
    | nil => exact Nat.le_refl _
    | cons a C => have := h a (by simp); omega
  | n + 1, C, hn, h => by
    have h1 := nodup_lt n (C.erase n) (hn.erase _) fun c hc => by
      have h2 := (hn.mem_erase_iff).1 hc
      have := h c h2.2
      have := h2.1
      omega
    rw [List.length_erase] at h1
    split at h1 <;> omega
theorem chOK_len {C : List Int} (h : chOK C = true) : 1 ≤ C.length ∧ C.length ≤ 16 ∧ ∀ c ∈ C, 0 ≤ c ∧ c < 16 := by
  obtain ⟨h1, h2, h3⟩ := of_decide_eq_true h
  exact ⟨by cases C; exact absurd rfl h1; simp, nodup_lt 16 C h3 h2, h2⟩
/-- The error of a hopping list. -/
def chkH (v f u : Int) (C : List Int) : Int := if v < 0 ∨ 255 < v ∨ f < 0 ∨ u ≤ f ∨ 109951163 < u ∨ chOK C = false then 1 else 0
theorem chkH_0 {v f u : Int} {C : List Int} (h : chkH v f u C = 0) : (0 ≤ v ∧ v ≤ 255) ∧ 0 ≤ f ∧ f < u ∧ u ≤ 109951163 ∧ chOK C = true := by
  unfold chkH at h
  by_cases hq : v < 0 ∨ 255 < v ∨ f < 0 ∨ u ≤ f ∨ 109951163 < u ∨ chOK C = false
  · rw [if_pos hq] at h; cases h
  · have : chOK C = true := by
      cases hc : chOK C
      · exact absurd (.inr (.inr (.inr (.inr (.inr hc))))) hq
      · rfl
    rw [this] at hq
    exact ⟨by omega, by omega, by omega, by omega, this⟩
theorem chkH_is {v f u : Int} {C : List Int} : chkH v f u C = 0 ∨ chkH v f u C = 1 := by
  unfold chkH
  split
  · exact .inr rfl
  · exact .inl rfl
theorem ok_not_dec2 {P : Program} {ρ : Operand → Option Value} {m : Mem} {d : Option Tmp} {t : TypeId} {pp : String} {af : Array Edge} {g : Option (Nat × Bool)} {tt x} {p : Prop} {i : Decidable p} (hx : ρ x = some (.bool (@decide p i))) : OpOK P ⟨d, .unOp .not tt x, t, pp, af, g⟩ ρ m (.bool (decide (¬ p))) m := ok_not_dec hx
structure Og where
  i : Nat
end Go.Proofs.YtdenooeaiicheaaGreat
namespace Go.Proofs.YtdenooeaiicheaaGreat
open Go Av
set_option maxRecDepth 20000
set_option maxHeartbeats 1000000 in
theorem ac_indexI (C0 C : List Int) (n : Nat) (hn : n ≤ C0.length) (hC : C0.take n = C) (hb : n ≤ 9000000000000000000) (c : Int) (x : Int) (hx : fidx (fun z => decide (z = c)) C = x) : ACalls Tryz.prog 28 [.slice (some ⟨0, 0, none⟩) n n, .int .i64 c] [some ⟨List.map (Value.int .i64) C0, false, 1⟩] (.int .i64 x) [none] := by
  have hl : C.length = n := by rw [← hC, List.length_take]; omega
  refine acalls_law Tryz.func28 rfl rfl rfl ?_
  repeat' first | intro h1 | refine st ?_ | refine stm ?_ | refine Ja ?_ | refine Jb ?_ | refine Jc ?_ | refine Jd ?_ | refine Je ?_ | refine Jf ?_ | refine Jg ?_ | refine Jh ?_ ?_ | refine Ji ?_ ?_ | refine Jj ?_ ?_ | refine run_nil ?_ | refine Jz ?_ | refine Jw ?_ | refine aw_block ?_ | refine Jq ?_ | refine Jr ?_ | refine Js ?_ | refine Jt ?_ | refine Ju ?_ ?_ | refine Jv ?_ ?_ | refine Jy ?_ | refine aw_exit ?_ | refine aw_ret ?_ | refine pp_ret ?_ | refine pp_normal ?_
  refine aw_loopg
    (S := fun y : Og => [(0, .slice (some ⟨0, 0, none⟩) n n), (1, .int .i64 c), (7, .int .i64 n), (8, .int .i64 y.i)])
    (B := fun _ : Og => [some ⟨List.map (Value.int .i64) C0, false, 1⟩])
    (R := fun y : Og => y.i ≤ n ∧ ∀ (j : Nat), j < y.i → ∀ q, C[j]? = some q → decide (q = c) = false)
    (μ := fun y : Og => n - y.i) ⟨0⟩ (fitsD [0]) ⟨Nat.zero_le _, fun j hj => absurd hj (Nat.not_lt_zero _)⟩ ?_
  rintro ⟨i⟩ ⟨g1, g2⟩
  dsimp only at *
  by_cases hi : i < n
  · obtain ⟨q, hq⟩ : ∃ q, C0[i]? = some q := ⟨_, List.getElem?_eq_getElem (by omega)⟩
    have hq' : C[i]? = some q := by rw [← hC, List.getElem?_take, if_pos hi]; exact hq
    by_cases heq : q = c
    · subst heq
      obtain rfl : x = i := by rw [← hx]; exact fidx_at (q := fun z => decide (z = q)) hq' (by simp) g2
      repeat' first | intro h1 | refine st (h := ok_load_mapE (f := Value.int .i64) i hq rfl rfl rfl (by omega)) ?_ | refine st ?_ | refine stm ?_ | refine Ja ?_ | refine Jb ?_ | refine Jc ?_ | refine Jd ?_ | refine Je ?_ | refine Jf ?_ | refine Jg ?_ | refine Jh ?_ ?_ | refine Ji ?_ ?_ | refine Jj ?_ ?_ | refine run_nil ?_ | refine Jz ?_ | refine Jw ?_ | refine aw_block ?_ | refine Jq ?_ | refine Jr ?_ | refine Js ?_ | refine Jt ?_ | refine Ju ?_ ?_ | refine Jv ?_ ?_ | refine Jy ?_ | refine aw_exit ?_ | refine aw_ret ?_ | refine pp_ret ?_ | refine pp_normal ?_
      all_goals first
        | rfl
        | (exfalso; omega)
        | (exfalso; simp only [Bool.not_eq_true', Bool.not_eq_false', decide_eq_true_eq, decide_eq_false_iff_not, Bool.not_false, Bool.not_true] at *; omega)
        | (exfalso; simp_all; first | done | omega)
    · have hne : decide (q = c) = false := decide_eq_false heq
      repeat' first | intro h1 | refine st (h := ok_load_mapE (f := Value.int .i64) i hq rfl rfl rfl (by omega)) ?_ | refine st ?_ | refine stm ?_ | refine Ja ?_ | refine Jb ?_ | refine Jc ?_ | refine Jd ?_ | refine Je ?_ | refine Jf ?_ | refine Jg ?_ | refine Jh ?_ ?_ | refine Ji ?_ ?_ | refine Jj ?_ ?_ | refine run_nil ?_ | refine Jz ?_ | refine Jw ?_ | refine aw_block ?_ | refine Jq ?_ | refine Jr ?_ | refine Js ?_ | refine Jt ?_ | refine Ju ?_ ?_ | refine Jv ?_ ?_ | refine Jy ?_ | refine aw_exit ?_ | refine aw_ret ?_ | refine pp_ret ?_ | refine pp_normal ?_
      all_goals first | exact Exists.intro ⟨i + 1⟩ ⟨fitsD [0], ⟨hi, no_step g2 hq' hne⟩, by dsimp only; omega⟩ | (exfalso; omega)
  · obtain rfl : i = n := by omega
    obtain rfl : x = -1 := by rw [← hx]; exact fidx_no (by rw [hl]; exact g2)
    repeat' first | intro h1 | refine st ?_ | refine stm ?_ | refine Ja ?_ | refine Jb ?_ | refine Jc ?_ | refine Jd ?_ | refine Je ?_ | refine Jf ?_ | refine Jg ?_ | refine Jh ?_ ?_ | refine Ji ?_ ?_ | refine Jj ?_ ?_ | refine run_nil ?_ | refine Jz ?_ | refine Jw ?_ | refine aw_block ?_ | refine Jq ?_ | refine Jr ?_ | refine Js ?_ | refine Jt ?_ | refine Ju ?_ ?_ | refine Jv ?_ ?_ | refine Jy ?_ | refine aw_exit ?_ | refine aw_ret ?_ | refine pp_ret ?_ | refine pp_normal ?_
    all_goals first
      | rfl
      | (exfalso; omega)
      | (exfalso; simp only [Bool.not_eq_true', Bool.not_eq_false', decide_eq_true_eq, decide_eq_false_iff_not, Bool.not_false, Bool.not_true] at *; omega)
      | (exfalso; simp_all; first | done | omega)
theorem ac_containsI (C0 C : List Int) (n : Nat) (hn : n ≤ C0.length) (hC : C0.take n = C) (hb : n ≤ 9000000000000000000) (c : Int) (x : Bool) (hx : hasI C c = x) : ACalls Tryz.prog 12 [.slice (some ⟨0, 0, none⟩) n n, .int .i64 c] [some ⟨List.map (Value.int .i64) C0, false, 1⟩] (.bool x) [none] := by
  obtain ⟨z, hz⟩ : ∃ z, fidx (fun q => decide (q = c)) C = z := ⟨_, rfl⟩
  have H := ac_indexI C0 C n hn hC hb c z hz
  have hh := hasI_pos C c
  rw [hz, hx] at hh
  refine acalls_law Tryz.func12 rfl rfl rfl ?_
  repeat' first | intro h1 | refine st ?_ | refine stRW [0] H ?_ | refine sdRW [0] H ?_ | refine stm ?_ | refine Ja ?_ | refine Jb ?_ | refine Jc ?_ | refine Jd ?_ | refine Je ?_ | refine Jf ?_ | refine Jg ?_ | refine Jh ?_ ?_ | refine Ji ?_ ?_ | refine Jj ?_ ?_ | refine run_nil ?_ | refine Jz ?_ | refine Jw ?_ | refine aw_block ?_ | refine Jq ?_ | refine Jr ?_ | refine Js ?_ | refine Jt ?_ | refine Ju ?_ ?_ | refine Jv ?_ ?_ | refine Jy ?_ | refine aw_exit ?_ | refine aw_ret ?_ | refine pp_ret ?_ | refine pp_normal ?_
  all_goals first
    | rfl
    | exact congrArg Value.bool hh
    | (exfalso; omega)
    | (exfalso; simp only [Bool.not_eq_true', Bool.not_eq_false', decide_eq_true_eq, decide_eq_false_iff_not, Bool.not_false, Bool.not_true] at *; omega)
    | (exfalso; simp_all; first | done | omega)
end Go.Proofs.YtdenooeaiicheaaGreat
namespace Go.Proofs.YtdenooeaiicheaaGreat
open Go Av
set_option maxRecDepth 20000
theorem ac_channel (c : Int) : ACalls Tryz.prog 91 [.int .i64 c] [] (.bool (decide (0 ≤ c ∧ c < 16))) [] := by
  refine acalls_pure Tryz.func91 rfl rfl rfl ?_
  repeat' first | intro h1 | refine st ?_ | refine stm ?_ | refine Ja ?_ | refine Jb ?_ | refine Jc ?_ | refine Jd ?_ | refine Je ?_ | refine Jf ?_ | refine Jg ?_ | refine Jh ?_ ?_ | refine Ji ?_ ?_ | refine Jj ?_ ?_ | refine run_nil ?_ | refine Jz ?_ | refine Jw ?_ | refine aw_block ?_ | refine Jq ?_ | refine Jr ?_ | refine Js ?_ | refine Jt ?_ | refine Ju ?_ ?_ | refine Jv ?_ ?_ | refine Jy ?_ | refine aw_exit ?_ | refine aw_ret ?_ | refine pp_ret ?_ | refine pp_normal ?_
  all_goals first
    | rfl
    | (show Value.bool _ = Value.bool _; congr 1; first | exact decide_eq_false (by omega) | exact decide_eq_true (by omega) | exact (decide_eq_false (by omega)).symm | exact (decide_eq_true (by omega)).symm | exact decide_eq_decide.2 (by omega))
    | (exfalso; omega)
    | (exfalso; simp only [Bool.not_eq_true', Bool.not_eq_false', decide_eq_true_eq, decide_eq_false_iff_not, Bool.not_false, Bool.not_true] at *; omega)
    | (exfalso; simp_all; first | done | omega)
set_option maxHeartbeats 2000000 in
theorem ac_channels (C : List Int) (n : Nat) (hn : C.length = n) (hb : n ≤ 9000000000000000000) (x : Bool) (hx : chOK C = x) : ACalls Tryz.prog 64 [.slice (some ⟨0, 0, none⟩) n n] [some ⟨List.map (Value.int .i64) C, false, 1⟩] (.bool x) [none] := by
  refine acalls_law Tryz.func64 rfl rfl rfl ?_
  repeat' first | intro h1 | refine st (h := ok_not_dec2 rfl) ?_ | refine st ?_ | refine stm ?_ | refine Ja ?_ | refine Jb ?_ | refine Jc ?_ | refine Jd ?_ | refine Je ?_ | refine Jf ?_ | refine Jg ?_ | refine Jh ?_ ?_ | refine Ji ?_ ?_ | refine Jj ?_ ?_ | refine run_nil ?_ | refine Jz ?_ | refine Jw ?_ | refine aw_block ?_ | refine Jq ?_ | refine Jr ?_ | refine Js ?_ | refine Jt ?_ | refine Ju ?_ ?_ | refine Jv ?_ ?_ | refine Jy ?_ | refine aw_exit ?_ | refine aw_ret ?_ | refine pp_ret ?_ | refine pp_normal ?_
  refine aw_loopg
    (S := fun y : Og => [(0, .slice (some ⟨0, 0, none⟩) n n), (5, .slice (some ⟨0, 0, none⟩) n n), (6, .int .i64 n), (7, .int .i64 y.i)])
    (B := fun _ : Og => [some ⟨List.map (Value.int .i64) C, false, 1⟩])
    (R := fun y : Og => y.i ≤ n ∧ chP C y.i)
    (μ := fun y : Og => n - y.i) ⟨0⟩ (fitsD [0]) ⟨Nat.zero_le _, chP_zero C⟩ ?_
  rintro ⟨i⟩ ⟨g1, g2⟩
  dsimp only at *
  by_cases hi : i < n
  · obtain ⟨q, hq⟩ : ∃ q, C[i]? = some q := ⟨_, List.getElem?_eq_getElem (by omega)⟩
    obtain ⟨z, hz⟩ : ∃ z, hasI (C.take i) q = z := ⟨_, rfl⟩
    have H := ac_containsI C (C.take i) i (by omega) rfl (by omega) q z hz
    have HC := ac_channel q
    by_cases hr : 0 ≤ q ∧ q < 16
    · cases z
      · have hs := chP_step g2 hq hr hz
        repeat' first | intro h1 | refine st (h := ok_not_dec2 rfl) ?_ | refine st (h := ok_load_mapE (f := Value.int .i64) i hq rfl rfl rfl (by omega)) ?_ | refine sdl (h := ok_load_mapE (f := Value.int .i64) i hq rfl rfl rfl (by omega)) ?_ | refine st ?_ | refine st_call (HC) ?_ | refine sd_call (HC) ?_ | refine stRW [0] H ?_ | refine sdRW [0] H ?_ | refine stm ?_ | refine Ja ?_ | refine Jb ?_ | refine Jc ?_ | refine Jd ?_ | refine Je ?_ | refine Jf ?_ | refine Jg ?_ | refine Jh ?_ ?_ | refine Ji ?_ ?_ | refine Jj ?_ ?_ | refine run_nil ?_ | refine Jz ?_ | refine Jw ?_ | refine aw_block ?_ | refine Jq ?_ | refine Jr ?_ | refine Js ?_ | refine Jt ?_ | refine Ju ?_ ?_ | refine Jv ?_ ?_ | refine Jy ?_ | refine aw_exit ?_ | refine aw_ret ?_ | refine pp_ret ?_ | refine pp_normal ?_
        all_goals first | exact Exists.intro ⟨i + 1⟩ ⟨fitsD [0], ⟨hi, hs⟩, by dsimp only; omega⟩ | (exfalso; omega)
      · obtain rfl : x = false := by rw [← hx]; exact chP_twice hq hz
        repeat' first | intro h1 | refine st (h := ok_not_dec2 rfl) ?_ | refine st (h := ok_load_mapE (f := Value.int .i64) i hq rfl rfl rfl (by omega)) ?_ | refine sdl (h := ok_load_mapE (f := Value.int .i64) i hq rfl rfl rfl (by omega)) ?_ | refine st ?_ | refine st_call (HC) ?_ | refine sd_call (HC) ?_ | refine stRW [0] H ?_ | refine sdRW [0] H ?_ | refine stm ?_ | refine Ja ?_ | refine Jb ?_ | refine Jc ?_ | refine Jd ?_ | refine Je ?_ | refine Jf ?_ | refine Jg ?_ | refine Jh ?_ ?_ | refine Ji ?_ ?_ | refine Jj ?_ ?_ | refine run_nil ?_ | refine Jz ?_ | refine Jw ?_ | refine aw_block ?_ | refine Jq ?_ | refine Jr ?_ | refine Js ?_ | refine Jt ?_ | refine Ju ?_ ?_ | refine Jv ?_ ?_ | refine Jy ?_ | refine aw_exit ?_ | refine aw_ret ?_ | refine pp_ret ?_ | refine pp_normal ?_
        all_goals first
          | rfl
          | (exfalso; omega)
          | (exfalso; simp only [Bool.not_eq_true', Bool.not_eq_false', decide_eq_true_eq, decide_eq_false_iff_not, Bool.not_false, Bool.not_true] at *; omega)
          | (exfalso; simp_all; first | done | omega)
    · obtain rfl : x = false := by rw [← hx]; exact chP_bad hq hr
      repeat' first | intro h1 | refine st (h := ok_not_dec2 rfl) ?_ | refine st (h := ok_load_mapE (f := Value.int .i64) i hq rfl rfl rfl (by omega)) ?_ | refine sdl (h := ok_load_mapE (f := Value.int .i64) i hq rfl rfl rfl (by omega)) ?_ | refine st ?_ | refine st_call (HC) ?_ | refine sd_call (HC) ?_ | refine stRW [0] H ?_ | refine sdRW [0] H ?_ | refine stm ?_ | refine Ja ?_ | refine Jb ?_ | refine Jc ?_ | refine Jd ?_ | refine Je ?_ | refine Jf ?_ | refine Jg ?_ | refine Jh ?_ ?_ | refine Ji ?_ ?_ | refine Jj ?_ ?_ | refine run_nil ?_ | refine Jz ?_ | refine Jw ?_ | refine aw_block ?_ | refine Jq ?_ | refine Jr ?_ | refine Js ?_ | refine Jt ?_ | refine Ju ?_ ?_ | refine Jv ?_ ?_ | refine Jy ?_ | refine aw_exit ?_ | refine aw_ret ?_ | refine pp_ret ?_ | refine pp_normal ?_
      all_goals first
        | rfl
        | (exfalso; omega)
        | (exfalso; simp only [Bool.not_eq_true', Bool.not_eq_false', decide_eq_true_eq, decide_eq_false_iff_not, Bool.not_false, Bool.not_true] at *; omega)
        | (exfalso; simp_all; first | done | omega)
  · obtain rfl : n = i := by omega
    rw [← hn] at g2
    by_cases h0 : n = 0
    · obtain rfl : C = [] := List.eq_nil_of_length_eq_zero (by omega)
      obtain rfl : x = false := by rw [← hx]; rfl
      repeat' first | intro h1 | refine st (h := ok_not_dec2 rfl) ?_ | refine st ?_ | refine stm ?_ | refine Ja ?_ | refine Jb ?_ | refine Jc ?_ | refine Jd ?_ | refine Je ?_ | refine Jf ?_ | refine Jg ?_ | refine Jh ?_ ?_ | refine Ji ?_ ?_ | refine Jj ?_ ?_ | refine run_nil ?_ | refine Jz ?_ | refine Jw ?_ | refine aw_block ?_ | refine Jq ?_ | refine Jr ?_ | refine Js ?_ | refine Jt ?_ | refine Ju ?_ ?_ | refine Jv ?_ ?_ | refine Jy ?_ | refine aw_exit ?_ | refine aw_ret ?_ | refine pp_ret ?_ | refine pp_normal ?_
      all_goals first
        | rfl
        | (show Value.bool _ = Value.bool _; congr 1; first | exact decide_eq_false (by omega) | exact decide_eq_true (by omega) | exact (decide_eq_false (by omega)).symm | exact (decide_eq_true (by omega)).symm | exact decide_eq_decide.2 (by omega))
        | (exfalso; omega)
        | (exfalso; simp only [Bool.not_eq_true', Bool.not_eq_false', decide_eq_true_eq, decide_eq_false_iff_not, Bool.not_false, Bool.not_true] at *; omega)
        | (exfalso; simp_all; first | done | omega)
    · obtain rfl : x = true := by rw [← hx]; exact chP_end g2 (by omega)
      repeat' first | intro h1 | refine st (h := ok_not_dec2 rfl) ?_ | refine st ?_ | refine stm ?_ | refine Ja ?_ | refine Jb ?_ | refine Jc ?_ | refine Jd ?_ | refine Je ?_ | refine Jf ?_ | refine Jg ?_ | refine Jh ?_ ?_ | refine Ji ?_ ?_ | refine Jj ?_ ?_ | refine run_nil ?_ | refine Jz ?_ | refine Jw ?_ | refine aw_block ?_ | refine Jq ?_ | refine Jr ?_ | refine Js ?_ | refine Jt ?_ | refine Ju ?_ ?_ | refine Jv ?_ ?_ | refine Jy ?_ | refine aw_exit ?_ | refine aw_ret ?_ | refine pp_ret ?_ | refine pp_normal ?_
      all_goals first
        | rfl
        | (show Value.bool _ = Value.bool _; congr 1; first | exact decide_eq_false (by omega) | exact decide_eq_true (by omega) | exact (decide_eq_false (by omega)).symm | exact (decide_eq_true (by omega)).symm | exact decide_eq_decide.2 (by omega))
        | (exfalso; omega)
        | (exfalso; simp only [Bool.not_eq_true', Bool.not_eq_false', decide_eq_true_eq, decide_eq_false_iff_not, Bool.not_false, Bool.not_true] at *; omega)
        | (exfalso; simp_all; first | done | omega)
end Go.Proofs.YtdenooeaiicheaaGreat
