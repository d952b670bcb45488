/- Lists of numbers, hopping lists: plain. Image: sizes and counts. Image: manifests checked. -/
import Derived.Test.YtekkdoaakilafaaVN
import Derived.Test.YtekkdoaakilafaaVI
import Derived.Test.YtekkdoaakilafaaJ
import Derived.Test.YtekkdoaakilafaaVJ
set_option linter.unusedVariables false
set_option linter.unusedSimpArgs false
namespace Go.Proofs.Ytekkdoaakilafaa
open Go Av
set_option maxRecDepth 20000
/-- The first element of a list where q holds, or -1. -/
def fidx {α : Type} (q : α → Bool) (l : List α) : Int := if l.findIdx q < l.length then (l.findIdx q : Int) else -1
theorem fidx_at {α : Type} {q : α → Bool} {l : List α} {i : Nat} {x : α} (h : l[i]? = some x) (hq : q x = true) (h0 : ∀ (j : Nat), j < i → ∀ y, l[j]? = some y → q y = false) : fidx q l = i := by
  obtain ⟨hi, hx⟩ := List.getElem?_eq_some_iff.1 h
  have : l.findIdx q = i := (List.findIdx_eq hi).2 ⟨by rw [hx]; exact hq, fun j hj => h0 j hj _ (List.getElem?_eq_getElem (by omega))⟩
  unfold fidx
  rw [this, if_pos hi]
theorem fidx_no {α : Type} {q : α → Bool} {l : List α} (h0 : ∀ (j : Nat), j < l.length → ∀ y, l[j]? = some y → q y = false) : fidx q l = -1 := by
  have : l.findIdx q = l.length := List.findIdx_eq_length.2 fun x hx => by
    obtain ⟨j, hj⟩ := List.mem_iff_getElem?.1 hx
    exact h0 j (List.getElem?_eq_some_iff.1 hj).1 x hj
  unfold fidx
  rw [this, if_neg (by omega)]
theorem fidx_pos {α : Type} {q : α → Bool} {l : List α} : 0 ≤ fidx q l ↔ ∃ x ∈ l, q x = true := by
  unfold fidx
  by_cases h : l.findIdx q < l.length
  · rw [if_pos h]
    exact ⟨fun _ => ⟨_, List.getElem_mem h, List.findIdx_getElem⟩, fun _ => by omega⟩
  · rw [if_neg h]
    refine ⟨fun h => by omega, fun ⟨x, hx, hq⟩ => ?_⟩
    exact absurd (List.findIdx_lt_length_of_exists ⟨x, hx, hq⟩) h
theorem fidx_ge {α : Type} {q : α → Bool} {l : List α} : -1 ≤ fidx q l ∧ fidx q l < l.length + 1 := by
  unfold fidx
  split <;> omega
theorem no_step {α : Type} {q : α → Bool} {l : List α} {i : Nat} {x : α} (h0 : ∀ (j : Nat), j < i → ∀ y, l[j]? = some y → q y = false) (h : l[i]? = some x) (hq : q x = false) : ∀ (j : Nat), j < i + 1 → ∀ y, l[j]? = some y → q y = false := fun j hj y hy => by
  rcases Nat.lt_or_ge j i with h1 | h1
  · exact h0 j h1 y hy
  · obtain rfl : j = i := by omega
    rw [h] at hy
    cases hy
    exact hq
/-- A list has a number. -/
def hasI (C : List Int) (c : Int) : Bool := decide (c ∈ C)
theorem hasI_pos (C : List Int) (c : Int) : decide (0 ≤ fidx (fun q => decide (q = c)) C) = hasI C c :=
  decide_eq_decide.2 (fidx_pos.trans ⟨fun ⟨x, h1, h2⟩ => (of_decide_eq_true h2) ▸ h1, fun h => ⟨c, h, decide_eq_true rfl⟩⟩)
theorem hasI_of {C : List Int} {c : Int} {i : Nat} (h : C[i]? = some c) : hasI C c = true := decide_eq_true (List.mem_of_getElem? h)
theorem hasI_not {C : List Int} {c : Int} (h0 : ∀ (j : Nat), j < C.length → ∀ y, C[j]? = some y → decide (y = c) = false) : hasI C c = false := decide_eq_false fun h => by
  obtain ⟨j, hj⟩ := List.mem_iff_getElem?.1 h
  have := h0 j (List.getElem?_eq_some_iff.1 hj).1 c hj
  simp at this
/-- 1 to 16 different channels. -/
def chOK (C : List Int) : Bool := decide (C ≠ [] ∧ (∀ c ∈ C, 0 ≤ c ∧ c < 16) ∧ C.Nodup)
def chP (C : List Int) (i : Nat) : Prop := (∀ c ∈ C.take i, 0 ≤ c ∧ c < 16) ∧ (C.take i).Nodup
theorem chP_zero (C : List Int) : chP C 0 := ⟨fun c h => by simp at h, by simp⟩
theorem chP_step {C : List Int} {i : Nat} {c : Int} (h : chP C i) (hc : C[i]? = some c) (h1 : 0 ≤ c ∧ c < 16) (h2 : hasI (C.take i) c = false) : chP C (i + 1) := by
  have e : C.take (i + 1) = C.take i ++ [c] := by rw [List.take_add_one, hc]; rfl
  have h2 : ¬ c ∈ C.take i := of_decide_eq_false h2
  unfold chP
  rw [e]
  refine ⟨fun x hx => ?_, ?_⟩
  · rcases List.mem_append.1 hx with hx | hx
    · exact h.1 x hx
    · rw [List.mem_singleton] at hx
      rw [hx]; exact h1
  · rw [List.nodup_append]
    refine ⟨h.2, by simp, fun a ha b hb => ?_⟩
    rw [List.mem_singleton] at hb
    rintro rfl
    exact h2 (hb ▸ ha)
theorem chP_end {C : List Int} (h : chP C C.length) (h0 : C.length ≠ 0) : chOK C = true := by
  unfold chP at h
  rw [List.take_length] at h
  exact decide_eq_true ⟨fun e => h0 (by rw [e]; rfl), h.1, h.2⟩
theorem chP_bad {C : List Int} {i : Nat} {c : Int} (hc : C[i]? = some c) (h : ¬ (0 ≤ c ∧ c < 16)) : chOK C = false := decide_eq_false fun h2 => h (h2.2.1 c (List.mem_of_getElem? hc))
theorem chP_twice {C : List Int} {i : Nat} {c : Int} (hc : C[i]? = some c) (h : hasI (C.take i) c = true) : chOK C = false := decide_eq_false fun ⟨_, _, h3⟩ => by
  have hi := (List.getElem?_eq_some_iff.1 hc).1
  have e : C.take (i + 1) = C.take i ++ [c] := by rw [List.take_add_one, hc]; rfl
  have h4 : (C.take (i + 1)).Nodup := h3.sublist (List.take_sublist _ _)
  rw [e, List.nodup_append] at h4
  exact h4.2.2 c (of_decide_eq_true h) c (by simp) rfl
theorem chOK_nil : chOK [] = false := rfl
theorem nodup_lt : ∀ (n : Nat) (C : List Int), C.Nodup → (∀ c ∈ C, 0 ≤ c ∧ c < n) → C.length ≤ n
  | 0, C, _, h => by
    cases C with
    | nil => exact Nat.le_refl _
    | cons a C => have := h a (by simp); omega
  | n + 1, C, hn, h => by
    have h1 := nodup_lt n (C.erase n) (hn.erase _) fun c hc => by
      have h2 := (hn.mem_erase_iff).1 hc
      have := h c h2.2
      have := h2.1
      omega
    rw [List.length_erase] at h1
    split at h1 <;> omega
theorem chOK_len {C : List Int} (h : chOK C = true) : 1 ≤ C.length ∧ C.length ≤ 16 ∧ ∀ c ∈ C, 0 ≤ c ∧ c < 16 := by
  obtain ⟨h1, h2, h3⟩ := of_decide_eq_true h
  exact ⟨by cases C; exact absurd rfl h1; simp, nodup_lt 16 C h3 h2, h2⟩
/-- The error of a hopping list. -/
def chkH (v f u : Int) (C : List Int) : Int := if v < 0 ∨ 255 < v ∨ f < 0 ∨ u ≤ f ∨ 109951163 < u ∨ chOK C = false then 1 else 0
theorem chkH_0 {v f u : Int} {C : List Int} (h : chkH v f u C = 0) : (0 ≤ v ∧ v ≤ 255) ∧ 0 ≤ f ∧ f < u ∧ u ≤ 109951163 ∧ chOK C = true := by
  unfold chkH at h
  by_cases hq : v < 0 ∨ 255 < v ∨ f < 0 ∨ u ≤ f ∨ 109951163 < u ∨ chOK C = false
  · rw [if_pos hq] at h; cases h
  · have : chOK C = true := by
      cases hc : chOK C
      · exact absurd (.inr (.inr (.inr (.inr (.inr hc))))) hq
      · rfl
    rw [this] at hq
    exact ⟨by omega, by omega, by omega, by omega, this⟩
theorem chkH_is {v f u : Int} {C : List Int} : chkH v f u C = 0 ∨ chkH v f u C = 1 := by
  unfold chkH
  split
  · exact .inr rfl
  · exact .inl rfl
theorem ok_not_dec2 {P : Program} {ρ : Operand → Option Value} {m : Mem} {d : Option Tmp} {t : TypeId} {pp : String} {af : Array Edge} {g : Option (Nat × Bool)} {tt x} {p : Prop} {i : Decidable p} (hx : ρ x = some (.bool (@decide p i))) : OpOK P ⟨d, .unOp .not tt x, t, pp, af, g⟩ ρ m (.bool (decide (¬ p))) m := ok_not_dec hx
structure Og where
  i : Nat
end Go.Proofs.Ytekkdoaakilafaa
namespace Go.Proofs.Ytekkdoaakilafaa
open Go Av
set_option maxRecDepth 20000
/-- A version and sizes are right. -/
def sizB (v pg pk : Int) : Bool := decide ((1 ≤ v ∧ v ≤ 65535) ∧ (1 ≤ pk ∧ pk ≤ 96) ∧ pk ≤ pg ∧ pg ≤ 4096 ∧ pg % pk = 0 ∧ pg ≤ 64 * pk)
theorem quo_64 {pg pk : Int} (h : 1 ≤ pk) : pg / pk ≤ 64 ↔ pg < 65 * pk := by
  have := Int.ediv_lt_iff_lt_mul (a := pg) (b := 65) (c := pk) (by omega)
  omega
theorem mod_64 {pg pk : Int} (h : 1 ≤ pk) (h0 : pg % pk = 0) : pg < 65 * pk ↔ pg ≤ 64 * pk := by
  have e := Int.mul_ediv_add_emod pg pk
  rw [h0, Int.add_zero] at e
  constructor
  · intro h1
    have h2 : pg / pk < 65 := by rw [Int.ediv_lt_iff_lt_mul (by omega)]; exact h1
    have := Int.mul_le_mul_of_nonneg_left (show pg / pk ≤ 64 by omega) (show 0 ≤ pk by omega)
    omega
  · intro h1; omega
set_option maxHeartbeats 2000000 in
theorem ac_sizes (v pg pk : Int) : ACalls Try.prog 78 [.int .i64 v, .int .i64 pg, .int .i64 pk] [] (.bool (sizB v pg pk)) [] := by
  unfold sizB
  obtain ⟨mm, hm⟩ : ∃ mm, pg % pk = mm := ⟨_, rfl⟩
  obtain ⟨qq, hq⟩ : ∃ qq, pg / pk = qq := ⟨_, rfl⟩
  have hqq : 1 ≤ pk → mm = 0 → (qq ≤ 64 ↔ pg ≤ 64 * pk) := fun h1 h2 => by rw [← hq, quo_64 h1]; exact mod_64 h1 (by rw [hm, h2])
  refine acalls_pure Try.func78 rfl rfl rfl ?_
  repeat' first | intro h1 | refine st (v := .int .i64 mm) (h := by (rw [← hm]; apply ok_rem_pos; rfl; rfl; omega)) ?_ | refine sd (v := .int .i64 mm) (h := by (rw [← hm]; apply ok_rem_pos; rfl; rfl; omega)) ?_ | refine st ?_ | refine Kc ?_ | refine Ka ?_ | refine Kb ?_ ?_ | fail
  all_goals rw [hm]
  all_goals clear hm hq
  all_goals first
    | rfl
    | (exfalso; omega)
    | (show Value.bool _ = Value.bool _; congr 1; first | exact decide_eq_false (by omega) | exact decide_eq_true (by omega) | exact (decide_eq_false (by omega)).symm | exact (decide_eq_true (by omega)).symm | exact decide_eq_decide.2 (by omega))
    | (show Value.bool _ = Value.bool _; congr 1; simp only [decide_eq_true_eq, decide_eq_false_iff_not, Bool.not_eq_true, Bool.not_eq_false] at *; first | exact decide_eq_false (by omega) | exact decide_eq_true (by omega) | exact (decide_eq_false (by omega)).symm | exact (decide_eq_true (by omega)).symm | exact decide_eq_decide.2 (by omega))
set_option maxHeartbeats 2000000 in
theorem ac_rsizes (v pg pk : Int) : ACalls Try.prog 101 [.int .i64 v, .int .i64 pg, .int .i64 pk] [] (.bool (sizB v pg pk)) [] := by
  unfold sizB
  obtain ⟨mm, hm⟩ : ∃ mm, pg % pk = mm := ⟨_, rfl⟩
  obtain ⟨qq, hq⟩ : ∃ qq, pg / pk = qq := ⟨_, rfl⟩
  have hqq : 1 ≤ pk → mm = 0 → (qq ≤ 64 ↔ pg ≤ 64 * pk) := fun h1 h2 => by rw [← hq, quo_64 h1]; exact mod_64 h1 (by rw [hm, h2])
  refine acalls_pure Try.func101 rfl rfl rfl ?_
  repeat' first | intro h1 | refine st (v := .int .i64 mm) (h := by (rw [← hm]; apply ok_rem_pos; rfl; rfl; omega)) ?_ | refine sd (v := .int .i64 mm) (h := by (rw [← hm]; apply ok_rem_pos; rfl; rfl; omega)) ?_ | refine st (v := .int .i64 qq) (h := by (rw [← hq]; apply ok_quo64; rfl; rfl; omega)) ?_ | refine sd (v := .int .i64 qq) (h := by (rw [← hq]; apply ok_quo64; rfl; rfl; omega)) ?_ | refine st ?_ | refine Kc ?_ | refine Ka ?_ | refine Kb ?_ ?_ | fail
  all_goals rw [hm]
  all_goals clear hm hq
  all_goals first
    | rfl
    | (exfalso; omega)
    | (show Value.bool _ = Value.bool _; congr 1; first | exact decide_eq_false (by omega) | exact decide_eq_true (by omega) | exact (decide_eq_false (by omega)).symm | exact (decide_eq_true (by omega)).symm | exact decide_eq_decide.2 (by omega))
    | (show Value.bool _ = Value.bool _; congr 1; simp only [decide_eq_true_eq, decide_eq_false_iff_not, Bool.not_eq_true, Bool.not_eq_false] at *; first | exact decide_eq_false (by omega) | exact decide_eq_true (by omega) | exact (decide_eq_false (by omega)).symm | exact (decide_eq_true (by omega)).symm | exact decide_eq_decide.2 (by omega))
theorem ac_count (n z x : Int) (hn : 0 ≤ n ∧ n ≤ 1000000) (hz : 1 ≤ z ∧ z ≤ 1000000) (hx : (n + z - 1) / z = x) : ACalls Try.prog 49 [.int .i64 n, .int .i64 z] [] (.int .i64 x) [] := by
  refine acalls_pure Try.func49 rfl rfl rfl ?_
  repeat' first | intro h1 | refine st (v := .int .i64 x) (h := by (rw [← hx]; apply ok_quo64; rfl; rfl; omega)) ?_ | refine sd (v := .int .i64 x) (h := by (rw [← hx]; apply ok_quo64; rfl; rfl; omega)) ?_ | refine st ?_ | refine Kc ?_ | refine Ka ?_ | refine Kb ?_ ?_ | fail
  all_goals first | rfl | (exfalso; omega)
theorem ac_parts (n z x : Int) (hn : 0 ≤ n ∧ n ≤ 1000000) (hz : 1 ≤ z ∧ z ≤ 1000000) (hx : (n + z - 1) / z = x) : ACalls Try.prog 99 [.int .i64 n, .int .i64 z] [] (.int .i64 x) [] := by
  refine acalls_pure Try.func99 rfl rfl rfl ?_
  repeat' first | intro h1 | refine st (v := .int .i64 x) (h := by (rw [← hx]; apply ok_quo64; rfl; rfl; omega)) ?_ | refine sd (v := .int .i64 x) (h := by (rw [← hx]; apply ok_quo64; rfl; rfl; omega)) ?_ | refine st ?_ | refine Kc ?_ | refine Ka ?_ | refine Kb ?_ ?_ | fail
  all_goals first | rfl | (exfalso; omega)
end Go.Proofs.Ytekkdoaakilafaa
namespace Go.Proofs.Ytekkdoaakilafaa
open Go Av
set_option maxRecDepth 20000
/-- The error of a manifest. -/
def chkM (v sz pg pk : Int) (L : List ByteArray) : Int := if sizB v pg pk = false ∨ sz < 1 ∨ 65536 < sz ∨ 64 < L.length ∨ (L.length : Int) ≠ (sz + pg - 1) / pg ∨ fidx (fun s : ByteArray => decide (s.size ≠ 32)) L ≠ -1 then 1 else 0
theorem siz_bd {v pg pk : Int} (h : sizB v pg pk = true) : (1 ≤ v ∧ v ≤ 65535) ∧ (1 ≤ pk ∧ pk ≤ 96) ∧ pk ≤ pg ∧ pg ≤ 4096 ∧ pg % pk = 0 ∧ pg ≤ 64 * pk := of_decide_eq_true h
theorem ac_chk1 (s : ByteArray) : ACalls Try.prog 86 [.string s] [] (.bool (decide (s.size ≠ 32))) [] := by
  refine acalls_pure Try.func86 rfl rfl rfl ?_
  repeat' first | intro h1 | refine st ?_ | refine Kc ?_ | refine Ka ?_ | refine Kb ?_ ?_ | fail
  all_goals first
    | rfl
    | (show Value.bool _ = Value.bool _; congr 1; first | exact decide_eq_false (by omega) | exact decide_eq_true (by omega) | exact (decide_eq_false (by omega)).symm | exact (decide_eq_true (by omega)).symm | exact decide_eq_decide.2 (by omega))
    | (exfalso; omega)
    | (exfalso; simp only [Bool.not_eq_true', Bool.not_eq_false', decide_eq_true_eq, decide_eq_false_iff_not, Bool.not_false, Bool.not_true] at *; omega)
    | (exfalso; simp_all; first | done | omega)
set_option maxHeartbeats 1000000 in
theorem ac_ifn (L : List ByteArray) (n : Nat) (hn : L.length = n) (hb : n ≤ 9000000000000000000) (x : Int) (hx : fidx (fun s : ByteArray => decide (s.size ≠ 32)) L = x) : ACalls Try.prog 105 [.slice (some ⟨0, 0, none⟩) n n, .func (.func 86) #[] #[]] [some ⟨List.map Value.string L, false, 1⟩] (.int .i64 x) [none] := by
  refine acalls_law Try.func105 rfl rfl rfl ?_
  repeat' first | intro h1 | refine st ?_ | refine Kc ?_ | refine Ka ?_ | refine Kb ?_ ?_ | fail
  refine aw_loopg
    (S := fun y : Og => [(0, .slice (some ⟨0, 0, none⟩) n n), (1, .func (.func 86) #[] #[]), (6, .slice (some ⟨0, 0, none⟩) n n), (7, .int .i64 n), (8, .int .i64 y.i)])
    (B := fun _ : Og => [some ⟨List.map Value.string L, false, 1⟩])
    (R := fun y : Og => y.i ≤ n ∧ ∀ (j : Nat), j < y.i → ∀ q, L[j]? = some q → (fun s : ByteArray => decide (s.size ≠ 32)) q = false)
    (μ := fun y : Og => n - y.i) ⟨0⟩ (fitsD [0]) ⟨Nat.zero_le _, fun j hj => absurd hj (Nat.not_lt_zero _)⟩ ?_
  rintro ⟨i⟩ ⟨g1, g2⟩
  dsimp only at *
  by_cases hi : i < n
  · obtain ⟨q, hq⟩ : ∃ q, L[i]? = some q := ⟨_, List.getElem?_eq_getElem (by omega)⟩
    have H := ac_chk1 q
    by_cases heq : q.size ≠ 32
    · obtain rfl : x = i := by rw [← hx]; exact fidx_at (q := fun s : ByteArray => decide (s.size ≠ 32)) hq (decide_eq_true heq) g2
      repeat' first | intro h1 | refine st (h := ok_load_mapE (f := Value.string) i hq rfl rfl rfl (by omega)) ?_ | refine st ?_ | refine st_call (H) ?_ | refine sd_call (H) ?_ | refine Kc ?_ | refine Ka ?_ | refine Kb ?_ ?_ | fail
      all_goals first
        | rfl
        | (exfalso; omega)
        | (exfalso; simp only [Bool.not_eq_true', Bool.not_eq_false', decide_eq_true_eq, decide_eq_false_iff_not, Bool.not_false, Bool.not_true] at *; omega)
        | (exfalso; simp_all; first | done | omega)
    · have hst := no_step (q := fun s : ByteArray => decide (s.size ≠ 32)) g2 hq (decide_eq_false heq)
      repeat' first | intro h1 | refine st (h := ok_load_mapE (f := Value.string) i hq rfl rfl rfl (by omega)) ?_ | refine st ?_ | refine st_call (H) ?_ | refine sd_call (H) ?_ | refine Kc ?_ | refine Ka ?_ | refine Kb ?_ ?_ | fail
      all_goals first | exact Exists.intro ⟨i + 1⟩ ⟨fitsD [0], ⟨hi, hst⟩, by dsimp only; omega⟩ | (exfalso; omega)
  · obtain rfl : i = n := by omega
    obtain rfl : x = -1 := by rw [← hx]; exact fidx_no (by rw [hn]; exact g2)
    repeat' first | intro h1 | refine st ?_ | refine Kc ?_ | refine Ka ?_ | refine Kb ?_ ?_ | fail
    all_goals first
      | rfl
      | (exfalso; omega)
      | (exfalso; simp only [Bool.not_eq_true', Bool.not_eq_false', decide_eq_true_eq, decide_eq_false_iff_not, Bool.not_false, Bool.not_true] at *; omega)
      | (exfalso; simp_all; first | done | omega)
theorem ac_cfn (L : List ByteArray) (n : Nat) (hn : L.length = n) (hb : n ≤ 9000000000000000000) (x : Bool) (hx : decide (fidx (fun s : ByteArray => decide (s.size ≠ 32)) L ≠ -1) = x) : ACalls Try.prog 85 [.slice (some ⟨0, 0, none⟩) n n, .func (.func 86) #[] #[]] [some ⟨List.map Value.string L, false, 1⟩] (.bool x) [none] := by
  obtain ⟨z, hz⟩ : ∃ z, fidx (fun s : ByteArray => decide (s.size ≠ 32)) L = z := ⟨_, rfl⟩
  have H := ac_ifn L n hn hb z hz
  have hge := (fidx_ge (q := fun s : ByteArray => decide (s.size ≠ 32)) (l := L)).1
  rw [hz] at hx hge
  refine acalls_law Try.func85 rfl rfl rfl ?_
  repeat' first | intro h1 | refine st ?_ | refine stRW [0] H ?_ | refine sdRW [0] H ?_ | refine Kc ?_ | refine Ka ?_ | refine Kb ?_ ?_ | fail
  all_goals first | (rw [← hx]; exact congrArg Value.bool (decide_eq_decide.2 (by omega))) | (exfalso; omega)
set_option maxHeartbeats 4000000 in
theorem ac_mcheck (v sz pg pk : Int) (L : List ByteArray) (n : Nat) (hn : L.length = n) (hb : n ≤ 9000000000000000000) (x : Int) (hx : chkM v sz pg pk L = x) : ACalls Try.prog 45 [.agg #[.int .i64 v, .int .i64 sz, .int .i64 pg, .int .i64 pk, .slice (some ⟨0, 0, none⟩) n n]] [some ⟨List.map Value.string L, false, 1⟩] (.int .i64 x) [none] := by
  unfold chkM at hx
  rw [hn] at hx
  obtain ⟨y, hy⟩ : ∃ y, sizB v pg pk = y := ⟨_, rfl⟩
  obtain ⟨z, hz⟩ : ∃ z, decide (fidx (fun s : ByteArray => decide (s.size ≠ 32)) L ≠ -1) = z := ⟨_, rfl⟩
  obtain ⟨c, hc⟩ : ∃ c, (sz + pg - 1) / pg = c := ⟨_, rfl⟩
  have H1 := ac_sizes v pg pk
  have H3 := ac_cfn L n hn hb z hz
  rw [hy] at H1 hx
  rw [hc] at hx
  have hz' : fidx (fun s : ByteArray => decide (s.size ≠ 32)) L ≠ -1 ↔ z = true := by rw [← hz, decide_eq_true_eq]
  clear hz
  cases y
  · obtain rfl : x = 1 := by rw [← hx]; exact if_pos (.inl rfl)
    clear hx hz'
    refine acalls_law Try.func45 rfl rfl rfl ?_
    repeat' first | intro h1 | refine st (h := ok_not_dec2 rfl) ?_ | refine sd (h := ok_not_dec2 rfl) ?_ | refine st ?_ | refine st_call (H1) ?_ | refine sd_call (H1) ?_ | refine stRW [0] H3 ?_ | refine sdRW [0] H3 ?_ | refine Kc ?_ | refine Ka ?_ | refine Kb ?_ ?_ | refine Jx (id := 1) [0,1,0,4,0,16,63,127,255,511,1023,2047,4095,8191,16383,32767,65535,131071,262143,524287,1048575,2097151,4194303,8388607,16777215,33554431,67108863,134217727,33554431,301989887,33554431,1107296255,4060086271,8589934591,17179869183] 35 ?_ | fail
    all_goals first
      | rfl
      | (exfalso; omega)
      | (exfalso; simp only [Bool.not_eq_true', Bool.not_eq_false', decide_eq_true_eq, decide_eq_false_iff_not, Bool.not_false, Bool.not_true] at *; omega)
      | (exfalso; simp_all; first | done | omega)
  · have hbd := siz_bd hy
    by_cases h1 : sz < 1 ∨ 65536 < sz
    · obtain rfl : x = 1 := by
        rw [← hx]
        refine if_pos ?_
        rcases h1 with h | h
        · exact .inr (.inl h)
        · exact .inr (.inr (.inl h))
      clear hx hz'
      refine acalls_law Try.func45 rfl rfl rfl ?_
      repeat' first | intro h1 | refine st (h := ok_not_dec2 rfl) ?_ | refine sd (h := ok_not_dec2 rfl) ?_ | refine st ?_ | refine st_call (H1) ?_ | refine sd_call (H1) ?_ | refine stRW [0] H3 ?_ | refine sdRW [0] H3 ?_ | refine Kc ?_ | refine Ka ?_ | refine Kb ?_ ?_ | refine Jx (id := 1) [0,1,0,4,0,16,63,127,255,511,1023,2047,4095,8191,16383,32767,65535,131071,262143,524287,1048575,2097151,4194303,8388607,16777215,33554431,67108863,134217727,33554431,301989887,33554431,1107296255,4060086271,8589934591,17179869183] 35 ?_ | fail
      all_goals first
        | rfl
        | (exfalso; omega)
        | (exfalso; simp only [Bool.not_eq_true', Bool.not_eq_false', decide_eq_true_eq, decide_eq_false_iff_not, Bool.not_false, Bool.not_true] at *; omega)
        | (exfalso; simp_all; first | done | omega)
    · have H2 := ac_count sz pg c (by omega) (by omega) hc
      by_cases h2 : 64 < n ∨ (n : Int) ≠ c
      · obtain rfl : x = 1 := by
          rw [← hx]
          refine if_pos ?_
          rcases h2 with h | h
          · exact .inr (.inr (.inr (.inl h)))
          · exact .inr (.inr (.inr (.inr (.inl h))))
        clear hx hz'
        refine acalls_law Try.func45 rfl rfl rfl ?_
        repeat' first | intro h1 | refine st (h := ok_not_dec2 rfl) ?_ | refine sd (h := ok_not_dec2 rfl) ?_ | refine st ?_ | refine st_call (H1) ?_ | refine st_call (H2) ?_ | refine sd_call (H1) ?_ | refine sd_call (H2) ?_ | refine stRW [0] H3 ?_ | refine sdRW [0] H3 ?_ | refine Kc ?_ | refine Ka ?_ | refine Kb ?_ ?_ | refine Jx (id := 1) [0,1,0,4,0,16,63,127,255,511,1023,2047,4095,8191,16383,32767,65535,131071,262143,524287,1048575,2097151,4194303,8388607,16777215,33554431,67108863,134217727,33554431,301989887,33554431,1107296255,4060086271,8589934591,17179869183] 35 ?_ | fail
        all_goals first
          | rfl
          | (exfalso; omega)
          | (exfalso; simp only [Bool.not_eq_true', Bool.not_eq_false', decide_eq_true_eq, decide_eq_false_iff_not, Bool.not_false, Bool.not_true] at *; omega)
          | (exfalso; simp_all; first | done | omega)
      · cases z
        · obtain rfl : x = 0 := by
            rw [← hx]
            refine if_neg ?_
            rintro (h | h | h | h | h | h)
            · cases h
            · omega
            · omega
            · omega
            · omega
            · exact absurd (hz'.1 h) (by simp)
          clear hx hz'
          refine acalls_law Try.func45 rfl rfl rfl ?_
          repeat' first | intro h1 | refine st (h := ok_not_dec2 rfl) ?_ | refine sd (h := ok_not_dec2 rfl) ?_ | refine st ?_ | refine st_call (H1) ?_ | refine st_call (H2) ?_ | refine sd_call (H1) ?_ | refine sd_call (H2) ?_ | refine stRW [0] H3 ?_ | refine sdRW [0] H3 ?_ | refine Kc ?_ | refine Ka ?_ | refine Kb ?_ ?_ | refine Jx (id := 1) [0,1,0,4,0,16,63,127,255,511,1023,2047,4095,8191,16383,32767,65535,131071,262143,524287,1048575,2097151,4194303,8388607,16777215,33554431,67108863,134217727,33554431,301989887,33554431,1107296255,4060086271,8589934591,17179869183] 35 ?_ | fail
          all_goals first
            | rfl
            | (exfalso; omega)
            | (exfalso; simp only [Bool.not_eq_true', Bool.not_eq_false', decide_eq_true_eq, decide_eq_false_iff_not, Bool.not_false, Bool.not_true] at *; omega)
            | (exfalso; simp_all; first | done | omega)
        · obtain rfl : x = 1 := by rw [← hx]; exact if_pos (.inr (.inr (.inr (.inr (.inr (hz'.2 rfl))))))
          clear hx hz'
          refine acalls_law Try.func45 rfl rfl rfl ?_
          repeat' first | intro h1 | refine st (h := ok_not_dec2 rfl) ?_ | refine sd (h := ok_not_dec2 rfl) ?_ | refine st ?_ | refine st_call (H1) ?_ | refine st_call (H2) ?_ | refine sd_call (H1) ?_ | refine sd_call (H2) ?_ | refine stRW [0] H3 ?_ | refine sdRW [0] H3 ?_ | refine Kc ?_ | refine Ka ?_ | refine Kb ?_ ?_ | refine Jx (id := 1) [0,1,0,4,0,16,63,127,255,511,1023,2047,4095,8191,16383,32767,65535,131071,262143,524287,1048575,2097151,4194303,8388607,16777215,33554431,67108863,134217727,33554431,301989887,33554431,1107296255,4060086271,8589934591,17179869183] 35 ?_ | fail
          all_goals first
            | rfl
            | (exfalso; omega)
            | (exfalso; simp only [Bool.not_eq_true', Bool.not_eq_false', decide_eq_true_eq, decide_eq_false_iff_not, Bool.not_false, Bool.not_true] at *; omega)
            | (exfalso; simp_all; first | done | omega)
end Go.Proofs.Ytekkdoaakilafaa
