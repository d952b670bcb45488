/- Lists of numbers, hopping lists: plain. Image: sizes and counts. Image: manifests checked. Image: numbers, digests of pages. -/
import Derived.Test.YtjofcjogbopkjaaGreatVL
import Derived.Test.YtjofcjogbopkjaaGreatVI
import Derived.Test.YtjofcjogbopkjaaGreatJ
import Derived.Test.YtjofcjogbopkjaaGreatVJ
import Derived.Test.YtjofcjogbopkjaaGreatNB
import Derived.Test.YtjofcjogbopkjaaGreatD10
set_option linter.unusedVariables false
set_option linter.unusedSimpArgs false
namespace Go.Proofs.YtjofcjogbopkjaaGreat
open Go Av
set_option maxRecDepth 20000
/-- The first element of a list where q holds, or -1. -/
def fidx {α : Type} (q : α → Bool) (l : List α) : Int := if l.findIdx q < l.length then (l.findIdx q : Int) else -1
theorem fidx_at {α : Type} {q : α → Bool} {l : List α} {i : Nat} {x : α} (h : l[i]? = some x) (hq : q x = true) (h0 : ∀ (j : Nat), j < i → ∀ y, l[j]? = some y → q y = false) : fidx q l = i := by
  obtain ⟨hi, hx⟩ := List.getElem?_eq_some_iff.1 h
  have : l.findIdx q = i := (List.findIdx_eq hi).2 ⟨by rw [hx]; exact hq, fun j hj => h0 j hj _ (List.getElem?_eq_getElem (by omega))⟩
  unfold fidx
  rw [this, if_pos hi]
theorem fidx_no {α : Type} {q : α → Bool} {l : List α} (h0 : ∀ (j : Nat), j < l.length → ∀ y, l[j]? = some y → q y = false) : fidx q l = -1 := by
  have : l.findIdx q = l.length := List.findIdx_eq_length.2 fun x hx => by
    obtain ⟨j, hj⟩ := List.mem_iff_getElem?.1 hx
    exact h0 j (List.getElem?_eq_some_iff.1 hj).1 x hj
  unfold fidx
  rw [this, if_neg (by omega)]
theorem fidx_pos {α : Type} {q : α → Bool} {l : List α} : 0 ≤ fidx q l ↔ ∃ x ∈ l, q x = true := by
  unfold fidx
  by_cases h : l.findIdx q < l.length
  · rw [if_pos h]
    exact ⟨fun _ => ⟨_, List.getElem_mem h, List.findIdx_getElem⟩, fun _ => by omega⟩
  · rw [if_neg h]
    refine ⟨fun h => by omega, fun ⟨x, hx, hq⟩ => ?_⟩
    exact absurd (List.findIdx_lt_length_of_exists ⟨x, hx, hq⟩) h
theorem fidx_ge {α : Type} {q : α → Bool} {l : List α} : -1 ≤ fidx q l ∧ fidx q l < l.length + 1 := by
  unfold fidx
  split <;> omega
theorem no_step {α : Type} {q : α → Bool} {l : List α} {i : Nat} {x : α} (h0 : ∀ (j : Nat), j < i → ∀ y, l[j]? = some y → q y = false) (h : l[i]? = some x) (hq : q x = false) : ∀ (j : Nat), j < i + 1 → ∀ y, l[j]? = some y → q y = false := fun j hj y hy => by
  rcases Nat.lt_or_ge j i with h1 | h1
  · exact h0 j h1 y hy
  · obtain rfl : j = i := by omega
    rw [h] at hy
    cases hy
    exact hq
/-- A list has a number. -/
def hasI (C : List Int) (c : Int) : Bool := decide (c ∈ C)
theorem hasI_pos (C : List Int) (c : Int) : decide (0 ≤ fidx (fun q => decide (q = c)) C) = hasI C c :=
  decide_eq_decide.2 (fidx_pos.trans ⟨fun ⟨x, h1, h2⟩ => (of_decide_eq_true h2) ▸ h1, fun h => ⟨c, h, decide_eq_true rfl⟩⟩)
theorem hasI_of {C : List Int} {c : Int} {i : Nat} (h : C[i]? = some c) : hasI C c = true := decide_eq_true (List.mem_of_getElem? h)
theorem hasI_not {C : List Int} {c : Int} (h0 : ∀ (j : Nat), j < C.length → ∀ y, C[j]? = some y → decide (y = c) = false) : hasI C c = false := decide_eq_false fun h => by
  obtain ⟨j, hj⟩ := List.mem_iff_getElem?.1 h
  have := h0 j (List.getElem?_eq_some_iff.1 hj).1 c hj
  simp at this
/-- 1 to 16 different channels. -/
def chOK (C : List Int) : Bool := decide (C ≠ [] ∧ (∀ c ∈ C, 0 ≤ c ∧ c < 16) ∧ C.Nodup)
def chP (C : List Int) (i : Nat) : Prop := (∀ c ∈ C.take i, 0 ≤ c ∧ c < 16) ∧ (C.take i).Nodup
theorem chP_zero (C : List Int) : chP C 0 := ⟨fun c h => by simp at h, by simp⟩
theorem chP_step {C : List Int} {i : Nat} {c : Int} (h : chP C i) (hc : C[i]? = some c) (h1 : 0 ≤ c ∧ c < 16) (h2 : hasI (C.take i) c = false) : chP C (i + 1) := by
  have e : C.take (i + 1) = C.take i ++ [c] := by rw [List.take_add_one, hc]; rfl
  have h2 : ¬ c ∈ C.take i := of_decide_eq_false h2
  unfold chP
  rw [e]
  refine ⟨fun x hx => ?_, ?_⟩
  · rcases List.mem_append.1 hx with hx | hx
    · exact h.1 x hx
    · rw [List.mem_singleton] at hx
      rw [hx]; exact h1
  · rw [List.nodup_append]
    refine ⟨h.2, by simp, fun a ha b hb => ?_⟩
    rw [List.mem_singleton] at hb
    rintro rfl
    exact h2 (hb ▸ ha)
theorem chP_end {C : List Int} (h : chP C C.length) (h0 : C.length ≠ 0) : chOK C = true := by
  unfold chP at h
  rw [List.take_length] at h
  exact decide_eq_true ⟨fun e => h0 (by rw [e]; rfl), h.1, h.2⟩
theorem chP_bad {C : List Int} {i : Nat} {c : Int} (hc : C[i]? = some c) (h : ¬ (0 ≤ c ∧ c < 16)) : chOK C = false := decide_eq_false fun h2 => h (h2.2.1 c (List.mem_of_getElem? hc))
theorem chP_twice {C : List Int} {i : Nat} {c : Int} (hc : C[i]? = some c) (h : hasI (C.take i) c = true) : chOK C = false := decide_eq_false fun ⟨_, _, h3⟩ => by
  have hi := (List.getElem?_eq_some_iff.1 hc).1
  have e : C.take (i + 1) = C.take i ++ [c] := by rw [List.take_add_one, hc]; rfl
  have h4 : (C.take (i + 1)).Nodup := h3.sublist (List.take_sublist _ _)
  rw [e, List.nodup_append] at h4
  exact h4.2.2 c (of_decide_eq_true h) c (by simp) rfl
theorem chOK_nil : chOK [] = false := rfl
theorem nodup_lt : ∀ (n : Nat) (C : List Int), C.Nodup → (∀ c ∈ C, 0 ≤ c ∧ c < n) → C.length ≤ n
  | 0, C, _, h => by
    cases C with
    | nil => exact Nat.le_refl _
    | cons a C => have := h a (by simp); omega
  | n + 1, C, hn, h => by
    have h1 := nodup_lt n (C.erase n) (hn.erase _) fun c hc => by
      have h2 := (hn.mem_erase_iff).1 hc
      have := h c h2.2
      have := h2.1
      omega
    rw [List.length_erase] at h1
    split at h1 <;> omega
theorem chOK_len {C : List Int} (h : chOK C = true) : 1 ≤ C.length ∧ C.length ≤ 16 ∧ ∀ c ∈ C, 0 ≤ c ∧ c < 16 := by
  obtain ⟨h1, h2, h3⟩ := of_decide_eq_true h
  exact ⟨by cases C; exact absurd rfl h1; simp, nodup_lt 16 C h3 h2, h2⟩
/-- The error of a hopping list. -/
def chkH (v f u : Int) (C : List Int) : Int := if v < 0 ∨ 255 < v ∨ f < 0 ∨ u ≤ f ∨ 109951163 < u ∨ chOK C = false then 1 else 0
theorem chkH_0 {v f u : Int} {C : List Int} (h : chkH v f u C = 0) : (0 ≤ v ∧ v ≤ 255) ∧ 0 ≤ f ∧ f < u ∧ u ≤ 109951163 ∧ chOK C = true := by
  unfold chkH at h
  by_cases hq : v < 0 ∨ 255 < v ∨ f < 0 ∨ u ≤ f ∨ 109951163 < u ∨ chOK C = false
  · rw [if_pos hq] at h; cases h
  · have : chOK C = true := by
      cases hc : chOK C
      · exact absurd (.inr (.inr (.inr (.inr (.inr hc))))) hq
      · rfl
    rw [this] at hq
    exact ⟨by omega, by omega, by omega, by omega, this⟩
theorem chkH_is {v f u : Int} {C : List Int} : chkH v f u C = 0 ∨ chkH v f u C = 1 := by
  unfold chkH
  split
  · exact .inr rfl
  · exact .inl rfl
theorem ok_not_dec2 {P : Program} {ρ : Operand → Option Value} {m : Mem} {d : Option Tmp} {t : TypeId} {pp : String} {af : Array Edge} {g : Option (Nat × Bool)} {tt x} {p : Prop} {i : Decidable p} (hx : ρ x = some (.bool (@decide p i))) : OpOK P ⟨d, .unOp .not tt x, t, pp, af, g⟩ ρ m (.bool (decide (¬ p))) m := ok_not_dec hx
structure Og where
  i : Nat
end Go.Proofs.YtjofcjogbopkjaaGreat
namespace Go.Proofs.YtjofcjogbopkjaaGreat
open Go Av
set_option maxRecDepth 20000
/-- A version and sizes are right. -/
def sizB (v pg pk : Int) : Bool := decide ((1 ≤ v ∧ v ≤ 65535) ∧ (1 ≤ pk ∧ pk ≤ 96) ∧ pk ≤ pg ∧ pg ≤ 4096 ∧ pg % pk = 0 ∧ pg ≤ 64 * pk)
theorem quo_64 {pg pk : Int} (h : 1 ≤ pk) : pg / pk ≤ 64 ↔ pg < 65 * pk := by
  have := Int.ediv_lt_iff_lt_mul (a := pg) (b := 65) (c := pk) (by omega)
  omega
theorem mod_64 {pg pk : Int} (h : 1 ≤ pk) (h0 : pg % pk = 0) : pg < 65 * pk ↔ pg ≤ 64 * pk := by
  have e := Int.mul_ediv_add_emod pg pk
  rw [h0, Int.add_zero] at e
  constructor
  · intro h1
    have h2 : pg / pk < 65 := by rw [Int.ediv_lt_iff_lt_mul (by omega)]; exact h1
    have := Int.mul_le_mul_of_nonneg_left (show pg / pk ≤ 64 by omega) (show 0 ≤ pk by omega)
    omega
  · intro h1; omega
set_option maxHeartbeats 2000000 in
theorem ac_sizes (v pg pk : Int) : ACalls Tryz.prog 48 [.int .i64 v, .int .i64 pg, .int .i64 pk] [] (.bool (sizB v pg pk)) [] := by
  unfold sizB
  obtain ⟨mm, hm⟩ : ∃ mm, pg % pk = mm := ⟨_, rfl⟩
  obtain ⟨qq, hq⟩ : ∃ qq, pg / pk = qq := ⟨_, rfl⟩
  have hqq : 1 ≤ pk → mm = 0 → (qq ≤ 64 ↔ pg ≤ 64 * pk) := fun h1 h2 => by rw [← hq, quo_64 h1]; exact mod_64 h1 (by rw [hm, h2])
  refine acalls_pure Tryz.func48 rfl rfl rfl ?_
  repeat' first | intro h1 | refine st (v := .int .i64 mm) (h := by (rw [← hm]; apply ok_rem_pos; rfl; rfl; omega)) ?_ | refine st ?_ | refine Ja ?_ | refine Jb ?_ | refine Jh ?_ ?_ | refine Ji ?_ ?_ | refine run_nil ?_ | refine Jz ?_ | refine Jw ?_ | refine Jq ?_ | refine Ju ?_ ?_ | refine Jy ?_ | refine aw_ret ?_ | refine pp_ret ?_
  all_goals rw [hm]
  all_goals clear hm hq
  all_goals first
    | rfl
    | (exfalso; omega)
    | (show Value.bool _ = Value.bool _; congr 1; first | exact decide_eq_false (by omega) | exact decide_eq_true (by omega) | exact (decide_eq_false (by omega)).symm | exact (decide_eq_true (by omega)).symm | exact decide_eq_decide.2 (by omega))
    | (show Value.bool _ = Value.bool _; congr 1; simp only [decide_eq_true_eq, decide_eq_false_iff_not, Bool.not_eq_true, Bool.not_eq_false] at *; first | exact decide_eq_false (by omega) | exact decide_eq_true (by omega) | exact (decide_eq_false (by omega)).symm | exact (decide_eq_true (by omega)).symm | exact decide_eq_decide.2 (by omega))
set_option maxHeartbeats 2000000 in
theorem ac_rsizes (v pg pk : Int) : ACalls Tryz.prog 88 [.int .i64 v, .int .i64 pg, .int .i64 pk] [] (.bool (sizB v pg pk)) [] := by
  unfold sizB
  obtain ⟨mm, hm⟩ : ∃ mm, pg % pk = mm := ⟨_, rfl⟩
  obtain ⟨qq, hq⟩ : ∃ qq, pg / pk = qq := ⟨_, rfl⟩
  have hqq : 1 ≤ pk → mm = 0 → (qq ≤ 64 ↔ pg ≤ 64 * pk) := fun h1 h2 => by rw [← hq, quo_64 h1]; exact mod_64 h1 (by rw [hm, h2])
  refine acalls_pure Tryz.func88 rfl rfl rfl ?_
  repeat' first | intro h1 | refine st (v := .int .i64 mm) (h := by (rw [← hm]; apply ok_rem_pos; rfl; rfl; omega)) ?_ | refine st (v := .int .i64 qq) (h := by (rw [← hq]; apply ok_quo64; rfl; rfl; omega)) ?_ | refine st ?_ | refine Ja ?_ | refine Jb ?_ | refine Jh ?_ ?_ | refine run_nil ?_ | refine Jz ?_ | refine Jw ?_ | refine aw_ret ?_ | refine pp_ret ?_
  all_goals rw [hm]
  all_goals clear hm hq
  all_goals first
    | rfl
    | (exfalso; omega)
    | (show Value.bool _ = Value.bool _; congr 1; first | exact decide_eq_false (by omega) | exact decide_eq_true (by omega) | exact (decide_eq_false (by omega)).symm | exact (decide_eq_true (by omega)).symm | exact decide_eq_decide.2 (by omega))
    | (show Value.bool _ = Value.bool _; congr 1; simp only [decide_eq_true_eq, decide_eq_false_iff_not, Bool.not_eq_true, Bool.not_eq_false] at *; first | exact decide_eq_false (by omega) | exact decide_eq_true (by omega) | exact (decide_eq_false (by omega)).symm | exact (decide_eq_true (by omega)).symm | exact decide_eq_decide.2 (by omega))
theorem ac_count (n z x : Int) (hn : 0 ≤ n ∧ n ≤ 1000000) (hz : 1 ≤ z ∧ z ≤ 1000000) (hx : (n + z - 1) / z = x) : ACalls Tryz.prog 49 [.int .i64 n, .int .i64 z] [] (.int .i64 x) [] := by
  refine acalls_pure Tryz.func49 rfl rfl rfl ?_
  repeat' first | refine st (v := .int .i64 x) (h := by (rw [← hx]; apply ok_quo64; rfl; rfl; omega)) ?_ | refine st ?_ | refine run_nil ?_ | refine Jz ?_ | refine Jw ?_ | refine aw_ret ?_ | refine pp_ret ?_
  all_goals first | rfl
theorem ac_parts (n z x : Int) (hn : 0 ≤ n ∧ n ≤ 1000000) (hz : 1 ≤ z ∧ z ≤ 1000000) (hx : (n + z - 1) / z = x) : ACalls Tryz.prog 89 [.int .i64 n, .int .i64 z] [] (.int .i64 x) [] := by
  refine acalls_pure Tryz.func89 rfl rfl rfl ?_
  repeat' first | refine st (v := .int .i64 x) (h := by (rw [← hx]; apply ok_quo64; rfl; rfl; omega)) ?_ | refine st ?_ | refine run_nil ?_ | refine Jz ?_ | refine Jw ?_ | refine aw_ret ?_ | refine pp_ret ?_
  all_goals first | rfl
end Go.Proofs.YtjofcjogbopkjaaGreat
namespace Go.Proofs.YtjofcjogbopkjaaGreat
open Go Av
set_option maxRecDepth 20000
/-- The error of a manifest. -/
def chkM (v sz pg pk : Int) (L : List ByteArray) : Int := if sizB v pg pk = false ∨ sz < 1 ∨ 65536 < sz ∨ 64 < L.length ∨ (L.length : Int) ≠ (sz + pg - 1) / pg ∨ fidx (fun s : ByteArray => decide (s.size ≠ 32)) L ≠ -1 then 1 else 0
theorem siz_bd {v pg pk : Int} (h : sizB v pg pk = true) : (1 ≤ v ∧ v ≤ 65535) ∧ (1 ≤ pk ∧ pk ≤ 96) ∧ pk ≤ pg ∧ pg ≤ 4096 ∧ pg % pk = 0 ∧ pg ≤ 64 * pk := of_decide_eq_true h
theorem ac_chk1 (s : ByteArray) : ACalls Tryz.prog 81 [.string s] [] (.bool (decide (s.size ≠ 32))) [] := by
  refine acalls_pure Tryz.func81 rfl rfl rfl ?_
  repeat' first | refine st ?_ | refine run_nil ?_ | refine Jz ?_ | refine Jw ?_ | refine aw_ret ?_ | refine pp_ret ?_
  all_goals first
    | rfl
    | (show Value.bool _ = Value.bool _; congr 1; first | exact decide_eq_false (by omega) | exact decide_eq_true (by omega) | exact (decide_eq_false (by omega)).symm | exact (decide_eq_true (by omega)).symm | exact decide_eq_decide.2 (by omega))
    | (exfalso; omega)
    | (exfalso; simp only [Bool.not_eq_true', Bool.not_eq_false', decide_eq_true_eq, decide_eq_false_iff_not, Bool.not_false, Bool.not_true] at *; omega)
    | (exfalso; simp_all; first | done | omega)
set_option maxHeartbeats 1000000 in
theorem ac_ifn (L : List ByteArray) (n : Nat) (hn : L.length = n) (hb : n ≤ 9000000000000000000) (x : Int) (hx : fidx (fun s : ByteArray => decide (s.size ≠ 32)) L = x) : ACalls Tryz.prog 94 [.slice (some ⟨0, 0, none⟩) n n, .func (.func 81) #[] #[]] [some ⟨List.map Value.string L, false, 1⟩] (.int .i64 x) [none] := by
  refine acalls_law Tryz.func94 rfl rfl rfl ?_
  repeat' first | refine st ?_ | refine run_nil ?_ | refine Jz ?_ | refine Jw ?_ | refine aw_block ?_
  refine aw_loopg
    (S := fun y : Og => [(0, .slice (some ⟨0, 0, none⟩) n n), (1, .func (.func 81) #[] #[]), (6, .slice (some ⟨0, 0, none⟩) n n), (7, .int .i64 n), (8, .int .i64 y.i)])
    (B := fun _ : Og => [some ⟨List.map Value.string L, false, 1⟩])
    (R := fun y : Og => y.i ≤ n ∧ ∀ (j : Nat), j < y.i → ∀ q, L[j]? = some q → (fun s : ByteArray => decide (s.size ≠ 32)) q = false)
    (μ := fun y : Og => n - y.i) ⟨0⟩ (fitsD [0]) ⟨Nat.zero_le _, fun j hj => absurd hj (Nat.not_lt_zero _)⟩ ?_
  rintro ⟨i⟩ ⟨g1, g2⟩
  dsimp only at *
  by_cases hi : i < n
  · obtain ⟨q, hq⟩ : ∃ q, L[i]? = some q := ⟨_, List.getElem?_eq_getElem (by omega)⟩
    have H := ac_chk1 q
    by_cases heq : q.size ≠ 32
    · obtain rfl : x = i := by rw [← hx]; exact fidx_at (q := fun s : ByteArray => decide (s.size ≠ 32)) hq (decide_eq_true heq) g2
      repeat' first | refine st (h := ok_load_mapE (f := Value.string) i hq rfl rfl rfl (by omega)) ?_ | refine st ?_ | refine st_call (H) ?_ | refine run_nil ?_ | refine Jz ?_ | refine Jw ?_ | refine aw_block ?_ | refine Js ?_ | refine Jy ?_ | refine aw_ret ?_ | refine pp_ret ?_
      all_goals first
        | rfl
        | (exfalso; omega)
        | (exfalso; simp only [Bool.not_eq_true', Bool.not_eq_false', decide_eq_true_eq, decide_eq_false_iff_not, Bool.not_false, Bool.not_true] at *; omega)
        | (exfalso; simp_all; first | done | omega)
    · have hst := no_step (q := fun s : ByteArray => decide (s.size ≠ 32)) g2 hq (decide_eq_false heq)
      repeat' first | refine st (h := ok_load_mapE (f := Value.string) i hq rfl rfl rfl (by omega)) ?_ | refine st ?_ | refine st_call (H) ?_ | refine run_nil ?_ | refine Jz ?_ | refine Jw ?_ | refine aw_block ?_ | refine Js ?_ | refine Jt ?_ | refine Jy ?_
      all_goals first | exact Exists.intro ⟨i + 1⟩ ⟨fitsD [0], ⟨hi, hst⟩, by dsimp only; omega⟩
  · obtain rfl : i = n := by omega
    obtain rfl : x = -1 := by rw [← hx]; exact fidx_no (by rw [hn]; exact g2)
    repeat' first | refine st ?_ | refine run_nil ?_ | refine Jz ?_ | refine Jw ?_ | refine Jt ?_ | refine aw_exit ?_ | refine aw_ret ?_ | refine pp_ret ?_
    all_goals first
      | rfl
      | (exfalso; omega)
      | (exfalso; simp only [Bool.not_eq_true', Bool.not_eq_false', decide_eq_true_eq, decide_eq_false_iff_not, Bool.not_false, Bool.not_true] at *; omega)
      | (exfalso; simp_all; first | done | omega)
theorem ac_cfn (L : List ByteArray) (n : Nat) (hn : L.length = n) (hb : n ≤ 9000000000000000000) (x : Bool) (hx : decide (fidx (fun s : ByteArray => decide (s.size ≠ 32)) L ≠ -1) = x) : ACalls Tryz.prog 80 [.slice (some ⟨0, 0, none⟩) n n, .func (.func 81) #[] #[]] [some ⟨List.map Value.string L, false, 1⟩] (.bool x) [none] := by
  obtain ⟨z, hz⟩ : ∃ z, fidx (fun s : ByteArray => decide (s.size ≠ 32)) L = z := ⟨_, rfl⟩
  have H := ac_ifn L n hn hb z hz
  have hge := (fidx_ge (q := fun s : ByteArray => decide (s.size ≠ 32)) (l := L)).1
  rw [hz] at hx hge
  refine acalls_law Tryz.func80 rfl rfl rfl ?_
  repeat' first | refine st ?_ | refine stRW [0] H ?_ | refine run_nil ?_ | refine Jz ?_ | refine Jw ?_ | refine aw_ret ?_ | refine pp_ret ?_
  all_goals first | (rw [← hx]; exact congrArg Value.bool (decide_eq_decide.2 (by omega)))
set_option maxHeartbeats 4000000 in
theorem ac_mcheck (v sz pg pk : Int) (L : List ByteArray) (n : Nat) (hn : L.length = n) (hb : n ≤ 9000000000000000000) (x : Int) (hx : chkM v sz pg pk L = x) : ACalls Tryz.prog 61 [.agg #[.int .i64 v, .int .i64 sz, .int .i64 pg, .int .i64 pk, .slice (some ⟨0, 0, none⟩) n n]] [some ⟨List.map Value.string L, false, 1⟩] (.int .i64 x) [none] := by
  unfold chkM at hx
  rw [hn] at hx
  obtain ⟨y, hy⟩ : ∃ y, sizB v pg pk = y := ⟨_, rfl⟩
  obtain ⟨z, hz⟩ : ∃ z, decide (fidx (fun s : ByteArray => decide (s.size ≠ 32)) L ≠ -1) = z := ⟨_, rfl⟩
  obtain ⟨c, hc⟩ : ∃ c, (sz + pg - 1) / pg = c := ⟨_, rfl⟩
  have H1 := ac_sizes v pg pk
  have H3 := ac_cfn L n hn hb z hz
  rw [hy] at H1 hx
  rw [hc] at hx
  have hz' : fidx (fun s : ByteArray => decide (s.size ≠ 32)) L ≠ -1 ↔ z = true := by rw [← hz, decide_eq_true_eq]
  clear hz
  cases y
  · obtain rfl : x = 1 := by rw [← hx]; exact if_pos (.inl rfl)
    clear hx hz'
    refine acalls_law Tryz.func61 rfl rfl rfl ?_
    repeat' first | refine st ?_ | refine sd_call (H1) ?_ | refine stm ?_ | refine run_nil ?_ | refine sd ?_ | refine sdl ?_ | refine Jl ?_ | refine rund_nil ?_ | refine Jz ?_ | refine Jw ?_ | refine Jx (id := 1) [0,1,0,4,0,16,63,127,255,511,1023,2047,4095,8191,16383,32767,65535,131071,262143,524287,1048575,2097151,4194303,8388607,16777215,33554431,67108863,134217727,33554431,301989887,33554431,1107296255,4060086271,8589934591,17179869183] 35 ?_ | refine Jq ?_ | refine aw_ret ?_ | refine pp_ret ?_
    all_goals first
      | rfl
      | (exfalso; omega)
      | (exfalso; simp only [Bool.not_eq_true', Bool.not_eq_false', decide_eq_true_eq, decide_eq_false_iff_not, Bool.not_false, Bool.not_true] at *; omega)
      | (exfalso; simp_all; first | done | omega)
  · have hbd := siz_bd hy
    by_cases h1 : sz < 1 ∨ 65536 < sz
    · obtain rfl : x = 1 := by
        rw [← hx]
        refine if_pos ?_
        rcases h1 with h | h
        · exact .inr (.inl h)
        · exact .inr (.inr (.inl h))
      clear hx hz'
      refine acalls_law Tryz.func61 rfl rfl rfl ?_
      repeat' first | intro h1 | refine st ?_ | refine sd_call (H1) ?_ | refine stm ?_ | refine run_nil ?_ | refine sd ?_ | refine sdl ?_ | refine Jk ?_ | refine Jl ?_ | refine Jo ?_ ?_ | refine rund_nil ?_ | refine Jz ?_ | refine Jw ?_ | refine Jx (id := 1) [0,1,0,4,0,16,63,127,255,511,1023,2047,4095,8191,16383,32767,65535,131071,262143,524287,1048575,2097151,4194303,8388607,16777215,33554431,67108863,134217727,33554431,301989887,33554431,1107296255,4060086271,8589934591,17179869183] 35 ?_ | refine Jq ?_ | refine aw_ret ?_ | refine pp_ret ?_
      all_goals first
        | rfl
        | (exfalso; omega)
        | (exfalso; simp only [Bool.not_eq_true', Bool.not_eq_false', decide_eq_true_eq, decide_eq_false_iff_not, Bool.not_false, Bool.not_true] at *; omega)
        | (exfalso; simp_all; first | done | omega)
    · have H2 := ac_count sz pg c (by omega) (by omega) hc
      by_cases h2 : 64 < n ∨ (n : Int) ≠ c
      · obtain rfl : x = 1 := by
          rw [← hx]
          refine if_pos ?_
          rcases h2 with h | h
          · exact .inr (.inr (.inr (.inl h)))
          · exact .inr (.inr (.inr (.inr (.inl h))))
        clear hx hz'
        refine acalls_law Tryz.func61 rfl rfl rfl ?_
        repeat' first | intro h1 | refine st ?_ | refine sd_call (H1) ?_ | refine sd_call (H2) ?_ | refine stm ?_ | refine run_nil ?_ | refine sd ?_ | refine sdl ?_ | refine Jk ?_ | refine Jl ?_ | refine Jo ?_ ?_ | refine rund_nil ?_ | refine Jz ?_ | refine Jw ?_ | refine Jx (id := 1) [0,1,0,4,0,16,63,127,255,511,1023,2047,4095,8191,16383,32767,65535,131071,262143,524287,1048575,2097151,4194303,8388607,16777215,33554431,67108863,134217727,33554431,301989887,33554431,1107296255,4060086271,8589934591,17179869183] 35 ?_ | refine Jq ?_ | refine Js ?_ | refine aw_ret ?_ | refine pp_ret ?_
        all_goals first
          | rfl
          | (exfalso; omega)
          | (exfalso; simp only [Bool.not_eq_true', Bool.not_eq_false', decide_eq_true_eq, decide_eq_false_iff_not, Bool.not_false, Bool.not_true] at *; omega)
          | (exfalso; simp_all; first | done | omega)
      · cases z
        · obtain rfl : x = 0 := by
            rw [← hx]
            refine if_neg ?_
            rintro (h | h | h | h | h | h)
            · cases h
            · omega
            · omega
            · omega
            · omega
            · exact absurd (hz'.1 h) (by simp)
          clear hx hz'
          refine acalls_law Tryz.func61 rfl rfl rfl ?_
          repeat' first | intro h1 | refine st ?_ | refine sd_call (H1) ?_ | refine sd_call (H2) ?_ | refine stRW [0] H3 ?_ | refine stm ?_ | refine run_nil ?_ | refine sd ?_ | refine sdl ?_ | refine Jk ?_ | refine Jl ?_ | refine Jo ?_ ?_ | refine rund_nil ?_ | refine Jz ?_ | refine Jw ?_ | refine Jx (id := 1) [0,1,0,4,0,16,63,127,255,511,1023,2047,4095,8191,16383,32767,65535,131071,262143,524287,1048575,2097151,4194303,8388607,16777215,33554431,67108863,134217727,33554431,301989887,33554431,1107296255,4060086271,8589934591,17179869183] 35 ?_ | refine Jq ?_ | refine Jr ?_ | refine Jt ?_ | refine Jy ?_ | refine aw_ret ?_ | refine pp_ret ?_
          all_goals first
            | rfl
            | (exfalso; omega)
            | (exfalso; simp only [Bool.not_eq_true', Bool.not_eq_false', decide_eq_true_eq, decide_eq_false_iff_not, Bool.not_false, Bool.not_true] at *; omega)
            | (exfalso; simp_all; first | done | omega)
        · obtain rfl : x = 1 := by rw [← hx]; exact if_pos (.inr (.inr (.inr (.inr (.inr (hz'.2 rfl))))))
          clear hx hz'
          refine acalls_law Tryz.func61 rfl rfl rfl ?_
          repeat' first | intro h1 | refine st ?_ | refine sd_call (H1) ?_ | refine sd_call (H2) ?_ | refine stRW [0] H3 ?_ | refine stm ?_ | refine run_nil ?_ | refine sd ?_ | refine sdl ?_ | refine Jk ?_ | refine Jl ?_ | refine Jo ?_ ?_ | refine rund_nil ?_ | refine Jz ?_ | refine Jw ?_ | refine Jx (id := 1) [0,1,0,4,0,16,63,127,255,511,1023,2047,4095,8191,16383,32767,65535,131071,262143,524287,1048575,2097151,4194303,8388607,16777215,33554431,67108863,134217727,33554431,301989887,33554431,1107296255,4060086271,8589934591,17179869183] 35 ?_ | refine Jq ?_ | refine Jt ?_ | refine Jy ?_ | refine aw_ret ?_ | refine pp_ret ?_
          all_goals first
            | rfl
            | (exfalso; omega)
            | (exfalso; simp only [Bool.not_eq_true', Bool.not_eq_false', decide_eq_true_eq, decide_eq_false_iff_not, Bool.not_false, Bool.not_true] at *; omega)
            | (exfalso; simp_all; first | done | omega)
end Go.Proofs.YtjofcjogbopkjaaGreat
namespace Go.Proofs.YtjofcjogbopkjaaGreat
open Go Av
set_option maxRecDepth 20000
def beS (k : Nat) (v : Int) : ByteArray := ⟨(beL k v).toArray⟩
theorem beS_size (k : Nat) (v : Int) : (beS k v).size = k := by show (beL k v).toArray.size = k; simp [beL_len]
theorem be_u8 (r : Nat) (j : Int) (v : Int) (hr : r ≤ 7) (hj : j + 1 = ((r + 1 : Nat) : Int)) : Value.int .u8 (IntKind.u8.wrap (v / 2 ^ (min (8 * j).toNat IntKind.i64.bits))) = u8v (UInt8.ofNat (v / 2 ^ (8 * r) % 256).toNat) := by
  have e : min (8 * j).toNat IntKind.i64.bits = 8 * r := by simp [IntKind.bits]; omega
  rw [e, u8v, be_byte]
structure Bg where
  m : Nat
  j : Int
  L : List UInt8
set_option maxHeartbeats 1000000 in
theorem ac_bytes (k : Nat) (hk : k ≤ 8) (v : Int) : ACalls Tryz.prog 90 [.int .i64 v, .int .i64 k] [] (.string (beS k v)) [] := by
  refine acalls_law Tryz.func90 rfl rfl rfl ?_
  refine aw_ghost 1 rfl ?_
  repeat' first | intro h1 | refine st ?_ | refine stm ?_ | refine Ja ?_ | refine Jb ?_ | refine Jc ?_ | refine Jd ?_ | refine Je ?_ | refine Jf ?_ | refine Jg ?_ | refine Jh ?_ ?_ | refine Ji ?_ ?_ | refine Jj ?_ ?_ | refine run_nil ?_ | refine Jz ?_ | refine Jw ?_ | refine aw_block ?_ | refine Jq ?_ | refine Jr ?_ | refine Js ?_ | refine Jt ?_ | refine Ju ?_ ?_ | refine Jv ?_ ?_ | refine Jy ?_ | refine aw_exit ?_ | refine aw_ret ?_ | refine pp_ret ?_ | refine pp_normal ?_
  refine aw_loopg
    (S := fun y : Bg => [(0, .int .i64 v), (5, .slice (some ⟨0, 0, none⟩) y.L.length y.L.length), (6, .int .i64 y.j)])
    (B := fun y : Bg => [some ⟨List.map u8v y.L, true, 1⟩])
    (R := fun y : Bg => y.m ≤ k ∧ y.L ++ beL y.m v = beL k v ∧ y.j + 1 = y.m)
    (μ := fun y : Bg => y.m) ⟨k, k - 1, []⟩ (fitsD [0]) ⟨Nat.le_refl _, rfl, by dsimp only; omega⟩ ?_
  rintro ⟨m, j, L⟩ ⟨g1, g2, g3⟩
  dsimp only at *
  have hl : L.length + m = k := by
    have := congrArg List.length g2
    rwa [List.length_append, beL_len, beL_len] at this
  cases m with
  | zero =>
    obtain rfl : L = beL k v := by rw [← g2]; simp [beL]
    repeat' first | intro h1 | refine st (h := ok_bytes_str (l := beL k v) rfl rfl (by simp) (by rw [List.drop_zero, List.take_of_length_le (by simp)])) ?_ | refine st ?_ | refine stm ?_ | refine Ja ?_ | refine Jb ?_ | refine Jc ?_ | refine Jd ?_ | refine Je ?_ | refine Jf ?_ | refine Jg ?_ | refine Jh ?_ ?_ | refine Ji ?_ ?_ | refine Jj ?_ ?_ | refine run_nil ?_ | refine Jz ?_ | refine Jw ?_ | refine aw_block ?_ | refine Jq ?_ | refine Jr ?_ | refine Js ?_ | refine Jt ?_ | refine Ju ?_ ?_ | refine Jv ?_ ?_ | refine Jy ?_ | refine aw_exit ?_ | refine aw_ret ?_ | refine pp_ret ?_ | refine pp_normal ?_
    all_goals first
      | rfl
      | (exfalso; omega)
      | (exfalso; simp only [Bool.not_eq_true', Bool.not_eq_false', decide_eq_true_eq, decide_eq_false_iff_not, Bool.not_false, Bool.not_true] at *; omega)
      | (exfalso; simp_all; first | done | omega)
  | succ r =>
    have hu := be_u8 r j v (by omega) g3
    repeat' first | intro h1 | refine stm ?_ (h := by (apply ok_append (cs := List.map u8v (L ++ [UInt8.ofNat (v / 2 ^ (8 * r) % 256).toNat])) (olds := List.map u8v L); rfl; rfl; rfl; rfl; rfl; rfl; (focus first | (apply Src.slc; rfl; exact Ty.eq; rfl; exact Nat.le_of_ble_eq_true rfl; exact TakeR.eq (by ((repeat constructor); first | done | fail)); rfl; rfl; first | done | fail)); (focus simp); (focus (apply take_full; simp)); (rw [List.map_append]; exact congrArg (fun q => List.map u8v L ++ [q]) hu); omega; (focus ((repeat constructor); first | done | fail)))) | refine st ?_ | refine stm ?_ | refine Ja ?_ | refine Jb ?_ | refine Jc ?_ | refine Jd ?_ | refine Je ?_ | refine Jf ?_ | refine Jg ?_ | refine Jh ?_ ?_ | refine Ji ?_ ?_ | refine Jj ?_ ?_ | refine run_nil ?_ | refine Jz ?_ | refine Jw ?_ | refine aw_block ?_ | refine Jq ?_ | refine Jr ?_ | refine Js ?_ | refine Jt ?_ | refine Ju ?_ ?_ | refine Jv ?_ ?_ | refine Jy ?_ | refine aw_exit ?_ | refine aw_ret ?_ | refine pp_ret ?_ | refine pp_normal ?_
    all_goals first | exact Exists.intro ⟨r, _, L ++ [UInt8.ofNat (v / 2 ^ (8 * r) % 256).toNat]⟩ ⟨by
      rw [List.length_append]; exact fitsD [2] , ⟨by dsimp only; omega, by dsimp only; rw [← g2, beL]; simp, by dsimp only; omega⟩, by dsimp only; omega⟩ | (exfalso; omega)
/-- The number that bytes are. -/
def valB (s : ByteArray) : Nat → Int
  | 0 => 0
  | i + 1 => valB s i * 256 + (byteAt s i).toNat
def valS (s : ByteArray) : Int := valB s s.size
theorem valB_bd (s : ByteArray) : ∀ i, 0 ≤ valB s i ∧ valB s i < 256 ^ i
  | 0 => by simp [valB]
  | i + 1 => by
    have h := valB_bd s i
    have hb := (byteAt s i).toNat_lt
    rw [valB, Int.pow_succ]
    omega
theorem or_byte {A b : Int} (hA : 0 ≤ A ∧ A * 256 ≤ 4611686018427387904) (hb : 0 ≤ b ∧ b < 256) : bitv .or .i64 (IntKind.i64.wrap (A * 2 ^ (min (Int.toNat 8) IntKind.i64.bits))) (IntKind.i64.wrap b) = A * 256 + b := by
  rw [wrap64 (n := b) (by omega)]
  have h0 : A * 2 ^ (min (Int.toNat 8) IntKind.i64.bits) = A * 256 := rfl
  rw [h0, wrap64 (by omega)]
  have h : ((BitVec.ofInt 64 (A * 256) ||| BitVec.ofInt 64 b).toNat : Int) = A * 256 + b := by
    have e1 : (BitVec.ofInt 64 (A * 256)).toNat = (A * 256).toNat := by rw [BitVec.toNat_ofInt]; omega
    have e2 : (BitVec.ofInt 64 b).toNat = b.toNat := by rw [BitVec.toNat_ofInt]; omega
    rw [BitVec.toNat_or, e1, e2]
    obtain ⟨q, hq⟩ : ∃ q, (A * 256).toNat = q <<< 8 := ⟨A.toNat, by rw [Nat.shiftLeft_eq]; omega⟩
    rw [hq, ← Nat.shiftLeft_add_eq_or_of_lt (by omega : b.toNat < 2 ^ 8), ← hq]
    omega
  show IntKind.i64.wrap ((BitVec.ofInt 64 (A * 256) ||| BitVec.ofInt 64 b).toNat : Int) = _
  rw [h]
  exact wrap64 (by omega)
structure Vg where
  i : Nat
  v : Int
set_option maxHeartbeats 1000000 in
theorem ac_value (s : ByteArray) (h : s.size ≤ 7) (x : Int) (hx : valS s = x) : ACalls Tryz.prog 59 [.string s] [] (.int .i64 x) [] := by
  unfold valS at hx
  refine acalls_pure Tryz.func59 rfl rfl rfl ?_
  repeat' first | refine st ?_ | refine run_nil ?_ | refine Jz ?_ | refine Jw ?_ | refine aw_block ?_
  refine aw_loopg
    (S := fun y : Vg => [(0, .string s), (3, .int .i64 y.v), (6, .int .i64 (s.size : Int)), (7, .int .i64 y.i)])
    (B := fun _ : Vg => [])
    (R := fun y : Vg => y.i ≤ s.size ∧ valB s y.i = y.v)
    (μ := fun y : Vg => s.size - y.i) ⟨0, 0⟩ (fitsD []) ⟨Nat.zero_le _, rfl⟩ ?_
  rintro ⟨i, v⟩ ⟨g1, g2⟩
  dsimp only at *
  have hv := valB_bd s i
  rw [g2] at hv
  by_cases hi : i < s.size
  · have hp : (256 : Int) ^ i ≤ 256 ^ 6 := by
      have := Nat.pow_le_pow_right (n := 256) (by omega) (show i ≤ 6 by omega)
      have e : ((256 ^ i : Nat) : Int) = (256 : Int) ^ i := by simp
      omega
    have hb := (byteAt s (i : Int).toNat).toNat_lt
    have ho := or_byte (A := v) (b := ((byteAt s (i : Int).toNat).toNat : Int)) ⟨hv.1, by omega⟩ (by omega)
    repeat' first | refine st ?_ | refine run_nil ?_ | refine Jz ?_ | refine Jw ?_ | refine aw_block ?_ | refine Js ?_ | refine Jy ?_
    all_goals first | exact Exists.intro ⟨i + 1, _⟩ ⟨fitsD [], ⟨hi, by dsimp only; rw [valB, g2]; exact ho.symm⟩, by dsimp only; omega⟩
  · obtain rfl : i = s.size := by omega
    obtain rfl : x = v := by rw [← hx, g2]
    repeat' first | refine st ?_ | refine run_nil ?_ | refine Jz ?_ | refine Jw ?_ | refine Jt ?_ | refine aw_exit ?_ | refine aw_ret ?_ | refine pp_ret ?_
    all_goals first
      | rfl
      | (exfalso; omega)
      | (exfalso; simp only [Bool.not_eq_true', Bool.not_eq_false', decide_eq_true_eq, decide_eq_false_iff_not, Bool.not_false, Bool.not_true] at *; omega)
      | (exfalso; simp_all; first | done | omega)
set_option maxHeartbeats 1000000 in
theorem ac_rnumber (s : ByteArray) (h : s.size ≤ 7) (x : Int) (hx : valS s = x) : ACalls Tryz.prog 66 [.string s] [] (.int .i64 x) [] := by
  unfold valS at hx
  refine acalls_pure Tryz.func66 rfl rfl rfl ?_
  repeat' first | refine st ?_ | refine run_nil ?_ | refine Jz ?_ | refine Jw ?_ | refine aw_block ?_
  refine aw_loopg
    (S := fun y : Vg => [(0, .string s), (3, .int .i64 y.v), (4, .int .i64 y.i)])
    (B := fun _ : Vg => [])
    (R := fun y : Vg => y.i ≤ s.size ∧ valB s y.i = y.v)
    (μ := fun y : Vg => s.size - y.i) ⟨0, 0⟩ (fitsD []) ⟨Nat.zero_le _, rfl⟩ ?_
  rintro ⟨i, v⟩ ⟨g1, g2⟩
  dsimp only at *
  have hv := valB_bd s i
  rw [g2] at hv
  by_cases hi : i < s.size
  · have hp : (256 : Int) ^ i ≤ 256 ^ 6 := by
      have := Nat.pow_le_pow_right (n := 256) (by omega) (show i ≤ 6 by omega)
      have e : ((256 ^ i : Nat) : Int) = (256 : Int) ^ i := by simp
      omega
    have hb := (byteAt s (i : Int).toNat).toNat_lt
    have ho := or_byte (A := v) (b := ((byteAt s (i : Int).toNat).toNat : Int)) ⟨hv.1, by omega⟩ (by omega)
    repeat' first | refine st ?_ | refine run_nil ?_ | refine Jz ?_ | refine Jw ?_ | refine aw_block ?_ | refine Js ?_ | refine Jy ?_
    all_goals first | exact Exists.intro ⟨i + 1, _⟩ ⟨fitsD [], ⟨hi, by dsimp only; rw [valB, g2]; exact ho.symm⟩, by dsimp only; omega⟩
  · obtain rfl : i = s.size := by omega
    obtain rfl : x = v := by rw [← hx, g2]
    repeat' first | refine st ?_ | refine run_nil ?_ | refine Jz ?_ | refine Jw ?_ | refine Jt ?_ | refine aw_exit ?_ | refine aw_ret ?_ | refine pp_ret ?_
    all_goals first
      | rfl
      | (exfalso; omega)
      | (exfalso; simp only [Bool.not_eq_true', Bool.not_eq_false', decide_eq_true_eq, decide_eq_false_iff_not, Bool.not_false, Bool.not_true] at *; omega)
      | (exfalso; simp_all; first | done | omega)
/-- The digest of a page. -/
def pgB (v p : Int) (d : ByteArray) : ByteArray := ⟨#[112, 97, 103, 101]⟩ ++ numS [(2, v), (2, p)] ++ d
def dgS (v p : Int) (d : ByteArray) : ByteArray := dig 0 (pgB v p d).data.toList
theorem numS_size2 (v p : Int) : (numS [(2, v), (2, p)]).size = 4 := by show (numL [(2, v), (2, p)]).toArray.size = 4; simp [numL, beL_len]
theorem pgB_size (v p : Int) (d : ByteArray) : (pgB v p d).size = 8 + d.size := by
  unfold pgB
  rw [ByteArray.size_append, ByteArray.size_append, numS_size2]
  rfl
theorem pgB_ref (v p : Int) (d : ByteArray) : (⟨#[112, 97, 103, 101]⟩ : ByteArray) ++ beS 2 v ++ beS 2 p ++ d = pgB v p d := by
  unfold pgB
  apply ByteArray.ext
  simp [ByteArray.data_append, beS, numS, numL]
theorem ac_isum (v p : Int) (d : ByteArray) (hd : d.size ≤ 1000000) (S : ByteArray) (hS : dgS v p d = S) : ACalls Tryz.prog 51 [.int .i64 v, .int .i64 p, .string d] [] (.string S) [] := by
  have H1 := ac_number2 v p
  have hs1 := numS_size2 v p
  have hs2 := pgB_size v p d
  unfold dgS at hS
  have H2 := ac_Sum (pgB v p d) (by omega)
  rw [hS] at H2
  unfold pgB at H2
  clear hS
  generalize numS [(2, v), (2, p)] = q at H1 H2 hs1
  refine acalls_law Tryz.func51 rfl rfl rfl ?_
  repeat' first | refine st (h := ok_str_add rfl rfl (by (simp only [ByteArray.size_append, hs1]; first | omega | (show 4 + _ ≤ _; omega) | (show 4 + _ + _ ≤ _; omega)))) ?_ | refine st ?_ | refine stRW [0] H1 ?_ | refine st_call (H2) ?_ | refine stm ?_ | refine run_nil ?_ | refine Jz ?_ | refine Jw ?_ | refine aw_ret ?_ | refine pp_ret ?_
  all_goals first
    | rfl
    | (exfalso; omega)
    | (exfalso; simp only [Bool.not_eq_true', Bool.not_eq_false', decide_eq_true_eq, decide_eq_false_iff_not, Bool.not_false, Bool.not_true] at *; omega)
    | (exfalso; simp_all; first | done | omega)
theorem ac_rdigest (v p : Int) (d : ByteArray) (hd : d.size ≤ 1000000) (S : ByteArray) (hS : dgS v p d = S) : ACalls Tryz.prog 73 [.int .i64 v, .int .i64 p, .string d] [] (.string S) [] := by
  have H1 := ac_bytes 2 (by omega) v
  have H2 := ac_bytes 2 (by omega) p
  have hs1 := beS_size 2 v
  have hs3 := beS_size 2 p
  have hs2 := pgB_size v p d
  unfold dgS at hS
  have H3 := ac_rSum (pgB v p d) (by omega)
  rw [hS, ← pgB_ref] at H3
  clear hS
  generalize beS 2 v = q at H1 H3 hs1
  generalize beS 2 p = q2 at H2 H3 hs3
  refine acalls_law Tryz.func73 rfl rfl rfl ?_
  repeat' first | refine st (h := ok_str_add rfl rfl (by (simp only [ByteArray.size_append, hs1, hs3]; first | omega | (show 4 + _ ≤ _; omega) | (show 4 + _ + _ ≤ _; omega) | (show 4 + _ + _ + _ ≤ _; omega)))) ?_ | refine st ?_ | refine st_call (H1) ?_ | refine st_call (H2) ?_ | refine st_call (H3) ?_ | refine run_nil ?_ | refine Jz ?_ | refine Jw ?_ | refine aw_ret ?_ | refine pp_ret ?_
  all_goals first
    | rfl
    | (exfalso; omega)
    | (exfalso; simp only [Bool.not_eq_true', Bool.not_eq_false', decide_eq_true_eq, decide_eq_false_iff_not, Bool.not_false, Bool.not_true] at *; omega)
    | (exfalso; simp_all; first | done | omega)
end Go.Proofs.YtjofcjogbopkjaaGreat
