/- Join: the list behind a request (plain); Join: lists behind requests (plain); Join: requests that are newer, repeated, older. -/
import Derived.Test.YtdbcbclapipgdaaGreatDoorVO
import Derived.Test.YtdbcbclapipgdaaGreatDoorJ
import Derived.Test.YtdbcbclapipgdaaGreatDoorC41
set_option linter.unusedVariables false
set_option linter.unusedSimpArgs false
namespace Go.Proofs.YtdbcbclapipgdaaGreatDoor
open Go Av
set_option maxRecDepth 20000
theorem fdx_get {α : Type} {q : α → Bool} {l : List α} (h : 0 ≤ fdx q l) : ∃ (i : Nat) (x : α), fdx q l = i ∧ l[i]? = some x ∧ q x = true := by
  unfold fdx at h ⊢
  by_cases h1 : l.findIdx q < l.length
  · exact ⟨l.findIdx q, _, by rw [if_pos h1], List.getElem?_eq_getElem h1, List.findIdx_getElem⟩
  · rw [if_neg h1] at h; omega
theorem frN_new {L : List Mb} (h : 1 ≤ frN L) : tkB L L.length (frN L) = false := by
  unfold frN at h ⊢
  by_cases h1 : fdx (fun k : Nat => !tkB L L.length ((k : Int) + 1)) (List.range 31) < 0
  · rw [if_pos h1] at h; omega
  · rw [if_neg h1]
    obtain ⟨i, x, e, hx, hq⟩ := fdx_get (Int.not_lt.1 h1)
    rw [e]
    have hi : i < 31 := by have := (List.getElem?_eq_some_iff.1 hx).1; rwa [List.length_range] at this
    rw [List.getElem?_range hi] at hx
    cases hx
    simpa using hq
/-- A list of members is right if each of them is. -/
theorem gdN_all {L : List Mb} : ∀ {n : Nat}, (∀ (i : Nat) (m : Mb), i < n → L[i]? = some m → gdB L i m = true) → gdN L n = true
  | 0, _ => rfl
  | n + 1, h => by
    have ih := gdN_all (n := n) fun i m hi => h i m (by omega)
    show (gdN L n && _) = true
    rw [ih]
    cases hq : L[n]? with
    | none => rfl
    | some m => exact h n m (by omega) hq
theorem mm_all {L : List Mb} (h : ∀ (i : Nat) (m : Mb), L[i]? = some m → gdB L i m = true) : mmB L = true := gdN_all fun i m _ => h i m
theorem mm_at {L : List Mb} (h : mmB L = true) {i : Nat} {m : Mb} (hq : L[i]? = some m) : gdB L i m = true := gdN_at h (List.getElem?_eq_some_iff.1 hq).1 hq
theorem gdB_iff {L : List Mb} {i : Nat} {m : Mb} : gdB L i m = true ↔ mb1 m = true ∧ (i = 0 ∨ ltS (nmAt L (i - 1)) m.nm = true) ∧ (m.nd = -1 ∨ tkB L i m.nd = false) := by
  unfold gdB
  rw [Bool.and_eq_true, Bool.and_eq_true, Bool.or_eq_true, Bool.or_eq_true, decide_eq_true_iff, decide_eq_true_iff, Bool.not_eq_true']
theorem tkB_false {L : List Mb} {i : Nat} {x : Int} : tkB L i x = false ↔ ∀ k, k < i → ndA L k ≠ x := by
  rw [← Bool.not_eq_true, tkB_true]
  exact ⟨fun h k hk e => h ⟨k, hk, e⟩, fun h ⟨k, hk, e⟩ => h k hk e⟩
theorem ndA_set {L : List Mb} {i : Nat} {m : Mb} (hi : i < L.length) (k : Nat) : ndA (L.set i m) k = if k = i then m.nd else ndA L k := by
  unfold ndA
  by_cases h : k = i
  · subst h; rw [List.getElem?_set_self hi, if_pos rfl]
  · rw [List.getElem?_set_ne (Ne.symm h), if_neg h]
theorem nmAt_set {L : List Mb} {i : Nat} {m a : Mb} (ha : L[i]? = some a) (e : m.nm = a.nm) (k : Nat) : nmAt (L.set i m) k = nmAt L k := by
  unfold nmAt
  by_cases h : k = i
  · subst h; rw [List.getElem?_set_self (List.getElem?_eq_some_iff.1 ha).1, ha]; exact e
  · rw [List.getElem?_set_ne (Ne.symm h)]
/-- A right list stays right if a member gets a number that nobody has, or keeps its own. -/
theorem mm_set {L : List Mb} (g : mmB L = true) {i : Nat} {nm sec : ByteArray} {nd nq d no : Int} (hq : L[i]? = some ⟨nm, sec, nd, nq⟩) (hd : 1 ≤ d ∧ d ≤ 31) (hno : 1 ≤ no ∧ no ≤ 2147483647) (hf : nd = d ∨ tkB L L.length d = false) : mmB (L.set i ⟨nm, sec, d, no⟩) = true := by
  have hi := (List.getElem?_eq_some_iff.1 hq).1
  obtain ⟨b1, b2, b3⟩ := gdB_iff.1 (mm_at g hq)
  have b1' := mb1_t b1
  dsimp only at b1' b2 b3
  refine mm_all fun j q hj => ?_
  rw [gdB_iff, nmAt_set (m := ⟨nm, sec, d, no⟩) hq rfl]
  have hjl : j < L.length := by
    have := (List.getElem?_eq_some_iff.1 hj).1
    rwa [List.length_set] at this
  by_cases h : j = i
  · subst h
    rw [List.getElem?_set_self hi] at hj
    cases hj
    refine ⟨?_, b2, .inr (tkB_false.2 fun k hk => ?_)⟩
    · unfold mb1
      rw [b1'.1, b1'.2.1, decide_eq_true (by dsimp only; omega)]
      rfl
    · dsimp only
      rw [ndA_set hi, if_neg (by omega)]
      rcases hf with h1 | h1
      · subst h1
        exact tkB_false.1 (b3.resolve_left (by omega)) k hk
      · exact tkB_false.1 h1 k (by omega)
  · rw [List.getElem?_set_ne (Ne.symm h)] at hj
    obtain ⟨c1, c2, c3⟩ := gdB_iff.1 (mm_at g hj)
    refine ⟨c1, c2, ?_⟩
    rcases c3 with c3 | c3
    · exact .inl c3
    refine .inr (tkB_false.2 fun k hk => ?_)
    rw [ndA_set hi]
    by_cases hki : k = i
    · rw [if_pos hki]
      dsimp only
      rcases hf with h1 | h1
      · have := tkB_false.1 c3 k hk
        rw [hki, ndA_at hq] at this
        dsimp only at this
        rw [← h1]
        exact this
      · have := tkB_false.1 h1 j hjl
        rw [ndA_at hj] at this
        exact Ne.symm this
    · rw [if_neg hki]
      exact tkB_false.1 c3 k hk
/-- As many numbers as there are in a list. -/
theorem len_ge : ∀ (k : Nat) (l : List Int), (∀ j : Nat, 1 ≤ j → j ≤ k → (j : Int) ∈ l) → k ≤ l.length
  | 0, _, _ => Nat.zero_le _
  | k + 1, l, h => by
    have h1 := h (k + 1) (by omega) (by omega)
    have ih := len_ge k (l.erase ((k + 1 : Nat) : Int)) fun j h2 h3 => (List.mem_erase_of_ne (by omega)).2 (h j h2 (by omega))
    rw [List.length_erase_of_mem h1] at ih
    have : 0 < l.length := List.length_pos_of_mem h1
    omega
/-- In a short list a number is free. -/
theorem fr_short {L : List Mb} (h : L.length ≤ 30) : 1 ≤ frN L ∧ frN L ≤ 31 := by
  rcases frN_bd L with h1 | h1
  · exfalso
    unfold frN at h1
    by_cases h2 : fdx (fun k : Nat => !tkB L L.length ((k : Int) + 1)) (List.range 31) < 0
    · have := len_ge 31 (L.map Mb.nd) fun j k1 k2 => by
        have h3 : ¬ 0 ≤ fdx (fun k : Nat => !tkB L L.length ((k : Int) + 1)) (List.range 31) := by omega
        rw [fdx_pos] at h3
        cases ht : tkB L L.length (j : Int) with
        | true =>
          obtain ⟨k, hk, e⟩ := tkB_true.1 ht
          obtain ⟨m, hm⟩ : ∃ m, L[k]? = some m := ⟨_, List.getElem?_eq_getElem hk⟩
          rw [ndA_at hm] at e
          exact List.mem_map.2 ⟨m, List.mem_of_getElem? hm, e⟩
        | false =>
          refine absurd ⟨j - 1, List.mem_range.2 (by omega), ?_⟩ h3
          have e : ((j - 1 : Nat) : Int) + 1 = (j : Int) := by omega
          rw [e, ht]
          rfl
      rw [List.length_map] at this
      omega
    · rw [if_neg h2] at h1
      omega
  · exact h1
theorem set_same {α : Type} {l : List α} {i : Nat} {x : α} (h : l[i]? = some x) : l.set i x = l := by
  apply List.ext_getElem?
  intro k
  by_cases hk : i = k
  · subst hk; rw [List.getElem?_set_self (List.getElem?_eq_some_iff.1 h).1, h]
  · rw [List.getElem?_set_ne hk]
theorem adm_ak {L : List Mb} {i : Nat} {nm sec : ByteArray} {nd nq no : Int} (g : mmB L = true) (hq : L[i]? = some ⟨nm, sec, nd, nq⟩) (h1 : 1 ≤ no ∧ no ≤ 2147483647) : akB nm no (acS sec nm no) = true := by
  have m1 := mb1_t (and_t (mm_at g hq)).1
  unfold akB
  rw [m1.1, decide_eq_true ⟨h1, acS_size _ _ _⟩]
  rfl
/-- A request that is newer, or the last one repeated. -/
theorem adm_go (L : List Mb) (n : Nat) (hn : L.length = n) (hb : n ≤ 30) (i : Nat) (nm sec : ByteArray) (nd nq no : Int) (g : mmB L = true) (hq : L[i]? = some ⟨nm, sec, nd, nq⟩) (h : nq < no ∨ (nq = no ∧ nd ≠ -1)) (h1 : 1 ≤ no ∧ no ≤ 2147483647) : ∃ d : Int, (1 ≤ d ∧ d ≤ 31) ∧ (nd = -1 ∨ nd = d) ∧ mmB (L.set i ⟨nm, sec, d, no⟩) = true ∧ ACalls Tryz.prog 19 [.slice (some ⟨0, 0, none⟩) n n, .agg #[.string nm, .int .i64 no, .string (acS sec nm no)]] [some ⟨L.flatMap mbC, false, 4⟩] (.tuple #[.slice (some ⟨1, 0, none⟩) n n, .agg #[.string nm, .int .i64 no, .int .i64 d, .string (nsS sec nm no d)], .int .i64 0]) [none, some ⟨(L.set i ⟨nm, sec, d, no⟩).flatMap mbC, true, 4⟩] := by
  have m1 := mb1_t (and_t (mm_at g hq)).1
  dsimp only at m1
  have hk := adm_ak g hq h1
  have hix := ix_at g hq rfl
  by_cases hd : nd = -1
  · have hf := fr_short (L := L) (by omega)
    obtain ⟨f, hfe⟩ : ∃ f, frN L = f := ⟨_, rfl⟩
    rw [hfe] at hf
    have hnew := frN_new (L := L) (by omega)
    rw [hfe] at hnew
    exact ⟨f, hf, .inl hd, mm_set g hq hf h1 (.inr hnew), ja_oka L n hn (by omega) nm _ no g hk i hix nm sec nd nq hq rfl (by omega) (by omega) hd f hfe hf⟩
  · have hr : 1 ≤ nd ∧ nd ≤ 31 := by omega
    exact ⟨nd, hr, .inr rfl, mm_set g hq hr h1 (.inl rfl), ja_okb L n hn (by omega) nm _ no g hk i hix nm sec nd nq hq rfl (by omega) (by omega) hd⟩
end Go.Proofs.YtdbcbclapipgdaaGreatDoor
