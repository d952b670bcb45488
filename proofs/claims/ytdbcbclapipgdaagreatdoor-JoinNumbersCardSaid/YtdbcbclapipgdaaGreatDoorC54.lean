/- Join: lists behind requests (plain); Join: requests that are newer, repeated, older; Join: what a law wants of other texts (numbers). -/
import Derived.Test.YtdbcbclapipgdaaGreatDoorVO
import Derived.Test.YtdbcbclapipgdaaGreatDoorJ
import Derived.Test.YtdbcbclapipgdaaGreatDoorC23
import Derived.Test.YtdbcbclapipgdaaGreatDoorC24
import Derived.Test.YtdbcbclapipgdaaGreatDoorC42
import Derived.Test.YtdbcbclapipgdaaGreatDoorC47
set_option linter.unusedVariables false
set_option linter.unusedSimpArgs false
namespace Go.Proofs.YtdbcbclapipgdaaGreatDoor
open Go Av
set_option maxRecDepth 20000
/-- A member more, whose name is greater than all names. -/
theorem mm_app {L : List Mb} (g : mmB L = true) {nm sec : ByteArray} (hn : nmB nm = true) (hs : scB sec = true) (hl : ∀ (k : Nat) (q : Mb), L[k]? = some q → ltS q.nm nm = true) : mmB (L ++ [⟨nm, sec, -1, 0⟩]) = true := by
  have e1 : ∀ k, k < L.length → (L ++ [⟨nm, sec, -1, 0⟩])[k]? = L[k]? := fun k hk => List.getElem?_append_left hk
  refine mm_all fun j q hj => gdB_iff.2 ?_
  have hjl : j < L.length + 1 := by
    have := (List.getElem?_eq_some_iff.1 hj).1
    rwa [List.length_append] at this
  rcases Nat.lt_or_ge j L.length with h | h
  · rw [e1 j h] at hj
    obtain ⟨c1, c2, c3⟩ := gdB_iff.1 (mm_at g hj)
    refine ⟨c1, ?_, ?_⟩
    · unfold nmAt at c2 ⊢
      rw [e1 (j - 1) (by omega)]
      exact c2
    · rcases c3 with c3 | c3
      · exact .inl c3
      refine .inr (tkB_false.2 fun k hk => ?_)
      have := tkB_false.1 c3 k hk
      unfold ndA at this ⊢
      rw [e1 k (by omega)]
      exact this
  · obtain rfl : j = L.length := by omega
    rw [List.getElem?_concat_length] at hj
    cases hj
    refine ⟨?_, ?_, .inl rfl⟩
    · unfold mb1
      rw [hn, hs]
      rfl
    · by_cases h0 : L.length = 0
      · exact .inl h0
      obtain ⟨q, hq⟩ : ∃ q, L[L.length - 1]? = some q := ⟨_, List.getElem?_eq_getElem (by omega)⟩
      right
      unfold nmAt
      rw [e1 _ (by omega), hq]
      exact hl _ _ hq
/-- A request that is older. -/
theorem adm_old (L : List Mb) (n : Nat) (hn : L.length = n) (hb : n ≤ 30) (i : Nat) (nm sec : ByteArray) (nd nq no : Int) (g : mmB L = true) (hq : L[i]? = some ⟨nm, sec, nd, nq⟩) (h : no < nq) (h0 : 0 ≤ no) : ∃ e : Int, (no = 0 ∨ e = 15) ∧ ACalls Tryz.prog 19 [.slice (some ⟨0, 0, none⟩) n n, .agg #[.string nm, .int .i64 no, .string (acS sec nm no)]] [some ⟨L.flatMap mbC, false, 4⟩] (.tuple #[.slice none 0 0, .agg #[.string ⟨#[]⟩, .int .i64 0, .int .i64 0, .string ⟨#[]⟩], .int .i64 e]) [none] := by
  have m1 := mb1_t (and_t (mm_at g hq)).1
  dsimp only at m1
  have hix := ix_at g hq rfl
  by_cases hz : no = 0
  · refine ⟨11, .inl hz, ja_k L n hn (by omega) nm _ no g ?_⟩
    unfold akB
    rw [decide_eq_false (by omega), Bool.and_false]
  · exact ⟨15, .inr rfl, ja_l L n hn (by omega) nm _ no g (adm_ak g hq (by omega)) i hix nm sec nd nq hq rfl h⟩
theorem use_numbers : True := by
  have := @ac_awake
  have := @ac_rName
  have := @ac_jMembers
  have := @adm_go
  have := @adm_old
  have := @ac_AskCode
  have := @ac_same
  have := @mm_app
  have := @fdx_at
  have := @fdx_step
  have := @fdx_no
  have := @ok_str_geq
  have := @lt_irr
  have := @gd_inj
  have := @gdB_iff
  have := @set_same
  trivial
end Go.Proofs.YtdbcbclapipgdaaGreatDoor
