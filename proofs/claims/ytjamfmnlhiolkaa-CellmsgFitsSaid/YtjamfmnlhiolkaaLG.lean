/- CellmsgFits: the law. -/
import Derived.Test.YtjamfmnlhiolkaaLZ
import Derived.Test.YtjamfmnlhiolkaaK2
import Derived.Test.YtjamfmnlhiolkaaH5
import Derived.Test.YtjamfmnlhiolkaaH3
set_option linter.unusedVariables false
set_option linter.unusedSimpArgs false
namespace Go.Proofs.Ytjamfmnlhiolkaa
open Go Av
set_option maxRecDepth 20000
theorem spE_intro {T : List Sp} (h1 : ∀ p ∈ T, 0 ≤ p.1 ∧ p.1 < 512 ∧ 0 ≤ p.2.1 ∧ p.2.1 < 16) (h2 : T.Pairwise (fun p q => p.1 < q.1)) : spE T = 0 := by
  have key : ∀ i, i ≤ T.length → spI T i = 0 := by
    intro i
    induction i with
    | zero => intro _; rfl
    | succ i ih =>
      intro hi
      obtain ⟨⟨a, e, u⟩, hq⟩ : ∃ q, T[i]? = some q := ⟨_, List.getElem?_eq_getElem (by omega)⟩
      obtain ⟨r1, r2, r3, r4⟩ := h1 _ (List.mem_of_getElem? hq)
      dsimp only at r1 r2 r3 r4
      rw [spI_at hq (ih (by omega)), if_neg (by omega), if_neg]
      rintro ⟨hi0, hle⟩
      have := List.pairwise_iff_getElem.1 h2 (i - 1) i (by omega) (by omega) (by omega)
      rw [(List.getElem?_eq_some_iff.1 hq).2] at this
      rw [List.getD_eq_getElem?_getD, List.getElem?_eq_getElem (by omega)] at hle
      exact absurd this (by simpa using hle)
  exact key _ (Nat.le_refl _)
theorem spE_sub {S T : List Sp} (h : spE S = 0) (hT : T.Sublist S) : spE T = 0 := by
  refine spE_intro (fun p hp => ?_) ((sp_pw h).sublist hT)
  obtain ⟨j, hj⟩ := List.mem_iff_getElem?.1 (hT.subset hp)
  obtain ⟨a, e, u⟩ := p
  obtain ⟨q, _⟩ := spE_at h hj
  exact ⟨q.1, q.2.1, q.2.2.1, q.2.2.2⟩
theorem chk_intro {k n c cnt : Int} {r : Bool} {S O : List Sp} (h1 : 1 ≤ k ∧ k ≤ 6) (h2 : 0 ≤ n ∧ n ≤ 255) (h3 : 0 ≤ c ∧ c ≤ 3) (h4 : 0 ≤ cnt ∧ cnt ≤ 512) (h5 : S.length ≤ 8 ∧ O.length ≤ 8) (h6 : spE S = 0) (h7 : spE O = 0) (h8 : flw r k c cnt S.length O.length = true) : chk k n c cnt r S O = 0 := by
  unfold chk
  rw [if_neg (by omega), if_neg (by omega), if_neg (by omega), if_neg (by rw [h6]; simp), if_neg (by rw [h7]; simp), if_neg (by rw [h8]; simp)]
theorem flw_fit {k c cnt s o t u : Int} (q9 : flwQ k c cnt s o) (hk1 : 1 ≤ k ∧ k ≤ 6) (t0 : 0 ≤ t) (ts : t ≤ s) (tc : t ≤ cnt) (hu : (k = 3 ∧ u = min o t) ∨ (k ≠ 3 ∧ u = o)) (hk : (k ≠ 1 ∧ k ≠ 3) ∨ t ≠ 0) : flwR k 0 (max t u) t u := by
  obtain ⟨_, h⟩ := q9
  refine .inr ⟨rfl, ?_⟩
  rcases h with ⟨rfl, h⟩ | ⟨rfl, h⟩ | ⟨rfl, h⟩ | ⟨h4, h⟩
  · exact .inl ⟨rfl, by omega, by omega, by omega⟩
  · exact .inr (.inl ⟨rfl, by omega, by omega, by omega⟩)
  · exact .inr (.inr (.inl ⟨rfl, by omega, by omega, by omega⟩))
  · obtain rfl : u = 0 := by omega
    obtain rfl : t = 0 := by omega
    have : k = 4 ∨ k = 5 ∨ k = 6 := by omega
    rcases this with rfl | rfl | rfl
    · exact .inr (.inr (.inr (.inl ⟨rfl, rfl, rfl⟩)))
    · exact .inr (.inr (.inr (.inr (.inl ⟨rfl, by decide, rfl⟩))))
    · exact .inr (.inr (.inr (.inr (.inr ⟨rfl, by decide, rfl, rfl⟩))))
set_option maxHeartbeats 2000000 in
/-- What is kept of a request is accepted. -/
theorem fit_acc {k n c cnt : Int} {S O T M : List Sp} (h : chk k n c cnt false S O = 0) (hT : T.Sublist S) (hl : (T.length : Int) ≤ cnt) (hM : M = if k = 3 then O.take (min O.length T.length) else O) (hk : (k ≠ 1 ∧ k ≠ 3) ∨ T.length ≠ 0) :
    ansB (k, false, n, c, cnt, S, O) (k, true, n, 0, max (T.length : Int) M.length, T, M) = true := by
  obtain ⟨q1, q2, q3, q4, ⟨q5, q6⟩, ⟨q7, q8⟩, q9⟩ := chk_zero h
  have q9' : flwQ k c cnt S.length O.length := by
    unfold flw at q9
    rw [if_neg (by simp)] at q9
    exact of_decide_eq_true q9
  clear q9
  have hts := hT.length_le
  have hMl : M.length = if k = 3 then min O.length T.length else O.length := by
    rw [hM]
    split
    · rw [List.length_take]; omega
    · rfl
  have hMs : M.Sublist O := by
    rw [hM]
    split
    · exact List.take_sublist _ _
    · exact List.Sublist.refl _
  have hc' : chk k n 0 (max (T.length : Int) M.length) true T M = 0 := by
    have hM8 := hMs.length_le
    refine chk_intro q1 (by omega) (by omega) (by omega) (by omega) (spE_sub q7 hT) (spE_sub q8 hMs) ?_
    unfold flw
    rw [if_pos rfl]
    refine decide_eq_true (flw_fit q9' q1 (by omega) (by omega) hl ?_ (by omega))
    by_cases hk3 : k = 3
    · rw [if_pos hk3] at hMl; exact .inl ⟨hk3, by omega⟩
    · rw [if_neg hk3] at hMl; exact .inr ⟨hk3, by omega⟩
  have am1 : amB T S = true := decide_eq_true fun p hp => hT.subset hp
  have am2 : amB M O = true := decide_eq_true fun p hp => hMs.subset hp
  have hle : max (T.length : Int) M.length ≤ cnt ∨ (k ≠ 1 ∧ k ≠ 3) := by
    by_cases hk3 : k = 3
    · rw [if_pos hk3] at hMl; left; omega
    · rw [if_neg hk3] at hMl
      by_cases hk1 : k = 1
      · left
        rcases q9'.2 with h | h | h | h <;> omega
      · exact .inr ⟨hk1, hk3⟩
  have hMO : k = 2 → M = O := fun hk2 => by rw [hM, if_neg (by omega)]
  unfold ansB
  rw [show chkM (k, false, n, c, cnt, S, O) = 0 from h, show chkM (k, true, n, 0, max (T.length : Int) M.length, T, M) = 0 from hc']
  simp only [decide_true, Bool.true_and, Bool.not_false, Bool.true_and, ne_eq, not_true_eq_false, decide_false, Bool.false_or]
  unfold ansK
  rw [am1, am2]
  split
  · rw [decide_eq_true (by omega)]; rfl
  · split
    · rw [decide_eq_true (by omega)]; rfl
    · split
      · rename_i hk2
        exact decide_eq_true (hMO hk2)
      · rfl
theorem fit_ref {k n c cnt code : Int} {S O : List Sp} (h : chk k n c cnt false S O = 0) (hc : 1 ≤ code ∧ code ≤ 3) : ansB (k, false, n, c, cnt, S, O) (k, true, n, code, 0, [], []) = true := by
  obtain ⟨q1, q2, q3, q4, ⟨q5, q6⟩, ⟨q7, q8⟩, q9⟩ := chk_zero h
  have hc' : chk k n code 0 true [] [] = 0 := by
    refine chk_intro q1 (by omega) (by omega) (by omega) ⟨by decide, by decide⟩ rfl rfl ?_
    unfold flw
    rw [if_pos rfl]
    refine decide_eq_true (.inl ⟨by omega, rfl, rfl, rfl⟩)
  unfold ansB
  rw [show chkM (k, false, n, c, cnt, S, O) = 0 from h, show chkM (k, true, n, code, 0, [], []) = 0 from hc']
  simp only [decide_true, Bool.true_and, Bool.not_false]
  rw [decide_eq_true (show code ≠ 0 by omega)]
  rfl
theorem fit_far {k n c cnt code : Int} {S O : List Sp} (h : chk k n c cnt false S O = 0) : ansB (k, false, (n + 1) % 256, c, cnt, S, O) (k, true, n, code, 0, [], []) = false := by
  obtain ⟨q1, q2, _⟩ := chk_zero h
  unfold ansB
  dsimp only
  rw [decide_eq_false (show ¬ (n + 1) % 256 = n by omega)]
  simp
theorem fit_no {m m' : MsgT} (h : m'.2.1 = false) : ansB m m' = false := by
  unfold ansB
  rw [h]
  simp
structure Fg where
  i : Nat
  T : List Sp
  t : Nat
set_option maxHeartbeats 16000000 in
theorem law_fits (k n c cnt k' n' c' cnt' : Int) (r r' : Bool) (S O S' O' : List Sp) (keep code : Int) (hkp : 0 ≤ keep ∧ keep ≤ 255) : ACalls Try.prog 7 [.agg #[.int .i64 k, .bool r, .int .i64 n, .int .i64 c, .int .i64 cnt, .slice (some ⟨0, 0, none⟩) S.length S.length, .slice (some ⟨1, 0, none⟩) O.length O.length], .agg #[.int .i64 k', .bool r', .int .i64 n', .int .i64 c', .int .i64 cnt', .slice (some ⟨2, 0, none⟩) S'.length S'.length, .slice (some ⟨3, 0, none⟩) O'.length O'.length], .int .u8 keep, .int .i64 code] [some ⟨S.flatMap spC, false, 2⟩, some ⟨O.flatMap spC, false, 2⟩, some ⟨S'.flatMap spC, false, 2⟩, some ⟨O'.flatMap spC, false, 2⟩] (.bool true) [none, none, none, none] := by
  obtain ⟨s, hs⟩ : ∃ s, S.length = s := ⟨_, rfl⟩
  obtain ⟨o, ho⟩ : ∃ o, O.length = o := ⟨_, rfl⟩
  rw [hs, ho]
  have HF := ac_few k n c cnt r s o
  by_cases hf : s ≤ 12 ∧ o ≤ 12
  · rw [decide_eq_true hf] at HF
    obtain ⟨s', hs'⟩ : ∃ s, S'.length = s := ⟨_, rfl⟩
    obtain ⟨o', ho'⟩ : ∃ o, O'.length = o := ⟨_, rfl⟩
    rw [hs', ho']
    have HG := ac_few k' n' c' cnt' r' s' o'
    by_cases hg : s' ≤ 12 ∧ o' ≤ 12
    · rw [decide_eq_true hg] at HG
      obtain ⟨y, hy⟩ : ∃ y, chk k n c cnt r S O = y := ⟨_, rfl⟩
      have HC := ac_check k n c cnt y r S O s o hs ho hy
      by_cases hy0 : y = 0
      · subst hy0
        cases r
        · have HA := ac_answers k n c cnt k n c cnt false false S O S O s o s o hs ho hs ho (by omega) (by omega) (by omega) (by omega) false (fit_no rfl)
          have HB := ac_answers k' n' c' cnt' k n c cnt r' false S' O' S O s' o' s o hs' ho' hs ho (by omega) (by omega) (by omega) (by omega) false (fit_no rfl)
          have q4 := (chk_zero hy).2.2.2.1
          have q2 := (chk_zero hy).2.1
          refine acalls_law Try.func7 rfl rfl rfl ?_
          refine aw_ghost 2 rfl ?_
          repeat' first
            | refine st ?_
            | refine st_call (ac_awake) ?_
            | refine stRW [0, 1] HF ?_
            | refine stRW [2, 3] HG ?_
            | refine stRW [0, 1] HC ?_
            | refine stRW [0, 1, 0, 1] HA ?_
            | refine stRW [2, 3, 0, 1] HB ?_
            | refine stm ?_
            | refine run_want rfl rfl ?_
            | refine run_unwant rfl rfl ?_
            | refine run_undef rfl rfl ?_
            | refine run_guard1t rfl rfl (by omega) ?_
            | refine run_guard1f rfl rfl (by omega) ?_
            | refine run_guard0t rfl rfl (by omega) ?_
            | refine run_guard0f rfl rfl (by omega) ?_
            | refine run_guard1 rfl rfl (fun h1 => ?_) (fun h1 => ?_)
            | refine run_guard0 rfl rfl (fun h1 => ?_) (fun h1 => ?_)
            | refine run_guard rfl rfl (fun h1 => ?_) (fun h1 => ?_)
            | refine run_nil ?_
            | refine aw_seq ?_
            | refine aw_region (by kernel_rfl) (Nat.le_of_ble_eq_true rfl) ?_
            | refine aw_block ?_
            | refine aw_cond_t rfl ?_
            | refine aw_cond_f rfl ?_
            | refine aw_cond_tp rfl (by omega) ?_
            | refine aw_cond_fp rfl (by omega) ?_
            | refine aw_cond1 rfl (fun h1 => ?_) (fun h1 => ?_)
            | refine aw_cond rfl (fun h1 => ?_) (fun h1 => ?_)
            | refine aw_skip ?_
            | refine aw_exit ?_
            | refine aw_ret ?_
            | refine pp_ret ?_
            | refine pp_normal ?_
          clear HA HB HG HF HC
          refine aw_loopg
            (S := fun y : Fg => [(2, .int .u8 keep), (3, .int .i64 code), (4, .pointer (some ⟨5, 0, none⟩)), (9, .slice (some ⟨4, 0, none⟩) y.t y.t), (46, .slice (some ⟨0, 0, none⟩) s s), (47, .int .i64 s), (48, .int .i64 y.i)])
            (B := fun y : Fg => [some ⟨S.flatMap spC, false, 2⟩, some ⟨O.flatMap spC, false, 2⟩, some ⟨S'.flatMap spC, false, 2⟩, some ⟨O'.flatMap spC, false, 2⟩, some ⟨y.T.flatMap spC, true, 2⟩, some ⟨[.int .i64 k, .bool false, .int .i64 n, .int .i64 c, .int .i64 cnt, .slice (some ⟨0, 0, none⟩) s s, .slice (some ⟨1, 0, none⟩) o o], true, 1⟩])
            (R := fun y : Fg => y.i ≤ s ∧ y.T.Sublist (S.take y.i) ∧ y.T.length = y.t ∧ (y.t : Int) ≤ cnt ∧ y.t ≤ y.i)
            (μ := fun y : Fg => s - y.i) ⟨0, [], 0⟩ (fitsD [0, 1, 2, 3, 4, 5]) ⟨Nat.zero_le _, List.Sublist.refl _, rfl, by dsimp only; omega, Nat.le_refl _⟩ ?_
          rintro ⟨i, T, t⟩ ⟨g1, g2, g3, g4, g5⟩
          dsimp only at *
          by_cases hi : i < s
          · obtain ⟨⟨a, e, u⟩, hq⟩ : ∃ q, S[i]? = some q := ⟨_, List.getElem?_eq_getElem (by omega)⟩
            have hts := take_snoc hq
            have gA : T.Sublist (S.take (i + 1)) := by rw [hts]; exact g2.trans (List.sublist_append_left _ _)
            have gB : (T ++ [(a, e, ())]).Sublist (S.take (i + 1)) := by rw [hts]; exact g2.append (List.Sublist.refl _)
            repeat' first
              | refine st (h := ok_load_rowsE (f := spC) (cs := [.int .i64 a, .int .i64 e]) (i) (fun _ => rfl) hq rfl rfl rfl rfl (by omega)) ?_
              | refine run_step (ok_append (cs := (T ++ [(a, e, ())]).flatMap spC) (olds := T.flatMap spC) rfl rfl rfl rfl rfl rfl (Src.slc rfl Ty.eq rfl (Nat.le_of_ble_eq_true rfl) rfl rfl rfl) (by rw [spC_len]; omega) (take_full (by rw [spC_len]; omega)) (by rw [List.flatMap_append]; rfl) (by omega) (by (repeat constructor))) (Nat.le_of_ble_eq_true rfl) ?_
              | refine st ?_
              | refine stm ?_
              | refine run_want rfl rfl ?_
              | refine run_unwant rfl rfl ?_
              | refine run_undef rfl rfl ?_
              | refine run_guard1t rfl rfl (by omega) ?_
              | refine run_guard1f rfl rfl (by omega) ?_
              | refine run_guard0t rfl rfl (by omega) ?_
              | refine run_guard0f rfl rfl (by omega) ?_
              | refine run_guard1 rfl rfl (fun h1 => ?_) (fun h1 => ?_)
              | refine run_guard0 rfl rfl (fun h1 => ?_) (fun h1 => ?_)
              | refine run_guard rfl rfl (fun h1 => ?_) (fun h1 => ?_)
              | refine run_nil ?_
              | refine aw_seq ?_
              | refine aw_region (by kernel_rfl) (Nat.le_of_ble_eq_true rfl) ?_
              | refine aw_block ?_
              | refine aw_cond_t rfl ?_
              | refine aw_cond_f rfl ?_
              | refine aw_cond_tp rfl (by omega) ?_
              | refine aw_cond_fp rfl (by omega) ?_
              | refine aw_cond1 rfl (fun h1 => ?_) (fun h1 => ?_)
              | refine aw_cond rfl (fun h1 => ?_) (fun h1 => ?_)
              | refine aw_skip ?_
              | refine aw_exit ?_
              | refine aw_ret ?_
              | refine pp_ret ?_
              | refine pp_normal ?_
            all_goals first
              | exact Exists.intro ⟨i + 1, T ++ [(a, e, ())], t + 1⟩ ⟨fitsD [0, 1, 2, 3, 8, 5], ⟨hi, gB, by dsimp only; rw [List.length_append, g3]; rfl, by dsimp only; omega, by dsimp only; omega⟩, by dsimp only; omega⟩
              | exact Exists.intro ⟨i + 1, T, t⟩ ⟨fitsD [0, 1, 2, 3, 4, 5], ⟨hi, gA, g3, g4, by dsimp only; omega⟩, by dsimp only; omega⟩
              | (exfalso; omega)
          · obtain rfl : s = i := by omega
            rw [← hs, List.take_length] at g2
            obtain ⟨u, hu⟩ : ∃ u : Nat, (if k = 3 then min o t else o) = u := ⟨_, rfl⟩
            have huo : u ≤ o := by rw [← hu]; split <;> omega
            obtain ⟨M, hM⟩ : ∃ M, O.take u = M := ⟨_, rfl⟩
            have hMl : M.length = u := by rw [← hM, List.length_take]; omega
            have hM2 : M = if k = 3 then O.take (min O.length T.length) else O := by
              rw [← hM, ← hu, ho, g3]
              split
              · rfl
              · exact List.take_of_length_le (by omega)
            obtain ⟨z, hz⟩ : ∃ z, ansB (k, false, n, c, cnt, S, O) (k, true, n, 0, max (t : Int) u, T, M) = z := ⟨_, rfl⟩
            have hfit : z = true ∨ (z = false ∧ t = 0 ∧ (k = 1 ∨ k = 3)) := by
              by_cases hk : (k ≠ 1 ∧ k ≠ 3) ∨ T.length ≠ 0
              · have := fit_acc hy g2 (by omega) hM2 hk
                rw [g3, hMl, hz] at this
                exact .inl this
              · cases z
                · exact .inr ⟨rfl, by omega, by omega⟩
                · exact .inl rfl
            have HAcc := ac_accept k n c cnt false S O s o hs ho (by omega) (by omega) (max (t : Int) u) T O T M t u (by omega) (by omega) (by omega) (by omega) (List.take_of_length_le (by omega)) hM
            have hcode : (1 ≤ code ∧ code ≤ 3 ∧ ACalls Try.prog 21 [.agg #[.int .i64 k, .bool false, .int .i64 n, .int .i64 c, .int .i64 cnt, .slice (some ⟨0, 0, none⟩) s s, .slice (some ⟨1, 0, none⟩) o o], .int .i64 code] [some ⟨S.flatMap spC, false, 2⟩, some ⟨O.flatMap spC, false, 2⟩] (.tuple #[.agg #[.int .i64 k, .bool true, .int .i64 n, .int .i64 code, .int .i64 0, .slice (some ⟨2, 0, none⟩) 0 0, .slice (some ⟨3, 0, none⟩) 0 0], .int .i64 0]) [none, none, some ⟨[], true, 2⟩, some ⟨[], true, 2⟩]) ∨ ((code < 1 ∨ 3 < code) ∧ ACalls Try.prog 21 [.agg #[.int .i64 k, .bool false, .int .i64 n, .int .i64 c, .int .i64 cnt, .slice (some ⟨0, 0, none⟩) s s, .slice (some ⟨1, 0, none⟩) o o], .int .i64 code] [some ⟨S.flatMap spC, false, 2⟩, some ⟨O.flatMap spC, false, 2⟩] (.tuple #[.agg #[.int .i64 0, .bool false, .int .i64 0, .int .i64 0, .int .i64 0, .slice (some ⟨2, 0, none⟩) 0 0, .slice (some ⟨3, 0, none⟩) 0 0], .int .i64 2]) [none, none, some ⟨[], true, 2⟩, some ⟨[], true, 2⟩]) := by
              by_cases hcd : code < 1 ∨ 3 < code
              · refine .inr ⟨hcd, ac_refuse k n c cnt false S O s o hs ho code msg0 2 ?_⟩
                unfold refP
                rw [show chkM (k, false, n, c, cnt, S, O) = 0 from hy, if_neg (by simp), if_pos hcd]
              · refine .inl ⟨by omega, by omega, ac_refuse k n c cnt false S O s o hs ho code (k, true, n, code, 0, [], []) 0 ?_⟩
                unfold refP
                rw [show chkM (k, false, n, c, cnt, S, O) = 0 from hy, if_neg (by simp), if_neg hcd]
            have HAb : 1 ≤ code → code ≤ 3 → _ := fun h1 h2 => ac_answers k n c cnt k n code 0 false true S O [] [] s o 0 0 hs ho rfl rfl (by omega) (by omega) (by omega) (by omega) true (fit_ref hy ⟨h1, h2⟩)
            have HAf := ac_answers k ((n + 1) % 256) c cnt k n code 0 false true S O [] [] s o 0 0 hs ho rfl rfl (by omega) (by omega) (by omega) (by omega) false (fit_far hy)
            rcases hfit with rfl | ⟨rfl, ht0, hk13⟩
            · have hchk : chk k n 0 (max (t : Int) u) true T M = 0 := by
                unfold ansB at hz
                simp only [Bool.and_eq_true, decide_eq_true_eq] at hz
                exact hz.2.1
              have HCa := ac_check k n 0 (max (t : Int) u) 0 true T M t u g3 hMl hchk
              have HAa := ac_answers k n c cnt k n 0 (max (t : Int) u) false true S O T M s o t u hs ho g3 hMl (by omega) (by omega) (by omega) (by omega) true hz
              have HE := ac_equal T T t t g3 g3 (by omega) (by omega) true (decide_eq_true rfl)
              have HAcc := HAcc (k, true, n, 0, max (t : Int) u, T, M) 0 t u g3 hMl (by
                unfold accP
                rw [show chkM (k, false, n, c, cnt, S, O) = 0 from hy, if_neg (by simp)]
                dsimp only
                rw [hz, if_pos rfl])
              dsimp only at HAcc
              by_cases hk3 : k = 3
              · subst hk3
                rw [if_pos rfl] at hu
                have hum : min (o : Int) (t : Int) = (u : Int) := by omega
                clear hM2 hM hz hy hu hchk
                rcases hcode with ⟨c1, c2, HR⟩ | ⟨hcd, HR⟩
                · have HAb := HAb c1 c2
                  repeat' first
                    | refine st (v := .int .i64 (u : Int)) (h := by (rw [← hum]; apply ok_min; rfl; rfl)) ?_
                    | refine st ?_
                    | refine stMW [0, 1, 4, 1] HAcc ?_
                    | refine stRW [6, 7] HCa ?_
                    | refine stRW [0, 1, 6, 7] HAa ?_
                    | refine stRW [6, 4] HE ?_
                    | refine stMW [0, 1] HR ?_
                    | refine stRW [0, 1, 9, 10] HAb ?_
                    | refine stRW [0, 1, 9, 10] HAf ?_
                    | refine stm ?_
                    | refine run_want rfl rfl ?_
                    | refine run_unwant rfl rfl ?_
                    | refine run_undef rfl rfl ?_
                    | refine run_guard1t rfl rfl (by omega) ?_
                    | refine run_guard1f rfl rfl (by omega) ?_
                    | refine run_guard0t rfl rfl (by omega) ?_
                    | refine run_guard0f rfl rfl (by omega) ?_
                    | refine run_guard1 rfl rfl (fun h1 => ?_) (fun h1 => ?_)
                    | refine run_guard0 rfl rfl (fun h1 => ?_) (fun h1 => ?_)
                    | refine run_guard rfl rfl (fun h1 => ?_) (fun h1 => ?_)
                    | refine run_nil ?_
                    | refine aw_seq ?_
                    | refine aw_region (by kernel_rfl) (Nat.le_of_ble_eq_true rfl) ?_
                    | refine aw_block ?_
                    | refine aw_cond_t rfl ?_
                    | refine aw_cond_f rfl ?_
                    | refine aw_cond_tp rfl (by omega) ?_
                    | refine aw_cond_fp rfl (by omega) ?_
                    | refine aw_cond1 rfl (fun h1 => ?_) (fun h1 => ?_)
                    | refine aw_cond rfl (fun h1 => ?_) (fun h1 => ?_)
                    | refine aw_skip ?_
                    | refine aw_exit ?_
                    | refine aw_ret ?_
                    | refine pp_ret ?_
                    | refine pp_normal ?_
                  all_goals first
                    | rfl
                    | (exfalso; omega)
                    | (simp [retOf]; done)
                    | (exfalso; simp_all; first | done | omega)
                · clear HAb HAf
                  repeat' first
                    | refine st (v := .int .i64 (u : Int)) (h := by (rw [← hum]; apply ok_min; rfl; rfl)) ?_
                    | refine st ?_
                    | refine stMW [0, 1, 4, 1] HAcc ?_
                    | refine stRW [6, 7] HCa ?_
                    | refine stRW [0, 1, 6, 7] HAa ?_
                    | refine stRW [6, 4] HE ?_
                    | refine stMW [0, 1] HR ?_
                    | refine stRW [0, 1, 9, 10] HAb ?_
                    | refine stRW [0, 1, 9, 10] HAf ?_
                    | refine stm ?_
                    | refine run_want rfl rfl ?_
                    | refine run_unwant rfl rfl ?_
                    | refine run_undef rfl rfl ?_
                    | refine run_guard1t rfl rfl (by omega) ?_
                    | refine run_guard1f rfl rfl (by omega) ?_
                    | refine run_guard0t rfl rfl (by omega) ?_
                    | refine run_guard0f rfl rfl (by omega) ?_
                    | refine run_guard1 rfl rfl (fun h1 => ?_) (fun h1 => ?_)
                    | refine run_guard0 rfl rfl (fun h1 => ?_) (fun h1 => ?_)
                    | refine run_guard rfl rfl (fun h1 => ?_) (fun h1 => ?_)
                    | refine run_nil ?_
                    | refine aw_seq ?_
                    | refine aw_region (by kernel_rfl) (Nat.le_of_ble_eq_true rfl) ?_
                    | refine aw_block ?_
                    | refine aw_cond_t rfl ?_
                    | refine aw_cond_f rfl ?_
                    | refine aw_cond_tp rfl (by omega) ?_
                    | refine aw_cond_fp rfl (by omega) ?_
                    | refine aw_cond1 rfl (fun h1 => ?_) (fun h1 => ?_)
                    | refine aw_cond rfl (fun h1 => ?_) (fun h1 => ?_)
                    | refine aw_skip ?_
                    | refine aw_exit ?_
                    | refine aw_ret ?_
                    | refine pp_ret ?_
                    | refine pp_normal ?_
                  all_goals first
                    | rfl
                    | (exfalso; omega)
                    | (simp [retOf]; done)
                    | (exfalso; simp_all; first | done | omega)
              · rw [if_neg hk3] at hu
                obtain rfl : u = o := hu.symm
                have hum : min (u : Int) (t : Int) = (u : Int) ∨ True := .inr trivial
                clear hM2 hM hz hy hu hchk
                rcases hcode with ⟨c1, c2, HR⟩ | ⟨hcd, HR⟩
                · have HAb := HAb c1 c2
                  repeat' first
                    | refine st (v := .int .i64 (u : Int)) (h := by (rw [← hum]; apply ok_min; rfl; rfl)) ?_
                    | refine st ?_
                    | refine stMW [0, 1, 4, 1] HAcc ?_
                    | refine stRW [6, 7] HCa ?_
                    | refine stRW [0, 1, 6, 7] HAa ?_
                    | refine stRW [6, 4] HE ?_
                    | refine stMW [0, 1] HR ?_
                    | refine stRW [0, 1, 9, 10] HAb ?_
                    | refine stRW [0, 1, 9, 10] HAf ?_
                    | refine stm ?_
                    | refine run_want rfl rfl ?_
                    | refine run_unwant rfl rfl ?_
                    | refine run_undef rfl rfl ?_
                    | refine run_guard1t rfl rfl (by omega) ?_
                    | refine run_guard1f rfl rfl (by omega) ?_
                    | refine run_guard0t rfl rfl (by omega) ?_
                    | refine run_guard0f rfl rfl (by omega) ?_
                    | refine run_guard1 rfl rfl (fun h1 => ?_) (fun h1 => ?_)
                    | refine run_guard0 rfl rfl (fun h1 => ?_) (fun h1 => ?_)
                    | refine run_guard rfl rfl (fun h1 => ?_) (fun h1 => ?_)
                    | refine run_nil ?_
                    | refine aw_seq ?_
                    | refine aw_region (by kernel_rfl) (Nat.le_of_ble_eq_true rfl) ?_
                    | refine aw_block ?_
                    | refine aw_cond_t rfl ?_
                    | refine aw_cond_f rfl ?_
                    | refine aw_cond_tp rfl (by omega) ?_
                    | refine aw_cond_fp rfl (by omega) ?_
                    | refine aw_cond1 rfl (fun h1 => ?_) (fun h1 => ?_)
                    | refine aw_cond rfl (fun h1 => ?_) (fun h1 => ?_)
                    | refine aw_skip ?_
                    | refine aw_exit ?_
                    | refine aw_ret ?_
                    | refine pp_ret ?_
                    | refine pp_normal ?_
                  all_goals first
                    | rfl
                    | (exfalso; omega)
                    | (simp [retOf]; done)
                    | (exfalso; simp_all; first | done | omega)
                · clear HAb HAf
                  repeat' first
                    | refine st (v := .int .i64 (u : Int)) (h := by (rw [← hum]; apply ok_min; rfl; rfl)) ?_
                    | refine st ?_
                    | refine stMW [0, 1, 4, 1] HAcc ?_
                    | refine stRW [6, 7] HCa ?_
                    | refine stRW [0, 1, 6, 7] HAa ?_
                    | refine stRW [6, 4] HE ?_
                    | refine stMW [0, 1] HR ?_
                    | refine stRW [0, 1, 9, 10] HAb ?_
                    | refine stRW [0, 1, 9, 10] HAf ?_
                    | refine stm ?_
                    | refine run_want rfl rfl ?_
                    | refine run_unwant rfl rfl ?_
                    | refine run_undef rfl rfl ?_
                    | refine run_guard1t rfl rfl (by omega) ?_
                    | refine run_guard1f rfl rfl (by omega) ?_
                    | refine run_guard0t rfl rfl (by omega) ?_
                    | refine run_guard0f rfl rfl (by omega) ?_
                    | refine run_guard1 rfl rfl (fun h1 => ?_) (fun h1 => ?_)
                    | refine run_guard0 rfl rfl (fun h1 => ?_) (fun h1 => ?_)
                    | refine run_guard rfl rfl (fun h1 => ?_) (fun h1 => ?_)
                    | refine run_nil ?_
                    | refine aw_seq ?_
                    | refine aw_region (by kernel_rfl) (Nat.le_of_ble_eq_true rfl) ?_
                    | refine aw_block ?_
                    | refine aw_cond_t rfl ?_
                    | refine aw_cond_f rfl ?_
                    | refine aw_cond_tp rfl (by omega) ?_
                    | refine aw_cond_fp rfl (by omega) ?_
                    | refine aw_cond1 rfl (fun h1 => ?_) (fun h1 => ?_)
                    | refine aw_cond rfl (fun h1 => ?_) (fun h1 => ?_)
                    | refine aw_skip ?_
                    | refine aw_exit ?_
                    | refine aw_ret ?_
                    | refine pp_ret ?_
                    | refine pp_normal ?_
                  all_goals first
                    | rfl
                    | (exfalso; omega)
                    | (simp [retOf]; done)
                    | (exfalso; simp_all; first | done | omega)
            · have HAcc := HAcc msg0 12 0 0 rfl rfl (by
                unfold accP
                rw [show chkM (k, false, n, c, cnt, S, O) = 0 from hy, if_neg (by simp)]
                dsimp only
                rw [hz, if_neg (by decide)])
              dsimp only [msg0] at HAcc
              by_cases hk3 : k = 3
              · subst hk3
                rw [if_pos rfl] at hu
                have hum : min (o : Int) (t : Int) = (u : Int) := by omega
                clear hM2 hM hz hy hu
                rcases hcode with ⟨c1, c2, HR⟩ | ⟨hcd, HR⟩
                · have HAb := HAb c1 c2
                  repeat' first
                    | refine st (v := .int .i64 (u : Int)) (h := by (rw [← hum]; apply ok_min; rfl; rfl)) ?_
                    | refine st ?_
                    | refine stMW [0, 1, 4, 1] HAcc ?_
                    | refine stMW [0, 1] HR ?_
                    | refine stRW [0, 1, 9, 10] HAb ?_
                    | refine stRW [0, 1, 9, 10] HAf ?_
                    | refine stm ?_
                    | refine run_want rfl rfl ?_
                    | refine run_unwant rfl rfl ?_
                    | refine run_undef rfl rfl ?_
                    | refine run_guard1t rfl rfl (by omega) ?_
                    | refine run_guard1f rfl rfl (by omega) ?_
                    | refine run_guard0t rfl rfl (by omega) ?_
                    | refine run_guard0f rfl rfl (by omega) ?_
                    | refine run_guard1 rfl rfl (fun h1 => ?_) (fun h1 => ?_)
                    | refine run_guard0 rfl rfl (fun h1 => ?_) (fun h1 => ?_)
                    | refine run_guard rfl rfl (fun h1 => ?_) (fun h1 => ?_)
                    | refine run_nil ?_
                    | refine aw_seq ?_
                    | refine aw_region (by kernel_rfl) (Nat.le_of_ble_eq_true rfl) ?_
                    | refine aw_block ?_
                    | refine aw_cond_t rfl ?_
                    | refine aw_cond_f rfl ?_
                    | refine aw_cond_tp rfl (by omega) ?_
                    | refine aw_cond_fp rfl (by omega) ?_
                    | refine aw_cond1 rfl (fun h1 => ?_) (fun h1 => ?_)
                    | refine aw_cond rfl (fun h1 => ?_) (fun h1 => ?_)
                    | refine aw_skip ?_
                    | refine aw_exit ?_
                    | refine aw_ret ?_
                    | refine pp_ret ?_
                    | refine pp_normal ?_
                  all_goals first
                    | rfl
                    | (exfalso; omega)
                    | (simp [retOf]; done)
                    | (exfalso; simp_all; first | done | omega)
                · clear HAb HAf
                  repeat' first
                    | refine st (v := .int .i64 (u : Int)) (h := by (rw [← hum]; apply ok_min; rfl; rfl)) ?_
                    | refine st ?_
                    | refine stMW [0, 1, 4, 1] HAcc ?_
                    | refine stMW [0, 1] HR ?_
                    | refine stRW [0, 1, 9, 10] HAb ?_
                    | refine stRW [0, 1, 9, 10] HAf ?_
                    | refine stm ?_
                    | refine run_want rfl rfl ?_
                    | refine run_unwant rfl rfl ?_
                    | refine run_undef rfl rfl ?_
                    | refine run_guard1t rfl rfl (by omega) ?_
                    | refine run_guard1f rfl rfl (by omega) ?_
                    | refine run_guard0t rfl rfl (by omega) ?_
                    | refine run_guard0f rfl rfl (by omega) ?_
                    | refine run_guard1 rfl rfl (fun h1 => ?_) (fun h1 => ?_)
                    | refine run_guard0 rfl rfl (fun h1 => ?_) (fun h1 => ?_)
                    | refine run_guard rfl rfl (fun h1 => ?_) (fun h1 => ?_)
                    | refine run_nil ?_
                    | refine aw_seq ?_
                    | refine aw_region (by kernel_rfl) (Nat.le_of_ble_eq_true rfl) ?_
                    | refine aw_block ?_
                    | refine aw_cond_t rfl ?_
                    | refine aw_cond_f rfl ?_
                    | refine aw_cond_tp rfl (by omega) ?_
                    | refine aw_cond_fp rfl (by omega) ?_
                    | refine aw_cond1 rfl (fun h1 => ?_) (fun h1 => ?_)
                    | refine aw_cond rfl (fun h1 => ?_) (fun h1 => ?_)
                    | refine aw_skip ?_
                    | refine aw_exit ?_
                    | refine aw_ret ?_
                    | refine pp_ret ?_
                    | refine pp_normal ?_
                  all_goals first
                    | rfl
                    | (exfalso; omega)
                    | (simp [retOf]; done)
                    | (exfalso; simp_all; first | done | omega)
              · rw [if_neg hk3] at hu
                obtain rfl : u = o := hu.symm
                clear hM2 hM hz hy hu
                rcases hcode with ⟨c1, c2, HR⟩ | ⟨hcd, HR⟩
                · have HAb := HAb c1 c2
                  repeat' first
                    | refine st (v := .int .i64 (u : Int)) (h := by (rw [← hum]; apply ok_min; rfl; rfl)) ?_
                    | refine st ?_
                    | refine stMW [0, 1, 4, 1] HAcc ?_
                    | refine stMW [0, 1] HR ?_
                    | refine stRW [0, 1, 9, 10] HAb ?_
                    | refine stRW [0, 1, 9, 10] HAf ?_
                    | refine stm ?_
                    | refine run_want rfl rfl ?_
                    | refine run_unwant rfl rfl ?_
                    | refine run_undef rfl rfl ?_
                    | refine run_guard1t rfl rfl (by omega) ?_
                    | refine run_guard1f rfl rfl (by omega) ?_
                    | refine run_guard0t rfl rfl (by omega) ?_
                    | refine run_guard0f rfl rfl (by omega) ?_
                    | refine run_guard1 rfl rfl (fun h1 => ?_) (fun h1 => ?_)
                    | refine run_guard0 rfl rfl (fun h1 => ?_) (fun h1 => ?_)
                    | refine run_guard rfl rfl (fun h1 => ?_) (fun h1 => ?_)
                    | refine run_nil ?_
                    | refine aw_seq ?_
                    | refine aw_region (by kernel_rfl) (Nat.le_of_ble_eq_true rfl) ?_
                    | refine aw_block ?_
                    | refine aw_cond_t rfl ?_
                    | refine aw_cond_f rfl ?_
                    | refine aw_cond_tp rfl (by omega) ?_
                    | refine aw_cond_fp rfl (by omega) ?_
                    | refine aw_cond1 rfl (fun h1 => ?_) (fun h1 => ?_)
                    | refine aw_cond rfl (fun h1 => ?_) (fun h1 => ?_)
                    | refine aw_skip ?_
                    | refine aw_exit ?_
                    | refine aw_ret ?_
                    | refine pp_ret ?_
                    | refine pp_normal ?_
                  all_goals first
                    | rfl
                    | (exfalso; omega)
                    | (simp [retOf]; done)
                    | (exfalso; simp_all; first | done | omega)
                · clear HAb HAf
                  repeat' first
                    | refine st (v := .int .i64 (u : Int)) (h := by (rw [← hum]; apply ok_min; rfl; rfl)) ?_
                    | refine st ?_
                    | refine stMW [0, 1, 4, 1] HAcc ?_
                    | refine stMW [0, 1] HR ?_
                    | refine stRW [0, 1, 9, 10] HAb ?_
                    | refine stRW [0, 1, 9, 10] HAf ?_
                    | refine stm ?_
                    | refine run_want rfl rfl ?_
                    | refine run_unwant rfl rfl ?_
                    | refine run_undef rfl rfl ?_
                    | refine run_guard1t rfl rfl (by omega) ?_
                    | refine run_guard1f rfl rfl (by omega) ?_
                    | refine run_guard0t rfl rfl (by omega) ?_
                    | refine run_guard0f rfl rfl (by omega) ?_
                    | refine run_guard1 rfl rfl (fun h1 => ?_) (fun h1 => ?_)
                    | refine run_guard0 rfl rfl (fun h1 => ?_) (fun h1 => ?_)
                    | refine run_guard rfl rfl (fun h1 => ?_) (fun h1 => ?_)
                    | refine run_nil ?_
                    | refine aw_seq ?_
                    | refine aw_region (by kernel_rfl) (Nat.le_of_ble_eq_true rfl) ?_
                    | refine aw_block ?_
                    | refine aw_cond_t rfl ?_
                    | refine aw_cond_f rfl ?_
                    | refine aw_cond_tp rfl (by omega) ?_
                    | refine aw_cond_fp rfl (by omega) ?_
                    | refine aw_cond1 rfl (fun h1 => ?_) (fun h1 => ?_)
                    | refine aw_cond rfl (fun h1 => ?_) (fun h1 => ?_)
                    | refine aw_skip ?_
                    | refine aw_exit ?_
                    | refine aw_ret ?_
                    | refine pp_ret ?_
                    | refine pp_normal ?_
                  all_goals first
                    | rfl
                    | (exfalso; omega)
                    | (simp [retOf]; done)
                    | (exfalso; simp_all; first | done | omega)
        · refine acalls_law Try.func7 rfl rfl rfl ?_
          repeat' first
            | refine st ?_
            | refine st_call (ac_awake) ?_
            | refine stRW [0, 1] HF ?_
            | refine stRW [2, 3] HG ?_
            | refine stRW [0, 1] HC ?_
            | refine stRW [0, 1, 0, 1] HA ?_
            | refine stRW [2, 3, 0, 1] HB ?_
            | refine stm ?_
            | refine run_want rfl rfl ?_
            | refine run_unwant rfl rfl ?_
            | refine run_undef rfl rfl ?_
            | refine run_guard1t rfl rfl (by omega) ?_
            | refine run_guard1f rfl rfl (by omega) ?_
            | refine run_guard0t rfl rfl (by omega) ?_
            | refine run_guard0f rfl rfl (by omega) ?_
            | refine run_guard1 rfl rfl (fun h1 => ?_) (fun h1 => ?_)
            | refine run_guard0 rfl rfl (fun h1 => ?_) (fun h1 => ?_)
            | refine run_guard rfl rfl (fun h1 => ?_) (fun h1 => ?_)
            | refine run_nil ?_
            | refine aw_seq ?_
            | refine aw_region (by kernel_rfl) (Nat.le_of_ble_eq_true rfl) ?_
            | refine aw_block ?_
            | refine aw_cond_t rfl ?_
            | refine aw_cond_f rfl ?_
            | refine aw_cond_tp rfl (by omega) ?_
            | refine aw_cond_fp rfl (by omega) ?_
            | refine aw_cond1 rfl (fun h1 => ?_) (fun h1 => ?_)
            | refine aw_cond rfl (fun h1 => ?_) (fun h1 => ?_)
            | refine aw_skip ?_
            | refine aw_exit ?_
            | refine aw_ret ?_
            | refine pp_ret ?_
            | refine pp_normal ?_
          all_goals first
            | rfl
            | (exfalso; omega)
            | (simp [retOf]; done)
            | (exfalso; simp_all; first | done | omega)
      · refine acalls_law Try.func7 rfl rfl rfl ?_
        repeat' first
          | refine st ?_
          | refine st_call (ac_awake) ?_
          | refine stRW [0, 1] HF ?_
          | refine stRW [2, 3] HG ?_
          | refine stRW [0, 1] HC ?_
          | refine stRW [0, 1, 0, 1] HA ?_
          | refine stRW [2, 3, 0, 1] HB ?_
          | refine stm ?_
          | refine run_want rfl rfl ?_
          | refine run_unwant rfl rfl ?_
          | refine run_undef rfl rfl ?_
          | refine run_guard1t rfl rfl (by omega) ?_
          | refine run_guard1f rfl rfl (by omega) ?_
          | refine run_guard0t rfl rfl (by omega) ?_
          | refine run_guard0f rfl rfl (by omega) ?_
          | refine run_guard1 rfl rfl (fun h1 => ?_) (fun h1 => ?_)
          | refine run_guard0 rfl rfl (fun h1 => ?_) (fun h1 => ?_)
          | refine run_guard rfl rfl (fun h1 => ?_) (fun h1 => ?_)
          | refine run_nil ?_
          | refine aw_seq ?_
          | refine aw_region (by kernel_rfl) (Nat.le_of_ble_eq_true rfl) ?_
          | refine aw_block ?_
          | refine aw_cond_t rfl ?_
          | refine aw_cond_f rfl ?_
          | refine aw_cond_tp rfl (by omega) ?_
          | refine aw_cond_fp rfl (by omega) ?_
          | refine aw_cond1 rfl (fun h1 => ?_) (fun h1 => ?_)
          | refine aw_cond rfl (fun h1 => ?_) (fun h1 => ?_)
          | refine aw_skip ?_
          | refine aw_exit ?_
          | refine aw_ret ?_
          | refine pp_ret ?_
          | refine pp_normal ?_
        all_goals first
          | rfl
          | (exfalso; omega)
          | (simp [retOf]; done)
          | (exfalso; simp_all; first | done | omega)
    · rw [decide_eq_false hg] at HG
      refine acalls_law Try.func7 rfl rfl rfl ?_
      repeat' first
        | refine st ?_
        | refine st_call (ac_awake) ?_
        | refine stRW [0, 1] HF ?_
        | refine stRW [2, 3] HG ?_
        | refine stRW [0, 1] HC ?_
        | refine stRW [0, 1, 0, 1] HA ?_
        | refine stRW [2, 3, 0, 1] HB ?_
        | refine stm ?_
        | refine run_want rfl rfl ?_
        | refine run_unwant rfl rfl ?_
        | refine run_undef rfl rfl ?_
        | refine run_guard1t rfl rfl (by omega) ?_
        | refine run_guard1f rfl rfl (by omega) ?_
        | refine run_guard0t rfl rfl (by omega) ?_
        | refine run_guard0f rfl rfl (by omega) ?_
        | refine run_guard1 rfl rfl (fun h1 => ?_) (fun h1 => ?_)
        | refine run_guard0 rfl rfl (fun h1 => ?_) (fun h1 => ?_)
        | refine run_guard rfl rfl (fun h1 => ?_) (fun h1 => ?_)
        | refine run_nil ?_
        | refine aw_seq ?_
        | refine aw_region (by kernel_rfl) (Nat.le_of_ble_eq_true rfl) ?_
        | refine aw_block ?_
        | refine aw_cond_t rfl ?_
        | refine aw_cond_f rfl ?_
        | refine aw_cond_tp rfl (by omega) ?_
        | refine aw_cond_fp rfl (by omega) ?_
        | refine aw_cond1 rfl (fun h1 => ?_) (fun h1 => ?_)
        | refine aw_cond rfl (fun h1 => ?_) (fun h1 => ?_)
        | refine aw_skip ?_
        | refine aw_exit ?_
        | refine aw_ret ?_
        | refine pp_ret ?_
        | refine pp_normal ?_
      all_goals first
        | rfl
        | (exfalso; omega)
        | (simp [retOf]; done)
        | (exfalso; simp_all; first | done | omega)
  · rw [decide_eq_false hf] at HF
    refine acalls_law Try.func7 rfl rfl rfl ?_
    repeat' first
      | refine st ?_
      | refine st_call (ac_awake) ?_
      | refine stRW [0, 1] HF ?_
      | refine stRW [2, 3] HG ?_
      | refine stRW [0, 1] HC ?_
      | refine stRW [0, 1, 0, 1] HA ?_
      | refine stRW [2, 3, 0, 1] HB ?_
      | refine stm ?_
      | refine run_want rfl rfl ?_
      | refine run_unwant rfl rfl ?_
      | refine run_undef rfl rfl ?_
      | refine run_guard1t rfl rfl (by omega) ?_
      | refine run_guard1f rfl rfl (by omega) ?_
      | refine run_guard0t rfl rfl (by omega) ?_
      | refine run_guard0f rfl rfl (by omega) ?_
      | refine run_guard1 rfl rfl (fun h1 => ?_) (fun h1 => ?_)
      | refine run_guard0 rfl rfl (fun h1 => ?_) (fun h1 => ?_)
      | refine run_guard rfl rfl (fun h1 => ?_) (fun h1 => ?_)
      | refine run_nil ?_
      | refine aw_seq ?_
      | refine aw_region (by kernel_rfl) (Nat.le_of_ble_eq_true rfl) ?_
      | refine aw_block ?_
      | refine aw_cond_t rfl ?_
      | refine aw_cond_f rfl ?_
      | refine aw_cond_tp rfl (by omega) ?_
      | refine aw_cond_fp rfl (by omega) ?_
      | refine aw_cond1 rfl (fun h1 => ?_) (fun h1 => ?_)
      | refine aw_cond rfl (fun h1 => ?_) (fun h1 => ?_)
      | refine aw_skip ?_
      | refine aw_exit ?_
      | refine aw_ret ?_
      | refine pp_ret ?_
      | refine pp_normal ?_
    all_goals first
      | rfl
      | (exfalso; omega)
      | (simp [retOf]; done)
      | (exfalso; simp_all; first | done | omega)
end Go.Proofs.Ytjamfmnlhiolkaa
