/- Join: members checked; Join: begun, waited (both). -/
import Derived.Test.YtdbcbclapipgdaaGreatDoorVO
import Derived.Test.YtdbcbclapipgdaaGreatDoorJ
import Derived.Test.YtdbcbclapipgdaaGreatDoorC13
import Derived.Test.YtdbcbclapipgdaaGreatDoorC15
import Derived.Test.YtdbcbclapipgdaaGreatDoorC16
import Derived.Test.YtdbcbclapipgdaaGreatDoorC17
set_option linter.unusedVariables false
set_option linter.unusedSimpArgs false
namespace Go.Proofs.YtdbcbclapipgdaaGreatDoor
open Go Av
set_option maxRecDepth 20000
set_option maxHeartbeats 16000000 in
theorem jm_b_o {Q : Exit → Slots → Mem → Prop} (L : List Mb) (n i : Nat) (nm sec : ByteArray) (nd no : Int) (hn : L.length = n) (hb : n ≤ 1000000) (hi : i < n) (hq : L[i]? = some ⟨nm, sec, nd, no⟩) (g2 : gdN L i = true) (hb0 : nmB nm = true) (hb1 : scB sec = true) (h1 : 0 ≤ no ∧ no ≤ 2147483647) (h0 : i ≠ 0) (nm' sec' : ByteArray) (nd' no' : Int) (hp : L[i - 1]? = some ⟨nm', sec', nd', no'⟩) (hlt : ltS nm' nm = false) (hR : ∀ σ m, PostP Tryz.prog Tryz.f21.results.toList (.int .i64 1) .ret σ m → Q .ret σ m) : AW Tryz.prog Tryz.f21.ntmps 1 (loopAt Tryz.f21 0) (ThenA (fun σ1 m1 => ∃ y : Mi, Fits 1 ([(0, .slice (some ⟨0, 0, none⟩) n n), (3, .pointer (some ⟨1, 0, none⟩)), (6, .slice (some ⟨0, 0, none⟩) n n), (7, .int .i64 n), (8, .int .i64 y.i)]) ([some ⟨L.flatMap mbC, false, 4⟩, some ⟨List.map Value.bool (tkL L y.i), true, 1⟩]) σ1 m1 ∧ (y.i ≤ n ∧ gdN L y.i = true) ∧ n - y.i < n - i) Q) ([(0, .slice (some ⟨0, 0, none⟩) n n), (3, .pointer (some ⟨1, 0, none⟩)), (6, .slice (some ⟨0, 0, none⟩) n n), (7, .int .i64 n), (8, .int .i64 i)]) ([some ⟨L.flatMap mbC, false, 4⟩, some ⟨List.map Value.bool (tkL L i), true, 1⟩]) := by
  have HN := ac_name nm true hb0
  have HS := ac_secret sec true hb1
  have HW0 : ACalls Tryz.prog 57 [.int .i64 no, .int .i64 0, .int .i64 2147483647] [] (.bool true) [] := by have h := ac_jwithin no 0 2147483647; rwa [decide_eq_true h1] at h
  clear g2
  repeat' first | intro h1 | intro h1 | refine st (h := ok_load_rowsE (f := mbC) (cs := [.string nm, .string sec, .int .i64 nd, .int .i64 no]) i (fun _ => rfl) hq rfl rfl rfl rfl (by omega)) ?_ | refine sdl (v := .string nm') (h := ok_load_rowcellE (f := mbC) (n := 4) (i - 1) 0 (fun _ => rfl) hp rfl (by omega) rfl rfl rfl (by omega)) ?_ | refine sd (h := ok_str_geq rfl rfl hlt) ?_ | refine st ?_ | refine sd_call (HN) ?_ | refine sd_call (HS) ?_ | refine sd_call (HW0) ?_ | refine hR _ _ ?_ | refine stm ?_ | refine run_nil ?_ | refine sd ?_ | refine sdl ?_ | refine Jk ?_ | refine Jl ?_ | refine Jn ?_ ?_ | refine rund_nil ?_ | refine Jz ?_ | refine Jw ?_ | refine Jx (id := 5) [0,1,3,7,15,31,63,127,255,511,1023,2047,4095,8191,16383,32767,65535,131071,262143,524287,1048575,1048575,3145727,8388607,16777215,33554431,1048575,68157439,268435455,536870911,1073741823] 31 ?_ | refine aw_block ?_ | refine Jq ?_ | refine Jr ?_ | refine Js ?_ | refine Jy ?_ | refine aw_exit ?_ | refine aw_ret ?_ | refine pp_ret ?_
  all_goals first
    | rfl
    | (exfalso; omega)
    | (simp [retOf]; done)
    | (exfalso; simp_all; done)
    | (exfalso; simp only [Bool.not_eq_true', Bool.not_eq_false', decide_eq_true_eq, decide_eq_false_iff_not, Bool.not_false, Bool.not_true] at *; omega)
theorem jm_bad {Q : Exit → Slots → Mem → Prop} (L : List Mb) (n i : Nat) (nm sec : ByteArray) (nd no : Int) (hn : L.length = n) (hb : n ≤ 1000000) (hi : i < n) (hq : L[i]? = some ⟨nm, sec, nd, no⟩) (g2 : gdN L i = true) (hgd : gdB L i ⟨nm, sec, nd, no⟩ = false) (hR : ∀ σ m, PostP Tryz.prog Tryz.f21.results.toList (.int .i64 1) .ret σ m → Q .ret σ m) : AW Tryz.prog Tryz.f21.ntmps 1 (loopAt Tryz.f21 0) (ThenA (fun σ1 m1 => ∃ y : Mi, Fits 1 ([(0, .slice (some ⟨0, 0, none⟩) n n), (3, .pointer (some ⟨1, 0, none⟩)), (6, .slice (some ⟨0, 0, none⟩) n n), (7, .int .i64 n), (8, .int .i64 y.i)]) ([some ⟨L.flatMap mbC, false, 4⟩, some ⟨List.map Value.bool (tkL L y.i), true, 1⟩]) σ1 m1 ∧ (y.i ≤ n ∧ gdN L y.i = true) ∧ n - y.i < n - i) Q) ([(0, .slice (some ⟨0, 0, none⟩) n n), (3, .pointer (some ⟨1, 0, none⟩)), (6, .slice (some ⟨0, 0, none⟩) n n), (7, .int .i64 n), (8, .int .i64 i)]) ([some ⟨L.flatMap mbC, false, 4⟩, some ⟨List.map Value.bool (tkL L i), true, 1⟩]) := by
  unfold gdB mb1 at hgd
  dsimp only at hgd
  cases ha : nmB nm with
  | false => exact jm_b_a L n i nm sec nd no hn hb hi hq g2 ha hR
  | true =>
  cases hc : scB sec with
  | false => exact jm_b_c L n i nm sec nd no hn hb hi hq g2 ha hc hR
  | true =>
  rw [ha, hc] at hgd
  simp only [Bool.true_and] at hgd
  by_cases h1 : 0 ≤ no ∧ no ≤ 2147483647
  case neg => exact jm_b_n L n i nm sec nd no hn hb hi hq g2 ha hc h1 hR
  have hn1 : nd ≠ -1 ∨ i ≠ 0 := by
    by_cases k : nd = -1
    · right
      intro k0
      rw [decide_eq_true ⟨h1, .inl k⟩, decide_eq_true k, decide_eq_true k0] at hgd
      simp at hgd
    · exact .inl k
  by_cases h0 : i = 0
  · have hn1 : nd ≠ -1 := by rcases hn1 with h | h; exact h; exact absurd h0 h
    by_cases h3 : 1 ≤ nd ∧ nd ≤ 31
    case neg => exact jm_b_dz L n i nm sec nd no hn hb hi hq g2 ha hc h1 h0 hn1 h3 hR
    by_cases h4 : 1 ≤ no
    case neg => exact jm_b_ez L n i nm sec nd no hn hb hi hq g2 ha hc h1 h0 hn1 h3 (by omega) hR
    rw [decide_eq_true ⟨h1, .inr ⟨h3, h4⟩⟩, decide_eq_false hn1, decide_eq_true h0] at hgd
    simp only [Bool.true_and, Bool.false_or, Bool.true_or] at hgd
    exact jm_b_tz L n i nm sec nd no hn hb hi hq g2 ha hc h1 h0 hn1 h3 h4 (by simpa using hgd) hR
  obtain ⟨⟨nm', sec', nd', no'⟩, hp⟩ : ∃ p, L[i - 1]? = some p := ⟨_, List.getElem?_eq_getElem (by omega)⟩
  rw [decide_eq_false h0, Bool.false_or, nmAt_at hp] at hgd
  dsimp only at hgd
  cases hlt : ltS nm' nm with
  | false => exact jm_b_o L n i nm sec nd no hn hb hi hq g2 ha hc h1 h0 nm' sec' nd' no' hp hlt hR
  | true =>
  rw [hlt, Bool.true_and] at hgd
  have hn1 : nd ≠ -1 := by
    intro k
    rw [decide_eq_true ⟨h1, .inl k⟩, decide_eq_true k] at hgd
    simp at hgd
  by_cases h3 : 1 ≤ nd ∧ nd ≤ 31
  case neg => exact jm_b_dp L n i nm sec nd no hn hb hi hq g2 ha hc h1 h0 nm' sec' nd' no' hp hlt hn1 h3 hR
  by_cases h4 : 1 ≤ no
  case neg => exact jm_b_ep L n i nm sec nd no hn hb hi hq g2 ha hc h1 h0 nm' sec' nd' no' hp hlt hn1 h3 (by omega) hR
  rw [decide_eq_true ⟨h1, .inr ⟨h3, h4⟩⟩, decide_eq_false hn1] at hgd
  simp only [Bool.true_and, Bool.false_or] at hgd
  exact jm_b_tp L n i nm sec nd no hn hb hi hq g2 ha hc h1 h0 nm' sec' nd' no' hp hlt hn1 h3 h4 (by simpa using hgd) hR
set_option maxHeartbeats 16000000 in
theorem ac_jMembers (L : List Mb) (n : Nat) (hn : L.length = n) (hb : n ≤ 1000000) : ACalls Tryz.prog 21 [.slice (some ⟨0, 0, none⟩) n n] [some ⟨L.flatMap mbC, false, 4⟩] (.int .i64 (cond (mmB L) 0 1)) [none] := by
  refine acalls_law Tryz.func21 rfl rfl rfl ?_
  repeat' first | refine st ?_ | refine stm ?_ | refine run_nil ?_ | refine Jz ?_ | refine Jw ?_ | refine aw_block ?_
  all_goals try (exfalso; omega)
  refine aw_loopg
    (S := fun y : Mi => [(0, .slice (some ⟨0, 0, none⟩) n n), (3, .pointer (some ⟨1, 0, none⟩)), (6, .slice (some ⟨0, 0, none⟩) n n), (7, .int .i64 n), (8, .int .i64 y.i)])
    (B := fun y : Mi => [some ⟨L.flatMap mbC, false, 4⟩, some ⟨List.map Value.bool (tkL L y.i), true, 1⟩])
    (R := fun y : Mi => y.i ≤ n ∧ gdN L y.i = true)
    (μ := fun y : Mi => n - y.i) ⟨0⟩ (fitsD [0, 1]) ⟨Nat.zero_le _, rfl⟩ ?_
  rintro ⟨i⟩ ⟨g1, g2⟩
  dsimp only at g1 g2 ⊢
  by_cases hi : i < n
  case neg =>
    obtain rfl : i = n := by omega
    have hm : mmB L = true := by unfold mmB; rw [hn]; exact g2
    rw [hm]
    clear g2
    repeat' first | refine st ?_ | refine run_nil ?_ | refine Jz ?_ | refine Jw ?_ | refine Jt ?_ | refine aw_exit ?_ | refine aw_ret ?_ | refine pp_ret ?_
    all_goals first
      | rfl
      | (exfalso; omega)
      | (simp [retOf]; done)
      | (exfalso; simp_all; done)
      | (exfalso; simp only [Bool.not_eq_true', Bool.not_eq_false', decide_eq_true_eq, decide_eq_false_iff_not, Bool.not_false, Bool.not_true] at *; omega)
  obtain ⟨⟨nm, sec, nd, no⟩, hq⟩ : ∃ m, L[i]? = some m := ⟨_, List.getElem?_eq_getElem (by omega)⟩
  have hnx := gdN_succ hq
  rw [g2, Bool.true_and] at hnx
  cases hgd : gdB L i ⟨nm, sec, nd, no⟩ with
  | false =>
    have hm := gdN_bad hq hgd
    rw [hm]
    clear hnx hm
    exact jm_bad L n i nm sec nd no hn hb hi hq g2 hgd (fun σ m h => h)
  | true =>
    have hg : gdN L (i + 1) = true := by rw [hnx, hgd]
    by_cases h0 : i = 0
    · by_cases hn1 : nd = -1
      · exact jm_gzn L n i nm sec nd no hn hb hi hq g2 h0 hn1 hgd hg
      · exact jm_gzt L n i nm sec nd no hn hb hi hq g2 h0 hn1 hgd hg
    · obtain ⟨⟨nm', sec', nd', no'⟩, hp⟩ : ∃ p, L[i - 1]? = some p := ⟨_, List.getElem?_eq_getElem (by omega)⟩
      by_cases hn1 : nd = -1
      · exact jm_gpn L n i nm sec nd no hn hb hi hq g2 h0 nm' sec' nd' no' hp hn1 hgd hg
      · exact jm_gpt L n i nm sec nd no hn hb hi hq g2 h0 nm' sec' nd' no' hp hn1 hgd hg
set_option maxHeartbeats 1000000 in
theorem ac_jin (nm sec : ByteArray) (sj pa ep nd no tr si : Int) (k : Int) (x y : Bool) (hx : chJ nm sec sj pa ep nd no tr si = x) (hy : decide (sj = k) = y) : ACalls Tryz.prog 59 [.agg #[.string nm, .string sec, .int .i64 sj, .int .i64 pa, .int .i64 ep, .int .i64 nd, .int .i64 no, .int .i64 tr, .int .i64 si], .int .i64 k] [] (.int .i64 (cond x (cond y 0 12) 1)) [] := by
  have HC := ac_jCheck nm sec sj pa ep nd no tr si x hx
  clear hx
  cases x
  · refine acalls_law Tryz.func59 rfl rfl rfl ?_
    repeat' first | refine st ?_ | refine st_call (HC) ?_ | refine stm ?_ | refine run_nil ?_ | refine Jz ?_ | refine Jw ?_ | refine aw_block ?_ | refine Jq ?_ | refine aw_ret ?_ | refine pp_ret ?_
    all_goals first
      | rfl
      | (exfalso; omega)
      | (simp [retOf]; done)
      | (exfalso; simp_all; done)
      | (exfalso; simp only [Bool.not_eq_true', Bool.not_eq_false', decide_eq_true_eq, decide_eq_false_iff_not, Bool.not_false, Bool.not_true] at *; omega)
  cases y
  · have hy := of_decide_eq_false hy
    refine acalls_law Tryz.func59 rfl rfl rfl ?_
    repeat' first | refine st ?_ | refine st_call (HC) ?_ | refine stm ?_ | refine run_nil ?_ | refine Jz ?_ | refine Jw ?_ | refine aw_block ?_ | refine Jr ?_ | refine Js ?_ | refine aw_ret ?_ | refine pp_ret ?_
    all_goals first
      | rfl
      | (exfalso; omega)
      | (simp [retOf]; done)
      | (exfalso; simp_all; done)
      | (exfalso; simp only [Bool.not_eq_true', Bool.not_eq_false', decide_eq_true_eq, decide_eq_false_iff_not, Bool.not_false, Bool.not_true] at *; omega)
  · obtain rfl : sj = k := of_decide_eq_true hy
    clear hy
    refine acalls_law Tryz.func59 rfl rfl rfl ?_
    repeat' first | refine st ?_ | refine st_call (HC) ?_ | refine stm ?_ | refine run_nil ?_ | refine Jz ?_ | refine Jw ?_ | refine aw_block ?_ | refine Jr ?_ | refine Jt ?_ | refine Jy ?_ | refine aw_ret ?_ | refine pp_ret ?_
    all_goals first
      | rfl
      | (exfalso; omega)
      | (simp [retOf]; done)
      | (exfalso; simp_all; done)
      | (exfalso; simp only [Bool.not_eq_true', Bool.not_eq_false', decide_eq_true_eq, decide_eq_false_iff_not, Bool.not_false, Bool.not_true] at *; omega)
theorem ac_anew (nm sec : ByteArray) (sj pa ep nd no tr si : Int) : ACalls Tryz.prog 79 [.agg #[.string nm, .string sec, .int .i64 sj, .int .i64 pa, .int .i64 ep, .int .i64 nd, .int .i64 no, .int .i64 tr, .int .i64 si]] [] (.agg #[.string nm, .string sec, .int .i64 0, .int .i64 (-1), .int .i64 0, .int .i64 (-1), .int .i64 no, .int .i64 0, .int .i64 0]) [] := by
  refine acalls_law Tryz.func79 rfl rfl rfl ?_
  repeat' first | refine st ?_ | refine stm ?_ | refine run_nil ?_ | refine Jz ?_ | refine Jw ?_ | refine aw_ret ?_ | refine pp_ret ?_
  all_goals first
    | rfl
    | (exfalso; omega)
    | (simp [retOf]; done)
    | (exfalso; simp_all; done)
    | (exfalso; simp only [Bool.not_eq_true', Bool.not_eq_false', decide_eq_true_eq, decide_eq_false_iff_not, Bool.not_false, Bool.not_true] at *; omega)
set_option maxHeartbeats 1000000 in
theorem ac_jStart (nm sec : ByteArray) : ACalls Tryz.prog 31 [.string nm, .string sec] [] (.tuple #[cond (nmB nm && scB sec) (.agg #[.string nm, .string sec, .int .i64 0, .int .i64 (-1), .int .i64 0, .int .i64 (-1), .int .i64 0, .int .i64 0, .int .i64 0]) (.agg #[.string ⟨#[]⟩, .string ⟨#[]⟩, .int .i64 0, .int .i64 0, .int .i64 0, .int .i64 0, .int .i64 0, .int .i64 0, .int .i64 0]), .int .i64 (cond (nmB nm) (cond (scB sec) 0 1) 4)]) [] := by
  obtain ⟨a, ha⟩ : ∃ a, nmB nm = a := ⟨_, rfl⟩
  obtain ⟨c, hc⟩ : ∃ c, scB sec = c := ⟨_, rfl⟩
  have HN := ac_name nm a ha
  have HS := ac_secret sec c hc
  have HA := ac_anew nm sec 0 0 0 0 0 0 0
  rw [ha, hc]
  clear ha hc
  cases a
  · refine acalls_law Tryz.func31 rfl rfl rfl ?_
    repeat' first | refine st ?_ | refine st_call (HN) ?_ | refine stm ?_ | refine run_nil ?_ | refine Jz ?_ | refine Jw ?_ | refine Jq ?_ | refine aw_ret ?_ | refine pp_ret ?_
    all_goals first
      | rfl
      | (exfalso; omega)
      | (simp [retOf]; done)
      | (exfalso; simp_all; done)
      | (exfalso; simp only [Bool.not_eq_true', Bool.not_eq_false', decide_eq_true_eq, decide_eq_false_iff_not, Bool.not_false, Bool.not_true] at *; omega)
  cases c
  · refine acalls_law Tryz.func31 rfl rfl rfl ?_
    repeat' first | refine st ?_ | refine st_call (HN) ?_ | refine st_call (HS) ?_ | refine stm ?_ | refine run_nil ?_ | refine Jz ?_ | refine Jw ?_ | refine Jq ?_ | refine Jr ?_ | refine Jy ?_ | refine aw_ret ?_ | refine pp_ret ?_
    all_goals first
      | rfl
      | (exfalso; omega)
      | (simp [retOf]; done)
      | (exfalso; simp_all; done)
      | (exfalso; simp only [Bool.not_eq_true', Bool.not_eq_false', decide_eq_true_eq, decide_eq_false_iff_not, Bool.not_false, Bool.not_true] at *; omega)
  · refine acalls_law Tryz.func31 rfl rfl rfl ?_
    repeat' first | refine st ?_ | refine st_call (HN) ?_ | refine st_call (HS) ?_ | refine st_call (HA) ?_ | refine stm ?_ | refine run_nil ?_ | refine Jz ?_ | refine Jw ?_ | refine Jr ?_ | refine Jy ?_ | refine aw_ret ?_ | refine pp_ret ?_
    all_goals first
      | rfl
      | (exfalso; omega)
      | (simp [retOf]; done)
      | (exfalso; simp_all; done)
      | (exfalso; simp only [Bool.not_eq_true', Bool.not_eq_false', decide_eq_true_eq, decide_eq_false_iff_not, Bool.not_false, Bool.not_true] at *; omega)
set_option maxHeartbeats 2000000 in
theorem ac_jWait0 (nm sec : ByteArray) (sj pa ep nd no tr si : Int) (slot w : Int) (hr : -9223372036854775808 ≤ slot ∧ slot ≤ 9223372036854775807) (h : (chJ nm sec sj pa ep nd no tr si && decide (sj = 2 ∧ 0 ≤ slot ∧ w ≤ slot - si)) = false) : ACalls Tryz.prog 35 [.agg #[.string nm, .string sec, .int .i64 sj, .int .i64 pa, .int .i64 ep, .int .i64 nd, .int .i64 no, .int .i64 tr, .int .i64 si], .int .i64 slot, .int .i64 w] [] (.tuple #[.agg #[.string nm, .string sec, .int .i64 sj, .int .i64 pa, .int .i64 ep, .int .i64 nd, .int .i64 no, .int .i64 tr, .int .i64 si], .bool false]) [] := by
  obtain ⟨x, hx⟩ : ∃ x, chJ nm sec sj pa ep nd no tr si = x := ⟨_, rfl⟩
  obtain ⟨y, hy⟩ : ∃ y, decide (sj = 2) = y := ⟨_, rfl⟩
  have HC := ac_jin nm sec sj pa ep nd no tr si 2 x y hx hy
  have HA := ac_anew nm sec sj pa ep nd no tr si
  rw [hx] at h
  cases x
  · clear hx h
    cases y
    · have hy := of_decide_eq_false hy
      refine acalls_law Tryz.func35 rfl rfl rfl ?_
      repeat' first | refine st ?_ | refine st_call (HC) ?_ | refine stm ?_ | refine Jb ?_ | refine run_nil ?_ | refine Jz ?_ | refine Jw ?_ | refine Jq ?_ | refine aw_ret ?_ | refine pp_ret ?_
      all_goals first
        | rfl
        | (exfalso; omega)
        | (simp [retOf]; done)
        | (exfalso; simp_all; done)
        | (exfalso; simp only [Bool.not_eq_true', Bool.not_eq_false', decide_eq_true_eq, decide_eq_false_iff_not, Bool.not_false, Bool.not_true] at *; omega)
    · have hy := of_decide_eq_true hy
      refine acalls_law Tryz.func35 rfl rfl rfl ?_
      repeat' first | refine st ?_ | refine st_call (HC) ?_ | refine stm ?_ | refine Jb ?_ | refine run_nil ?_ | refine Jz ?_ | refine Jw ?_ | refine Jq ?_ | refine aw_ret ?_ | refine pp_ret ?_
      all_goals first
        | rfl
        | (exfalso; omega)
        | (simp [retOf]; done)
        | (exfalso; simp_all; done)
        | (exfalso; simp only [Bool.not_eq_true', Bool.not_eq_false', decide_eq_true_eq, decide_eq_false_iff_not, Bool.not_false, Bool.not_true] at *; omega)
  obtain ⟨_, _, ⟨_, _, hs, _⟩, _⟩ := chJ_t hx
  clear hx
  rw [Bool.true_and] at h
  have h := of_decide_eq_false h
  cases y
  · have hy := of_decide_eq_false hy
    clear h
    refine acalls_law Tryz.func35 rfl rfl rfl ?_
    repeat' first | refine st ?_ | refine st_call (HC) ?_ | refine stm ?_ | refine Jb ?_ | refine run_nil ?_ | refine Jz ?_ | refine Jw ?_ | refine Jq ?_ | refine aw_ret ?_ | refine pp_ret ?_
    all_goals first
      | rfl
      | (exfalso; omega)
      | (simp [retOf]; done)
      | (exfalso; simp_all; done)
      | (exfalso; simp only [Bool.not_eq_true', Bool.not_eq_false', decide_eq_true_eq, decide_eq_false_iff_not, Bool.not_false, Bool.not_true] at *; omega)
  · have hy := of_decide_eq_true hy
    have h : slot < 0 ∨ slot - si < w := by omega
    rcases h with h | h
    · refine acalls_law Tryz.func35 rfl rfl rfl ?_
      repeat' first | refine st ?_ | refine st_call (HC) ?_ | refine stm ?_ | refine Ja ?_ | refine Jb ?_ | refine Jg ?_ | refine run_nil ?_ | refine Jz ?_ | refine Jw ?_ | refine Jq ?_ | refine aw_ret ?_ | refine pp_ret ?_
      all_goals first
        | rfl
        | (exfalso; omega)
        | (simp [retOf]; done)
        | (exfalso; simp_all; done)
        | (exfalso; simp only [Bool.not_eq_true', Bool.not_eq_false', decide_eq_true_eq, decide_eq_false_iff_not, Bool.not_false, Bool.not_true] at *; omega)
    · by_cases h2 : slot < 0
      · refine acalls_law Tryz.func35 rfl rfl rfl ?_
        repeat' first | refine st ?_ | refine st_call (HC) ?_ | refine stm ?_ | refine Ja ?_ | refine Jb ?_ | refine Jg ?_ | refine run_nil ?_ | refine Jz ?_ | refine Jw ?_ | refine Jq ?_ | refine aw_ret ?_ | refine pp_ret ?_
        all_goals first
          | rfl
          | (exfalso; omega)
          | (simp [retOf]; done)
          | (exfalso; simp_all; done)
          | (exfalso; simp only [Bool.not_eq_true', Bool.not_eq_false', decide_eq_true_eq, decide_eq_false_iff_not, Bool.not_false, Bool.not_true] at *; omega)
      · refine acalls_law Tryz.func35 rfl rfl rfl ?_
        repeat' first | refine st ?_ | refine st_call (HC) ?_ | refine stm ?_ | refine Ja ?_ | refine Jf ?_ | refine run_nil ?_ | refine Jz ?_ | refine Jw ?_ | refine Js ?_ | refine aw_ret ?_ | refine pp_ret ?_
        all_goals first
          | rfl
          | (exfalso; omega)
          | (simp [retOf]; done)
          | (exfalso; simp_all; done)
          | (exfalso; simp only [Bool.not_eq_true', Bool.not_eq_false', decide_eq_true_eq, decide_eq_false_iff_not, Bool.not_false, Bool.not_true] at *; omega)
set_option maxHeartbeats 2000000 in
theorem ac_jWait1 (nm sec : ByteArray) (sj pa ep nd no tr si : Int) (slot w : Int) (hr : -9223372036854775808 ≤ slot ∧ slot ≤ 9223372036854775807) (h : (chJ nm sec sj pa ep nd no tr si && decide (sj = 2 ∧ 0 ≤ slot ∧ w ≤ slot - si)) = true) (ht : tr = 4) : ACalls Tryz.prog 35 [.agg #[.string nm, .string sec, .int .i64 sj, .int .i64 pa, .int .i64 ep, .int .i64 nd, .int .i64 no, .int .i64 tr, .int .i64 si], .int .i64 slot, .int .i64 w] [] (.tuple #[.agg #[.string nm, .string sec, .int .i64 0, .int .i64 (-1), .int .i64 0, .int .i64 (-1), .int .i64 no, .int .i64 0, .int .i64 0], .bool true]) [] := by
  obtain ⟨hx, h⟩ := and_t h
  obtain ⟨h1, h2, h3⟩ := of_decide_eq_true h
  have hy : decide (sj = 2) = true := decide_eq_true h1
  have HC := ac_jin nm sec sj pa ep nd no tr si 2 true true hx hy
  have HA := ac_anew nm sec sj pa ep nd no tr si
  obtain ⟨_, _, ⟨_, _, hs, _⟩, _⟩ := chJ_t hx
  clear hx h hy
  refine acalls_law Tryz.func35 rfl rfl rfl ?_
  repeat' first | refine st ?_ | refine st_call (HC) ?_ | refine st_call (HA) ?_ | refine stm ?_ | refine Ja ?_ | refine Jf ?_ | refine run_nil ?_ | refine Jz ?_ | refine Jw ?_ | refine Js ?_ | refine Jt ?_ | refine Jy ?_ | refine aw_ret ?_ | refine pp_ret ?_
  all_goals first
    | rfl
    | (exfalso; omega)
    | (simp [retOf]; done)
    | (exfalso; simp_all; done)
    | (exfalso; simp only [Bool.not_eq_true', Bool.not_eq_false', decide_eq_true_eq, decide_eq_false_iff_not, Bool.not_false, Bool.not_true] at *; omega)
set_option maxHeartbeats 2000000 in
theorem ac_jWait2 (nm sec : ByteArray) (sj pa ep nd no tr si : Int) (slot w : Int) (hr : -9223372036854775808 ≤ slot ∧ slot ≤ 9223372036854775807) (h : (chJ nm sec sj pa ep nd no tr si && decide (sj = 2 ∧ 0 ≤ slot ∧ w ≤ slot - si)) = true) (ht : tr ≠ 4) : ACalls Tryz.prog 35 [.agg #[.string nm, .string sec, .int .i64 sj, .int .i64 pa, .int .i64 ep, .int .i64 nd, .int .i64 no, .int .i64 tr, .int .i64 si], .int .i64 slot, .int .i64 w] [] (.tuple #[.agg #[.string nm, .string sec, .int .i64 1, .int .i64 pa, .int .i64 ep, .int .i64 nd, .int .i64 no, .int .i64 tr, .int .i64 si], .bool true]) [] := by
  obtain ⟨hx, h⟩ := and_t h
  obtain ⟨h1, h2, h3⟩ := of_decide_eq_true h
  have hy : decide (sj = 2) = true := decide_eq_true h1
  have HC := ac_jin nm sec sj pa ep nd no tr si 2 true true hx hy
  have HA := ac_anew nm sec sj pa ep nd no tr si
  obtain ⟨_, _, ⟨_, _, hs, _, ht4⟩, _⟩ := chJ_t hx
  clear hx h hy
  refine acalls_law Tryz.func35 rfl rfl rfl ?_
  repeat' first | refine st ?_ | refine st_call (HC) ?_ | refine stm ?_ | refine Ja ?_ | refine Jf ?_ | refine run_nil ?_ | refine Jz ?_ | refine Jw ?_ | refine Jt ?_ | refine Jy ?_ | refine aw_ret ?_ | refine pp_ret ?_
  all_goals first
    | rfl
    | (exfalso; omega)
    | (simp [retOf]; done)
    | (exfalso; simp_all; done)
    | (exfalso; simp only [Bool.not_eq_true', Bool.not_eq_false', decide_eq_true_eq, decide_eq_false_iff_not, Bool.not_false, Bool.not_true] at *; omega)
end Go.Proofs.YtdbcbclapipgdaaGreatDoor
