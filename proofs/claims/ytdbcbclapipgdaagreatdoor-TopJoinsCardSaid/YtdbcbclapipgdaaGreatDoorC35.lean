/- TopJoins: what is compared at the end; TopJoins: turns and the end, joined; TopJoins: the law. -/
import Derived.Test.YtdbcbclapipgdaaGreatDoorVO
import Derived.Test.YtdbcbclapipgdaaGreatDoorJ
import Derived.Test.YtdbcbclapipgdaaGreatDoorC33
import Derived.Test.YtdbcbclapipgdaaGreatDoorC34
set_option linter.unusedVariables false
set_option linter.unusedSimpArgs false
namespace Go.Proofs.YtdbcbclapipgdaaGreatDoor
open Go Av
set_option maxRecDepth 20000
set_option maxHeartbeats 16000000 in
theorem tl_d {R : Exit → Slots → Mem → Prop} (Y : List ByteArray) (X : List (Int × Int)) (i p : Nat) (co : Int) (hco : 0 ≤ co ∧ co ≤ 65535) (hp8 : p ≤ 8) (hi : i < p) (L : List Mb) (Q : List Jnr) (hL : L.length = p) (hQ : Q.length = p) (nm sec nm2 sec2 : ByteArray) (nd no tr si nq : Int) (hq : Q[i]? = some ⟨nm, sec, 3, 0, 1, nd, no, tr, si⟩) (hm : L[i]? = some ⟨nm2, sec2, nd, nq⟩) (hnd : 1 ≤ nd ∧ nd ≤ 31) (HC : ACalls Tryz.prog 54 [.slice (some ⟨0, 0, none⟩) i i, .func (.func 55) #[] #[.pointer (some ⟨1, 0, none⟩)]] [some ⟨Q.flatMap jrC, false, 9⟩, some ⟨[.string nm, .string sec, .int .i64 3, .int .i64 0, .int .i64 1, .int .i64 nd, .int .i64 no, .int .i64 tr, .int .i64 si], false, 1⟩] (.bool false) [none, none]) : AW Tryz.prog Tryz.f11.ntmps 2 (loopAt Tryz.f11 2) (ThenA (fun σ1 m1 => ∃ y : Kt, Fits 2 ([(2, .int .u16 co), (7, .slice (some ⟨2, 0, none⟩) p p), (8, .slice (some ⟨3, 0, none⟩) p p), (17, .pointer (some ⟨4, 0, none⟩)), (178, .slice (some ⟨3, 0, none⟩) p p), (179, .int .i64 p), (180, .int .i64 y.i)]) ([some ⟨Y.map Value.string, false, 1⟩, some ⟨X.flatMap x2F, false, 2⟩, some ⟨L.flatMap mbC, true, 4⟩, some ⟨Q.flatMap jrC, true, 9⟩, some ⟨[.int .i64 3, .int .i64 0, .int .i64 (-1), .int .i64 0, .int .i64 0, .int .i64 0, .int .i64 0, .int .i64 0, .int .i64 0, .int .i64 0, .int .i64 1, .string opD], true, 1⟩]) σ1 m1 ∧ (y.i ≤ p) ∧ p - y.i < p - i) R) ([(2, .int .u16 co), (7, .slice (some ⟨2, 0, none⟩) p p), (8, .slice (some ⟨3, 0, none⟩) p p), (17, .pointer (some ⟨4, 0, none⟩)), (178, .slice (some ⟨3, 0, none⟩) p p), (179, .int .i64 p), (180, .int .i64 i)]) ([some ⟨Y.map Value.string, false, 1⟩, some ⟨X.flatMap x2F, false, 2⟩, some ⟨L.flatMap mbC, true, 4⟩, some ⟨Q.flatMap jrC, true, 9⟩, some ⟨[.int .i64 3, .int .i64 0, .int .i64 (-1), .int .i64 0, .int .i64 0, .int .i64 0, .int .i64 0, .int .i64 0, .int .i64 0, .int .i64 0, .int .i64 1, .string opD], true, 1⟩]) := by
  obtain ⟨c, hc⟩ : ∃ c, co % 1023 = c := ⟨_, rfl⟩
  have hcb : 0 ≤ c ∧ c ≤ 1022 := by omega
  have HK := ac_kstart nd hnd
  have HA := ac_kadopt nd (1 + c) hnd (by omega)
  repeat' first | intro h1 | intro h1 | refine st (h := ok_load_rowsE (f := jrC) (cs := [.string nm, .string sec, .int .i64 3, .int .i64 0, .int .i64 1, .int .i64 nd, .int .i64 no, .int .i64 tr, .int .i64 si]) i (fun _ => rfl) hq rfl rfl rfl rfl (by omega)) ?_ | refine sdl (v := .int .i64 nd) (h := ok_load_rowcellE (f := mbC) (n := 4) i 2 (fun _ => rfl) hm rfl (by omega) rfl rfl rfl (by omega)) ?_ | refine st (v := .int .i64 c) (h := by (rw [← hc]; exact ok_rem_pos rfl rfl (by omega))) ?_ | refine st ?_ | refine st_call (HK) ?_ | refine st_call (HA) ?_ | refine sdRW [3, 5] HC ?_ | refine sd (h := ok_makeFunc (by ((repeat (apply ArgsR.cons; rfl)); exact ArgsR.nil)) (by ((repeat (apply ArgsR.cons; rfl)); exact ArgsR.nil))) ?_ | refine stm ?_ | refine Ja ?_ | refine run_nil ?_ | refine sd ?_ | refine sdl ?_ | refine Jk ?_ | refine Jl ?_ | refine Jo ?_ ?_ | refine rund_nil ?_ | refine Jz ?_ | refine Jw ?_ | refine Jx (id := 46) [0,0,3,7,15,0,32,127,255,511,511,2047,511,8191,16383] 15 ?_ | refine aw_block ?_ | refine Jq ?_ | refine Jr ?_ | refine Js ?_ | refine Jy ?_ | refine aw_ret ?_
  all_goals first | exact Exists.intro ⟨i + 1⟩ ⟨fitsD [0, 1, 2, 3, 4], hi, by dsimp only; omega⟩ | (exfalso; omega)
/-- A turn. -/
theorem tl_turn {R : Exit → Slots → Mem → Prop} (Y : List ByteArray) (X : List (Int × Int)) (n i p : Nat) (co : Int) (hn : X.length = n) (hnb : n ≤ 20) (hp : 0 < p) (hp8 : p ≤ 8) (hi : i < n) (x0 x1 : Int) (hx : X[i]? = some (x0, x1)) (hx0 : 0 ≤ x0 ∧ x0 ≤ 255) (L : List Mb) (Q : List Jnr) (hI : tjI L Q p (i : Int)) : AW Tryz.prog Tryz.f11.ntmps 2 (loopAt Tryz.f11 1) (ThenA (fun σ1 m1 => ∃ y : Tj, Fits 2 ([(2, .int .u16 co), (7, .slice (some ⟨2, 0, none⟩) p p), (8, .slice (some ⟨3, 0, none⟩) p p), (17, .pointer (some ⟨4, 0, none⟩)), (115, .slice (some ⟨1, 0, none⟩) n n), (116, .int .i64 n), (117, .int .i64 y.i)]) ([some ⟨Y.map Value.string, false, 1⟩, some ⟨X.flatMap x2F, false, 2⟩, some ⟨y.L.flatMap mbC, true, 4⟩, some ⟨y.Q.flatMap jrC, true, 9⟩, some ⟨[.int .i64 3, .int .i64 0, .int .i64 (-1), .int .i64 0, .int .i64 0, .int .i64 0, .int .i64 0, .int .i64 0, .int .i64 0, .int .i64 0, .int .i64 1, .string opD], true, 1⟩]) σ1 m1 ∧ (y.i ≤ n ∧ tjI y.L y.Q p (y.i : Int)) ∧ n - y.i < n - i) R) ([(2, .int .u16 co), (7, .slice (some ⟨2, 0, none⟩) p p), (8, .slice (some ⟨3, 0, none⟩) p p), (17, .pointer (some ⟨4, 0, none⟩)), (115, .slice (some ⟨1, 0, none⟩) n n), (116, .int .i64 n), (117, .int .i64 i)]) ([some ⟨Y.map Value.string, false, 1⟩, some ⟨X.flatMap x2F, false, 2⟩, some ⟨L.flatMap mbC, true, 4⟩, some ⟨Q.flatMap jrC, true, 9⟩, some ⟨[.int .i64 3, .int .i64 0, .int .i64 (-1), .int .i64 0, .int .i64 0, .int .i64 0, .int .i64 0, .int .i64 0, .int .i64 0, .int .i64 0, .int .i64 1, .string opD], true, 1⟩]) := by
  obtain ⟨k, hk⟩ : ∃ k : Nat, x0 % (p : Int) = k := ⟨(x0 % (p : Int)).toNat, by have := Int.emod_nonneg x0 (show (p : Int) ≠ 0 by omega); omega⟩
  have hkp : k < p := by have := Int.emod_lt_of_pos x0 (show (0 : Int) < p by omega); omega
  have hL := hI.2.1
  have hQ := hI.2.2.1
  obtain ⟨⟨mn, ms, nd, nq⟩, hm⟩ : ∃ m, L[k]? = some m := ⟨_, List.getElem?_eq_getElem (by omega)⟩
  obtain ⟨⟨nm, sec, sj, pa, ep, jd, no, tr, si⟩, hq⟩ : ∃ j, Q[k]? = some j := ⟨_, List.getElem?_eq_getElem (by omega)⟩
  have hr := hI.2.2.2 k _ _ hm hq
  obtain ⟨r1, r2, r3, r4⟩ := id hr
  dsimp only at r1 r2 r3 r4
  subst r1 r2
  have m1 := mb1_t (and_t (mm_at hI.1 hm)).1
  dsimp only at m1
  have e1 : ((i + 1 : Nat) : Int) = (i : Int) + 1 := by omega
  have keep : ∀ d tr, (1 ≤ tr ∧ tr ≤ 4) → nd = d ∨ True → tjI L (Q.set k ⟨nm, sec, 2, 0, 1, -1, no + 1, tr, 10 * (i : Int)⟩) p ((i + 1 : Nat) : Int) := fun d tr htr _ => by
    rw [e1]
    exact tjI_set hI (fun q _ => rfl) hm hI.1 hL ⟨rfl, rfl, by dsimp only; omega, .inr (.inl ⟨rfl, rfl, rfl, rfl, htr, by dsimp only; omega, by dsimp only; omega⟩)⟩
  have take : ∀ d sj2 nd2 tr, (1 ≤ tr ∧ tr ≤ 4) → (1 ≤ d ∧ d ≤ 31) → ((sj2 = 2 ∧ nd2 = -1) ∨ (sj2 = 3 ∧ nd2 = d)) → mmB (L.set k ⟨nm, sec, d, no + 1⟩) = true → tjI (L.set k ⟨nm, sec, d, no + 1⟩) (Q.set k ⟨nm, sec, sj2, 0, 1, nd2, no + 1, tr, 10 * (i : Int)⟩) p ((i + 1 : Nat) : Int) := fun d sj2 nd2 tr htr hd hs hg => by
    rw [e1]
    refine tjI_set hI (fun q hq => List.getElem?_set_ne (Ne.symm hq)) (List.getElem?_set_self (by omega)) hg (by rw [List.length_set]; exact hL) ⟨rfl, rfl, by dsimp only; omega, ?_⟩
    rcases hs with ⟨rfl, rfl⟩ | ⟨rfl, rfl⟩
    · exact .inr (.inl ⟨rfl, rfl, rfl, rfl, htr, by dsimp only; omega, by dsimp only; omega⟩)
    · exact .inr (.inr ⟨rfl, rfl, rfl, rfl, hd⟩)
  have HH := tj_hear m1.1 m1.2.1 no (by omega)
  rcases r4 with ⟨rfl, rfl, rfl, rfl, rfl, rfl⟩ | ⟨rfl, rfl, rfl, rfl, t1, t2, t3⟩ | ⟨rfl, rfl, rfl, rfl, t1⟩
  · have HW := ac_jWait0 nm sec 0 (-1) 0 (-1) no 0 0 (10 * (i : Int) + 10) 10 (by omega) (by rw [decide_eq_false (by omega), Bool.and_false])
    rcases ac_exch nm sec no 0 0 (10 * (i : Int)) L p k nd nq x1 hL hp8 hI.1 hm (by omega) (by omega) (by decide) (by decide) (by omega) with HX | ⟨d, sj2, nd2, hd, _, hs, hg, HX⟩
    · exact tk_a1 Y X n i p co hn hnb hp hp8 hi x0 x1 hx L Q hL hQ k hk hkp hx0 nm sec no hq HW HH HX (keep nd 1 (by decide) (.inr trivial))
    · exact tk_a2 Y X n i p co hn hnb hp hp8 hi x0 x1 hx L Q hL hQ k hk hkp hx0 nm sec no hq HW HH _ sj2 nd2 HX (take d sj2 nd2 1 (by decide) hd hs hg)
  · have hch := tj_chA m1.1 m1.2.1 no tr si (by omega) t1 (by omega)
    by_cases ht : tr = 4
    · subst ht
      have HW := ac_jWait1 nm sec 2 0 1 (-1) no 4 si (10 * (i : Int) + 10) 10 (by omega) (by rw [hch, decide_eq_true (by omega)]; rfl) rfl
      rcases ac_exch nm sec no 0 0 (10 * (i : Int)) L p k nd nq x1 hL hp8 hI.1 hm (by omega) (by omega) (by decide) (by decide) (by omega) with HX | ⟨d, sj2, nd2, hd, _, hs, hg, HX⟩
      · exact tk_c1 Y X n i p co hn hnb hp hp8 hi x0 x1 hx L Q hL hQ k hk hkp hx0 nm sec no si hq HW HH HX (keep nd 1 (by decide) (.inr trivial))
      · exact tk_c2 Y X n i p co hn hnb hp hp8 hi x0 x1 hx L Q hL hQ k hk hkp hx0 nm sec no si hq HW HH _ sj2 nd2 HX (take d sj2 nd2 1 (by decide) hd hs hg)
    · have HW := ac_jWait2 nm sec 2 0 1 (-1) no tr si (10 * (i : Int) + 10) 10 (by omega) (by rw [hch, decide_eq_true (by omega)]; rfl) ht
      rcases ac_exch nm sec no tr si (10 * (i : Int)) L p k nd nq x1 hL hp8 hI.1 hm (by omega) (by omega) (by omega) (by omega) (by omega) with HX | ⟨d, sj2, nd2, hd, _, hs, hg, HX⟩
      · exact tk_b1 Y X n i p co hn hnb hp hp8 hi x0 x1 hx L Q hL hQ k hk hkp hx0 nm sec no tr si hq HW HX (keep nd (tr + 1) (by omega) (.inr trivial))
      · exact tk_b2 Y X n i p co hn hnb hp hp8 hi x0 x1 hx L Q hL hQ k hk hkp hx0 nm sec no tr si hq HW _ sj2 nd2 HX (take d sj2 nd2 (tr + 1) (by omega) hd hs hg)
  · exact tk_d Y X n i p co hn hnb hp hp8 hi x0 x1 hx L Q hL hQ k hk hkp hx0 nm sec jd no tr si hq (by rw [e1]; exact tjI_mono hI)
set_option maxHeartbeats 16000000 in
theorem tl_mid (Y : List ByteArray) (X : List (Int × Int)) (n p : Nat) (co : Int) (hco : 0 ≤ co ∧ co ≤ 65535) (hn : X.length = n) (hnb : n ≤ 20) (hX : ∀ x ∈ X, 0 ≤ x.1 ∧ x.1 ≤ 255) (hp8 : p ≤ 8) (L : List Mb) (Q : List Jnr) (hI : tjI L Q p 0) : AW Tryz.prog Tryz.f11.ntmps 2 (cdAt Tryz.f11 9) (PostP Tryz.prog Tryz.f11.results.toList (.bool true)) ([(1, .slice (some ⟨1, 0, none⟩) n n), (2, .int .u16 co), (7, .slice (some ⟨2, 0, none⟩) p p), (8, .slice (some ⟨3, 0, none⟩) p p)]) ([some ⟨Y.map Value.string, false, 1⟩, some ⟨X.flatMap x2F, false, 2⟩, some ⟨L.flatMap mbC, true, 4⟩, some ⟨Q.flatMap jrC, true, 9⟩]) := by
  by_cases hp : p = 0
  · subst hp
    clear hX hI
    repeat' first | refine st ?_ | refine run_nil ?_ | refine Jz ?_ | refine Jw ?_ | refine Jq ?_ | refine aw_ret ?_ | refine pp_ret ?_
    all_goals first
      | rfl
      | (exfalso; omega)
      | (simp [retOf]; done)
      | (exfalso; simp_all; done)
      | (exfalso; simp only [Bool.not_eq_true', Bool.not_eq_false', decide_eq_true_eq, decide_eq_false_iff_not, Bool.not_false, Bool.not_true] at *; omega)
  have H1 := ac_kstart0
  have H2 := tj_ann0
  have H3 := tj_dec0
  generalize tjT 0 = T at H2 H3
  repeat' first | refine st ?_ | refine st_call (H1) ?_ | refine st_call (H2) ?_ | refine st_call (H3) ?_ | refine stm ?_ | refine Ja ?_ | refine run_nil ?_ | refine Jz ?_ | refine Jw ?_ | refine aw_block ?_ | refine Jr ?_ | refine Jt ?_ | refine Jy ?_
  clear H1 H2 H3
  refine aw_loopg
    (S := fun y : Tj => [(2, .int .u16 co), (7, .slice (some ⟨2, 0, none⟩) p p), (8, .slice (some ⟨3, 0, none⟩) p p), (17, .pointer (some ⟨4, 0, none⟩)), (115, .slice (some ⟨1, 0, none⟩) n n), (116, .int .i64 n), (117, .int .i64 y.i)])
    (B := fun y : Tj => [some ⟨Y.map Value.string, false, 1⟩, some ⟨X.flatMap x2F, false, 2⟩, some ⟨y.L.flatMap mbC, true, 4⟩, some ⟨y.Q.flatMap jrC, true, 9⟩, some ⟨[.int .i64 3, .int .i64 0, .int .i64 (-1), .int .i64 0, .int .i64 0, .int .i64 0, .int .i64 0, .int .i64 0, .int .i64 0, .int .i64 0, .int .i64 1, .string opD], true, 1⟩])
    (R := fun y : Tj => y.i ≤ n ∧ tjI y.L y.Q p (y.i : Int))
    (μ := fun y : Tj => n - y.i) ⟨0, L, Q⟩ (fitsD [0, 1, 2, 3, 5]) ⟨Nat.zero_le _, hI⟩ ?_
  clear hI L Q
  rintro ⟨i, L, Q⟩ ⟨g1, g2⟩
  dsimp only at g1 g2 ⊢
  by_cases hi : i < n
  · obtain ⟨⟨x0, x1⟩, hx⟩ : ∃ x, X[i]? = some x := ⟨_, List.getElem?_eq_getElem (by omega)⟩
    exact tl_turn Y X n i p co hn hnb (by omega) hp8 hi x0 x1 hx (hX _ (List.mem_of_getElem? hx)) L Q g2
  · obtain rfl : i = n := by omega
    have HM := ac_jMembers L p g2.2.1 (by omega)
    rw [g2.1] at HM
    dsimp only [cond] at HM
    clear hX
    repeat' first | refine st ?_ | refine stRW [2] HM ?_ | refine run_nil ?_ | refine Jz ?_ | refine Jw ?_ | refine aw_block ?_ | refine Jr ?_ | refine Jt ?_ | refine Jy ?_ | refine aw_exit ?_
    clear HM
    refine aw_loopg
      (S := fun y : Kt => [(2, .int .u16 co), (7, .slice (some ⟨2, 0, none⟩) p p), (8, .slice (some ⟨3, 0, none⟩) p p), (17, .pointer (some ⟨4, 0, none⟩)), (178, .slice (some ⟨3, 0, none⟩) p p), (179, .int .i64 p), (180, .int .i64 y.i)])
      (B := fun _ : Kt => [some ⟨Y.map Value.string, false, 1⟩, some ⟨X.flatMap x2F, false, 2⟩, some ⟨L.flatMap mbC, true, 4⟩, some ⟨Q.flatMap jrC, true, 9⟩, some ⟨[.int .i64 3, .int .i64 0, .int .i64 (-1), .int .i64 0, .int .i64 0, .int .i64 0, .int .i64 0, .int .i64 0, .int .i64 0, .int .i64 0, .int .i64 1, .string opD], true, 1⟩])
      (R := fun y : Kt => y.i ≤ p)
      (μ := fun y : Kt => p - y.i) ⟨0⟩ (fitsD [0, 1, 2, 3, 4]) (Nat.zero_le _) ?_
    rintro ⟨j⟩ g3
    dsimp only at g3 ⊢
    by_cases hj : j < p
    · obtain ⟨⟨mn, ms, nd, nq⟩, hm⟩ : ∃ m, L[j]? = some m := ⟨_, List.getElem?_eq_getElem (by rw [g2.2.1]; exact hj)⟩
      obtain ⟨⟨nm, sec, sj, pa, ep, jd, no, tr, si⟩, hq⟩ : ∃ j', Q[j]? = some j' := ⟨_, List.getElem?_eq_getElem (by rw [g2.2.2.1]; exact hj)⟩
      have hr := (g2.2.2.2 j _ _ hm hq).2.2.2
      dsimp only at hr
      by_cases hs : sj = 3
      · rcases hr with h | h | ⟨_, rfl, rfl, rfl, hnd⟩
        · omega
        · omega
        · subst hs
          have HC := ac_tj3 Q j j (by rw [g2.2.2.1]; omega) (by omega) nm sec 3 0 1 jd no tr si (fun k q hk hqk hqq => by
            obtain ⟨b, hb⟩ : ∃ b, L[k]? = some b := ⟨_, List.getElem?_eq_getElem (by rw [g2.2.1]; omega)⟩
            have h1 := (g2.2.2.2 k _ _ hb hqk).2.2.2
            have h2 := tj_ne g2.1 hm hb hk (by dsimp only; omega)
            dsimp only at h2
            rcases h1 with h1 | h1 | h1
            · omega
            · omega
            · omega)
          exact tl_d Y X j p co hco hp8 hj L Q g2.2.1 g2.2.2.1 nm sec mn ms jd no tr si nq hq hm hnd HC
      · exact tl_n Y X j p co hco hp8 hj L Q g2.2.1 g2.2.2.1 nm sec sj pa ep jd no tr si hq hs
    · obtain rfl : j = p := by omega
      clear g2
      repeat' first | refine st ?_ | refine run_nil ?_ | refine Jz ?_ | refine Jw ?_ | refine Jt ?_ | refine aw_exit ?_ | refine aw_ret ?_ | refine pp_ret ?_
      all_goals first
        | rfl
        | (exfalso; omega)
        | (simp [retOf]; done)
        | (exfalso; simp_all; done)
        | (exfalso; simp only [Bool.not_eq_true', Bool.not_eq_false', decide_eq_true_eq, decide_eq_false_iff_not, Bool.not_false, Bool.not_true] at *; omega)
theorem tn_rune {P : Program} {ρ : Operand → Option Value} {m : Mem} {d : Option Tmp} {t : TypeId} {pp : String} {af : Array Edge} {g : Option (Nat × Bool)} {src dst : TypeId} {x : Operand} {k k0 : IntKind} {n : Int} {S : ByteArray} [Ty P src (.int k0)] [Ty P dst .string] (hx : ρ x = some (.int k n)) (h : Utf8.encode n = S) : OpOK P ⟨d, .convert src dst x, t, pp, af, g⟩ ρ m (.string S) m := .val fun _ _ _ a w _ _ ho => by
  have hb := (ho x _ (by simp [Op.operands]) hx).int'
  subst h
  exact ⟨_, by simp [execOp, hb, convert, run_und (Ty.eq (P := P) (t := src)), run_und (Ty.eq (P := P) (t := dst)), Conv.intToString], .string _⟩
theorem tn_mbS {L : List Mb} {m : Mb} : L.flatMap mbC ++ mbC m = (L ++ [m]).flatMap mbC := by
  rw [List.flatMap_append]; simp
theorem tn_jrS {L : List Jnr} {m : Jnr} : L.flatMap jrC ++ jrC m = (L ++ [m]).flatMap jrC := by
  rw [List.flatMap_append]; simp
theorem tn_mbL (L : List Mb) : (L.flatMap mbC).length = L.length * 4 := flat_len L fun _ _ => rfl
theorem tn_jrL (L : List Jnr) : (L.flatMap jrC).length = L.length * 9 := flat_len L fun _ _ => rfl
theorem tn_take {α : Type} {l : List α} {k : Nat} (h : l.length = k) : (l.drop 0).take k = l := by rw [List.drop_zero, List.take_of_length_le (by omega)]
theorem tn_enc : ∀ {i : Nat}, i ≤ 7 → (Utf8.encode (97 + (i : Int))).size = 1
  | 0, _ => rfl
  | 1, _ => rfl
  | 2, _ => rfl
  | 3, _ => rfl
  | 4, _ => rfl
  | 5, _ => rfl
  | 6, _ => rfl
  | 7, _ => rfl
  | i + 8, h => absurd h (by omega)
theorem tn_sz (u : ByteArray) (h : u.size = 1) : ((⟨#[115, 101, 99, 114, 101, 116, 32, 111, 102, 32]⟩ : ByteArray) ++ u).size = 11 := by
  rw [ByteArray.size_append, h]; rfl
theorem tn_sc (u : ByteArray) (h : u.size = 1) : scB ((⟨#[115, 101, 99, 114, 101, 116, 32, 111, 102, 32]⟩ : ByteArray) ++ u) = true := by
  unfold scB
  rw [tn_sz u h]
  rfl
theorem tn_lt {L : List Mb} {p : Nat} (g : mmB L = true) (hL : L.length = p) (hp : 0 < p) {m : Mb} (hm : L[p - 1]? = some m) {q : ByteArray} (hq : ltS m.nm q = true) (k : Nat) (x : Mb) (hx : L[k]? = some x) : ltS x.nm q = true := by
  have hk := (List.getElem?_eq_some_iff.1 hx).1
  rcases Nat.lt_or_ge k (p - 1) with h | h
  · have := gd_lt g h (by omega) (Nat.le_refl _)
    rw [nmAt_at hx, nmAt_at hm] at this
    exact lt_trans' this hq
  · obtain rfl : k = p - 1 := by omega
    rw [hm] at hx
    cases hx
    exact hq
structure Tn where
  i : Nat
  p : Nat
  L : List Mb
  Q : List Jnr
set_option maxHeartbeats 16000000 in
theorem law_topjoins (Y : List ByteArray) (n : Nat) (hY : Y.length = n) (X : List (Int × Int)) (nt : Nat) (hn : X.length = nt) (hX : ∀ x ∈ X, 0 ≤ x.1 ∧ x.1 ≤ 255) (co : Int) (hco : 0 ≤ co ∧ co ≤ 65535) : ACalls Tryz.prog 11 [.slice (some ⟨0, 0, none⟩) n n, .slice (some ⟨1, 0, none⟩) nt nt, .int .u16 co] [some ⟨Y.map Value.string, false, 1⟩, some ⟨X.flatMap x2F, false, 2⟩] (.bool true) [none, none] := by
  have HK := ac_tworks
  by_cases hn8 : n ≤ 8
  case neg =>
    refine acalls_law Tryz.func11 rfl rfl rfl ?_
    repeat' first | refine st ?_ | refine st_call (HK) ?_ | refine Jb ?_ | refine Jg ?_ | refine run_nil ?_ | refine Jz ?_ | refine Jw ?_ | refine Jq ?_ | refine Jr ?_ | refine Jy ?_ | refine aw_ret ?_ | refine pp_ret ?_
    all_goals first
      | rfl
      | (exfalso; omega)
      | (simp [retOf]; done)
      | (exfalso; simp_all; done)
      | (exfalso; simp only [Bool.not_eq_true', Bool.not_eq_false', decide_eq_true_eq, decide_eq_false_iff_not, Bool.not_false, Bool.not_true] at *; omega)
  by_cases hnb : nt ≤ 20
  case neg =>
    refine acalls_law Tryz.func11 rfl rfl rfl ?_
    repeat' first | refine st ?_ | refine st_call (HK) ?_ | refine Ja ?_ | refine Jf ?_ | refine run_nil ?_ | refine Jz ?_ | refine Jw ?_ | refine Jr ?_ | refine Js ?_ | refine Jy ?_ | refine aw_ret ?_ | refine pp_ret ?_
    all_goals first
      | rfl
      | (exfalso; omega)
      | (simp [retOf]; done)
      | (exfalso; simp_all; done)
      | (exfalso; simp only [Bool.not_eq_true', Bool.not_eq_false', decide_eq_true_eq, decide_eq_false_iff_not, Bool.not_false, Bool.not_true] at *; omega)
  refine acalls_law Tryz.func11 rfl rfl rfl ?_
  refine aw_ghost 4 rfl ?_
  refine aw_ghost 9 rfl ?_
  repeat' first | refine st ?_ | refine st_call (HK) ?_ | refine Ja ?_ | refine Jf ?_ | refine run_nil ?_ | refine Jz ?_ | refine Jw ?_ | refine aw_block ?_ | refine Jr ?_ | refine Jt ?_ | refine Jy ?_
  refine aw_loopg
    (S := fun y : Tn => [(1, .slice (some ⟨1, 0, none⟩) nt nt), (2, .int .u16 co), (7, .slice (some ⟨2, 0, none⟩) y.p y.p), (8, .slice (some ⟨3, 0, none⟩) y.p y.p), (41, .slice (some ⟨0, 0, none⟩) n n), (42, .int .i64 n), (43, .int .i64 y.i)])
    (B := fun y : Tn => [some ⟨Y.map Value.string, false, 1⟩, some ⟨X.flatMap x2F, false, 2⟩, some ⟨y.L.flatMap mbC, true, 4⟩, some ⟨y.Q.flatMap jrC, true, 9⟩])
    (R := fun y : Tn => y.i ≤ n ∧ y.p ≤ y.i ∧ tjI y.L y.Q y.p 0)
    (μ := fun y : Tn => n - y.i) ⟨0, 0, [], []⟩ (fitsD [0, 1, 2, 3]) ⟨Nat.zero_le _, Nat.le_refl _, rfl, rfl, rfl, fun k m j h => by simp at h⟩ ?_
  clear HK
  rintro ⟨i, p, L, Q⟩ ⟨g1, g2, g3⟩
  dsimp only at g1 g2 g3 ⊢
  by_cases hi : i < n
  · obtain ⟨q, hq⟩ : ∃ q, Y[i]? = some q := ⟨_, List.getElem?_eq_getElem (by omega)⟩
    have hL := g3.2.1
    have hQ := g3.2.2.1
    have hUs := tn_enc (i := p) (by omega)
    obtain ⟨U, hU⟩ : ∃ U, Utf8.encode (97 + (p : Int)) = U := ⟨_, rfl⟩
    rw [hU] at hUs
    have hSc := tn_sc U hUs
    have hSz := tn_sz U hUs
    obtain ⟨S, hS⟩ : ∃ S, (⟨#[115, 101, 99, 114, 101, 116, 32, 111, 102, 32]⟩ : ByteArray) ++ U = S := ⟨_, rfl⟩
    rw [hS] at hSc hSz
    have hSs : S.size ≤ 9223372036854775807 := by omega
    have HS := ac_jStart q S
    rw [hSc] at HS
    cases hx : nmB q with
    | false =>
      rw [hx] at HS
      have HS : ACalls Tryz.prog 31 [.string q, .string S] [] (.tuple #[(.agg #[.string ⟨#[]⟩, .string ⟨#[]⟩, .int .i64 0, .int .i64 0, .int .i64 0, .int .i64 0, .int .i64 0, .int .i64 0, .int .i64 0]), .int .i64 4]) [] := HS
      repeat' first | refine st (h := ok_load_mapE (f := Value.string) i hq rfl rfl rfl (by omega)) ?_ | refine st (h := tn_rune rfl hU) ?_ | refine st (h := ok_str_addD rfl rfl hS hSs) ?_ | refine st ?_ | refine st_call (HS) ?_ | refine stm ?_ | refine Jb ?_ | refine Jc ?_ | refine run_nil ?_ | refine Jz ?_ | refine Jw ?_ | refine aw_block ?_ | refine Jq ?_ | refine Js ?_ | refine Jy ?_ | refine aw_exit ?_
      all_goals first | exact Exists.intro ⟨i + 1, p, L, Q⟩ ⟨fitsD [0, 1, 2, 3], ⟨hi, by dsimp only; omega, g3⟩, by dsimp only; omega⟩
    | true =>
      rw [hx] at HS
      have HS : ACalls Tryz.prog 31 [.string q, .string S] [] (.tuple #[(.agg #[.string q, .string S, .int .i64 0, .int .i64 (-1), .int .i64 0, .int .i64 (-1), .int .i64 0, .int .i64 0, .int .i64 0]), .int .i64 0]) [] := HS
      have hcs : L.flatMap mbC ++ mbC (Mb.mk q S (-1) 0) = (L ++ [Mb.mk q S (-1) 0]).flatMap mbC := tn_mbS
      have hct : Q.flatMap jrC ++ jrC (Jnr.mk q S 0 (-1) 0 (-1) 0 0 0) = (Q ++ [Jnr.mk q S 0 (-1) 0 (-1) 0 0 0]).flatMap jrC := tn_jrS
      by_cases hp : p = 0
      · subst hp
        have hA := tjI_app g3 hx hSc fun k x hk => by
          have := (List.getElem?_eq_some_iff.1 hk).1
          omega
        clear hx g3
        repeat' first | refine st (h := ok_load_mapE (f := Value.string) i hq rfl rfl rfl (by omega)) ?_ | refine st (h := tn_rune rfl hU) ?_ | refine st (h := ok_str_addD rfl rfl hS hSs) ?_ | refine stm (h := by (apply ok_append (cs := (L ++ [Mb.mk q S (-1) 0]).flatMap mbC) (olds := L.flatMap mbC); rfl; rfl; rfl; rfl; rfl; rfl; (focus (apply Src.slc; rfl; exact Ty.eq; rfl; exact Nat.le_of_ble_eq_true rfl; exact TakeR.eq (by ((repeat constructor); first | done | fail)); rfl; rfl)); (focus (rw [tn_mbL, hL]; omega)); (focus (apply tn_take; rw [tn_mbL, hL])); (focus exact hcs); omega; (focus ((repeat constructor); first | done | fail)))) ?_ | refine stm (h := by (apply ok_append (cs := (Q ++ [Jnr.mk q S 0 (-1) 0 (-1) 0 0 0]).flatMap jrC) (olds := Q.flatMap jrC); rfl; rfl; rfl; rfl; rfl; rfl; (focus (apply Src.slc; rfl; exact Ty.eq; rfl; exact Nat.le_of_ble_eq_true rfl; exact TakeR.eq (by ((repeat constructor); first | done | fail)); rfl; rfl)); (focus (rw [tn_jrL, hQ]; omega)); (focus (apply tn_take; rw [tn_jrL, hQ])); (focus exact hct); omega; (focus ((repeat constructor); first | done | fail)))) ?_ | refine st ?_ | refine st_call (HS) ?_ | refine stm ?_ | refine Ja ?_ | refine Jb ?_ | refine run_nil ?_ | refine Jz ?_ | refine Jw ?_ | refine aw_block ?_ | refine Jr ?_ | refine Js ?_ | refine Jy ?_
        all_goals first | exact Exists.intro ⟨i + 1, 0 + 1, L ++ [⟨q, S, -1, 0⟩], Q ++ [⟨q, S, 0, -1, 0, -1, 0, 0, 0⟩]⟩ ⟨fitsD [0, 1, 6, 8], ⟨hi, by dsimp only; omega, hA⟩, by dsimp only; omega⟩
      · obtain ⟨⟨mn, ms, nd, no⟩, hp1⟩ : ∃ m, L[p - 1]? = some m := ⟨_, List.getElem?_eq_getElem (by omega)⟩
        cases hlt : ltS mn q with
        | false =>
          clear hcs hct
          repeat' first | refine st (h := ok_load_mapE (f := Value.string) i hq rfl rfl rfl (by omega)) ?_ | refine st (h := tn_rune rfl hU) ?_ | refine st (h := ok_str_addD rfl rfl hS hSs) ?_ | refine st (v := .string mn) (h := ok_load_rowcellE (f := mbC) (n := 4) (p - 1) 0 (fun _ => rfl) hp1 rfl (by omega) rfl rfl rfl (by omega)) ?_ | refine st (h := ok_str_geq rfl rfl hlt) ?_ | refine st ?_ | refine st_call (HS) ?_ | refine stm ?_ | refine Ja ?_ | refine Jd ?_ | refine run_nil ?_ | refine Jz ?_ | refine Jw ?_ | refine aw_block ?_ | refine Jq ?_ | refine Js ?_ | refine Jy ?_ | refine aw_exit ?_
          all_goals first | exact Exists.intro ⟨i + 1, p, L, Q⟩ ⟨fitsD [0, 1, 2, 3], ⟨hi, by dsimp only; omega, g3⟩, by dsimp only; omega⟩
        | true =>
          have hA := tjI_app g3 hx hSc (tn_lt g3.1 hL (by omega) hp1 hlt)
          clear hx g3
          repeat' first | refine st (h := ok_load_mapE (f := Value.string) i hq rfl rfl rfl (by omega)) ?_ | refine st (h := tn_rune rfl hU) ?_ | refine st (h := ok_str_addD rfl rfl hS hSs) ?_ | refine st (v := .string mn) (h := ok_load_rowcellE (f := mbC) (n := 4) (p - 1) 0 (fun _ => rfl) hp1 rfl (by omega) rfl rfl rfl (by omega)) ?_ | refine st (h := ok_str_geq rfl rfl hlt) ?_ | refine stm (h := by (apply ok_append (cs := (L ++ [Mb.mk q S (-1) 0]).flatMap mbC) (olds := L.flatMap mbC); rfl; rfl; rfl; rfl; rfl; rfl; (focus (apply Src.slc; rfl; exact Ty.eq; rfl; exact Nat.le_of_ble_eq_true rfl; exact TakeR.eq (by ((repeat constructor); first | done | fail)); rfl; rfl)); (focus (rw [tn_mbL, hL]; omega)); (focus (apply tn_take; rw [tn_mbL, hL])); (focus exact hcs); omega; (focus ((repeat constructor); first | done | fail)))) ?_ | refine stm (h := by (apply ok_append (cs := (Q ++ [Jnr.mk q S 0 (-1) 0 (-1) 0 0 0]).flatMap jrC) (olds := Q.flatMap jrC); rfl; rfl; rfl; rfl; rfl; rfl; (focus (apply Src.slc; rfl; exact Ty.eq; rfl; exact Nat.le_of_ble_eq_true rfl; exact TakeR.eq (by ((repeat constructor); first | done | fail)); rfl; rfl)); (focus (rw [tn_jrL, hQ]; omega)); (focus (apply tn_take; rw [tn_jrL, hQ])); (focus exact hct); omega; (focus ((repeat constructor); first | done | fail)))) ?_ | refine st ?_ | refine st_call (HS) ?_ | refine stm ?_ | refine Ja ?_ | refine Jd ?_ | refine run_nil ?_ | refine Jz ?_ | refine Jw ?_ | refine aw_block ?_ | refine Jr ?_ | refine Js ?_ | refine Jy ?_
          all_goals first | exact Exists.intro ⟨i + 1, p + 1, L ++ [⟨q, S, -1, 0⟩], Q ++ [⟨q, S, 0, -1, 0, -1, 0, 0, 0⟩]⟩ ⟨fitsD [0, 1, 6, 8], ⟨hi, by dsimp only; omega, hA⟩, by dsimp only; omega⟩
  · obtain rfl : i = n := by omega
    have HM := tl_mid Y X nt p co hco hn hnb hX (by omega) L Q g3
    clear hX g3
    repeat' first | exact aw_fits (fitsD [0, 1, 2, 3]) HM | refine st ?_ | refine run_nil ?_ | refine Jz ?_ | refine Jw ?_ | refine Jt ?_ | refine aw_exit ?_
end Go.Proofs.YtdbcbclapipgdaaGreatDoor
