/- BitioBack: the law. -/
import Derived.Test.YtmmaolnjjjdecaaLA
import Derived.Test.YtmmaolnjjjdecaaE6
set_option linter.unusedVariables false
set_option linter.unusedSimpArgs false
namespace Go.Proofs.Ytmmaolnjjjdecaa
open Go Av
set_option maxRecDepth 20000
theorem ok_bool_neqF {P : Program} {ρ : Operand → Option Value} {m : Mem} {dd : Option Tmp} {t : TypeId} {pp : String} {af : Array Edge} {g : Option (Nat × Bool)} {xt yt : TypeId} {x y : Operand} {a b : Bool} [Ty P xt .bool] (h : a = b) (hx : ρ x = some (.bool a)) (hy : ρ y = some (.bool b)) : OpOK P ⟨dd, .binOp .neq xt x y yt, t, pp, af, g⟩ ρ m (.bool false) m := by
  have := ok_bool_neq (P := P) (m := m) (d := dd) (t := t) (pp := pp) (af := af) (g := g) (xt := xt) (yt := yt) hx hy
  rwa [decide_eq_false (fun h' => h' h)] at this
structure U1g where
  i : Nat
  bs : List Int
  Z : List Int
  n : Nat
  k : Int
  e : Int
structure U2g where
  i : Nat
  a : Nat
set_option maxHeartbeats 8000000 in
theorem law_back (l : List Fd) (hr : ∀ f ∈ l, FdR f) : ACalls Try.prog 8 [.slice (some ⟨0, 0, none⟩) l.length l.length] [some ⟨l.flatMap fdC, false, 4⟩] (.bool true) [none] := by
  have hF := ac_few l
  obtain ⟨N, hN⟩ : ∃ N, l.length = N := ⟨_, rfl⟩
  by_cases hf : fewB l = true
  · rw [hf] at hF
    obtain ⟨f1, f2⟩ := fewB_len hf
    rw [hN] at hF f1 ⊢
    refine acalls_law Try.func8 rfl rfl rfl ?_
    repeat' first
      | refine st ?_
      | refine st_call (ac_awake) ?_
      | refine stRW [0] hF ?_
      | refine stMW [] ac_newW ?_
      | refine stm ?_
      | refine run_want rfl rfl ?_
      | refine run_unwant rfl rfl ?_
      | refine run_undef rfl rfl ?_
      | refine run_guard1t rfl rfl (by omega) ?_
      | refine run_guard1f rfl rfl (by omega) ?_
      | refine run_guard0t rfl rfl (by omega) ?_
      | refine run_guard0f rfl rfl (by omega) ?_
      | refine run_guard1 rfl rfl (fun h1 => ?_) (fun h1 => ?_)
      | refine run_guard0 rfl rfl (fun h1 => ?_) (fun h1 => ?_)
      | refine run_guard rfl rfl (fun h1 => ?_) (fun h1 => ?_)
      | refine run_nil ?_
      | refine aw_seq ?_
      | refine aw_region (by kernel_rfl) (Nat.le_of_ble_eq_true rfl) ?_
      | refine aw_block ?_
      | refine aw_cond_t rfl ?_
      | refine aw_cond_f rfl ?_
      | refine aw_cond_tp rfl (by omega) ?_
      | refine aw_cond_fp rfl (by omega) ?_
      | refine aw_cond1 rfl (fun h1 => ?_) (fun h1 => ?_)
      | refine aw_cond rfl (fun h1 => ?_) (fun h1 => ?_)
      | refine aw_skip ?_
      | refine aw_exit ?_
      | refine aw_ret ?_
      | refine pp_ret ?_
      | refine pp_normal ?_
    clear hF
    refine aw_loopg
      (S := fun y : U1g => [(0, .slice (some ⟨0, 0, none⟩) N N), (3, .pointer (some ⟨1, 0, none⟩)), (20, .slice (some ⟨0, 0, none⟩) N N), (21, .int .i64 N), (22, .int .i64 y.i)])
      (B := fun y : U1g => [some ⟨l.flatMap fdC, false, 4⟩, some ⟨[.slice (some ⟨2, 0, none⟩) y.n y.n, .int .i64 y.k, .int .i64 y.e], true, 1⟩, some ⟨List.map (Value.int .u8) y.Z, true, 1⟩])
      (R := fun y : U1g => y.i ≤ N ∧ pack y.bs = y.Z ∧ y.n = y.Z.length ∧ y.k = y.bs.length ∧ wrs l y.i = (y.bs, y.e))
      (μ := fun y : U1g => N - y.i) ⟨0, [], [], 0, 0, 0⟩ (fitsD [0, 1, 2]) ⟨Nat.zero_le _, rfl, rfl, rfl, rfl⟩ ?_
    rintro ⟨i, bs, Z, n, k, e⟩ ⟨g1, hZ, hn, hk, hw⟩
    dsimp only at *
    have hkeep := wrs_keep l i
    rw [hw] at hkeep
    obtain ⟨hl, hb⟩ := hkeep
    dsimp only at hl hb
    by_cases hi : i < N
    · obtain ⟨⟨q, w, x, t, u⟩, hq⟩ : ∃ q, l[i]? = some q := ⟨_, List.getElem?_eq_getElem (by omega)⟩
      obtain ⟨r1, r2, r3⟩ := hr _ (List.mem_of_getElem? hq)
      have ht := f2 _ (List.mem_of_getElem? hq)
      dsimp only at r1 r2 r3 ht
      obtain ⟨bs', e', hst⟩ : ∃ bs' e', wrF bs e q w x t = (bs', e') := ⟨_, _, rfl⟩
      have hw' : wrs l (i + 1) = (bs', e') := by rw [wrs, hq, hw]; exact hst
      obtain ⟨Z', hZ'⟩ : ∃ Z', pack bs' = Z' := ⟨_, rfl⟩
      obtain ⟨n', hn'⟩ : ∃ n', n' = Z'.length := ⟨_, rfl⟩
      obtain ⟨k', hk'⟩ : ∃ k' : Int, k' = bs'.length := ⟨_, rfl⟩
      have HX := ac_write q w x t e e' bs bs' Z Z' n n' k k' hZ hn hk hst hZ' hn' hk' hl r2 r3 (by omega)
      repeat' first
        | refine st (h := ok_load_rowsE (f := fdC) (cs := [.int .i64 q, .int .i64 w, .int .i64 x, .string t]) i (fun _ => rfl) hq rfl rfl rfl rfl (by omega)) ?_
        | refine st ?_
        | refine stMW [1, 2] HX ?_
        | refine stm ?_
        | refine run_want rfl rfl ?_
        | refine run_unwant rfl rfl ?_
        | refine run_undef rfl rfl ?_
        | refine run_guard1t rfl rfl (by omega) ?_
        | refine run_guard1f rfl rfl (by omega) ?_
        | refine run_guard0t rfl rfl (by omega) ?_
        | refine run_guard0f rfl rfl (by omega) ?_
        | refine run_guard1 rfl rfl (fun h1 => ?_) (fun h1 => ?_)
        | refine run_guard0 rfl rfl (fun h1 => ?_) (fun h1 => ?_)
        | refine run_guard rfl rfl (fun h1 => ?_) (fun h1 => ?_)
        | refine run_nil ?_
        | refine aw_seq ?_
        | refine aw_region (by kernel_rfl) (Nat.le_of_ble_eq_true rfl) ?_
        | refine aw_block ?_
        | refine aw_cond_t rfl ?_
        | refine aw_cond_f rfl ?_
        | refine aw_cond_tp rfl (by omega) ?_
        | refine aw_cond_fp rfl (by omega) ?_
        | refine aw_cond1 rfl (fun h1 => ?_) (fun h1 => ?_)
        | refine aw_cond rfl (fun h1 => ?_) (fun h1 => ?_)
        | refine aw_skip ?_
        | refine aw_exit ?_
        | refine aw_ret ?_
        | refine pp_ret ?_
        | refine pp_normal ?_
      all_goals first | exact Exists.intro ⟨i + 1, bs', Z', n', k', e'⟩ ⟨fitsD [0, 1, 4], ⟨hi, hZ', hn', hk', hw'⟩, by dsimp only; omega⟩ | (exfalso; omega)
    · obtain rfl : i = N := by omega
      by_cases he : e = 0
      · subst he
        have H1 := ac_bytes n k bs Z hZ hn
        obtain ⟨d, hd⟩ : ∃ d, pkB bs = d := ⟨_, rfl⟩
        have e1 : (⟨(Z.map b8).toArray⟩ : ByteArray) = d := by rw [← hZ]; exact hd
        rw [e1] at H1
        have hsz := pkB_size bs
        rw [hd] at hsz
        have HB := ac_bits n k 0 Z
        have HR := ac_newR d (by omega)
        repeat' first
          | refine st ?_
          | refine stRW [1, 2] H1 ?_
          | refine stRW [1, 2] HB ?_
          | refine stMW [] HR ?_
          | refine stm ?_
          | refine run_want rfl rfl ?_
          | refine run_unwant rfl rfl ?_
          | refine run_undef rfl rfl ?_
          | refine run_guard1t rfl rfl (by omega) ?_
          | refine run_guard1f rfl rfl (by omega) ?_
          | refine run_guard0t rfl rfl (by omega) ?_
          | refine run_guard0f rfl rfl (by omega) ?_
          | refine run_guard1 rfl rfl (fun h1 => ?_) (fun h1 => ?_)
          | refine run_guard0 rfl rfl (fun h1 => ?_) (fun h1 => ?_)
          | refine run_guard rfl rfl (fun h1 => ?_) (fun h1 => ?_)
          | refine run_nil ?_
          | refine aw_seq ?_
          | refine aw_region (by kernel_rfl) (Nat.le_of_ble_eq_true rfl) ?_
          | refine aw_block ?_
          | refine aw_cond_t rfl ?_
          | refine aw_cond_f rfl ?_
          | refine aw_cond_tp rfl (by omega) ?_
          | refine aw_cond_fp rfl (by omega) ?_
          | refine aw_cond1 rfl (fun h1 => ?_) (fun h1 => ?_)
          | refine aw_cond rfl (fun h1 => ?_) (fun h1 => ?_)
          | refine aw_skip ?_
          | refine aw_exit ?_
          | refine aw_ret ?_
          | refine pp_ret ?_
          | refine pp_normal ?_
        refine aw_loopg
          (S := fun y : U2g => [(3, .pointer (some ⟨1, 0, none⟩)), (6, .string d), (8, .pointer (some ⟨3, 0, none⟩)), (50, .slice (some ⟨0, 0, none⟩) i i), (51, .int .i64 i), (52, .int .i64 y.i)])
          (B := fun y : U2g => [some ⟨l.flatMap fdC, false, 4⟩, some ⟨[.slice (some ⟨2, 0, none⟩) n n, .int .i64 k, .int .i64 0], true, 1⟩, some ⟨List.map (Value.int .u8) Z, true, 1⟩, some ⟨[.string d, .int .i64 (y.a : Int), .int .i64 0], true, 1⟩])
          (R := fun y : U2g => y.i ≤ i ∧ (wrs l y.i).1.length = y.a)
          (μ := fun y : U2g => i - y.i) ⟨0, 0⟩ (fitsD [0, 1, 2, 3]) ⟨Nat.zero_le _, rfl⟩ ?_
        clear HR H1
        rintro ⟨j, a⟩ ⟨j1, ha⟩
        dsimp only at *
        obtain ⟨xs, hx⟩ : ∃ xs, (wrs l j).1 = xs := ⟨_, rfl⟩
        rw [hx] at ha
        obtain ⟨t1, ys, t2⟩ := wrs_to l j (i - j)
        rw [show j + (i - j) = i by omega, hw] at t1 t2
        dsimp only at t1 t2
        have h0 : (wrs l j).2 = 0 := by
          by_cases h : (wrs l j).2 = 0
          · exact h
          · exact absurd rfl (t1 h)
        rw [hx] at t2
        have hal : a ≤ bs.length := by rw [t2, List.length_append]; omega
        by_cases hj : j < i
        · obtain ⟨⟨q, w, x, t, u⟩, hq⟩ : ∃ q, l[j]? = some q := ⟨_, List.getElem?_eq_getElem (by omega)⟩
          obtain ⟨r1, r2, r3⟩ := hr _ (List.mem_of_getElem? hq)
          have ht := f2 _ (List.mem_of_getElem? hq)
          dsimp only at r1 r2 r3 ht
          obtain ⟨xs', e', hst⟩ : ∃ xs' e', wrF xs 0 q w x t = (xs', e') := ⟨_, _, rfl⟩
          have hw' : wrs l (j + 1) = (xs', e') := by rw [wrs, hq, hx, h0]; exact hst
          by_cases hq3 : 0 ≤ q ∧ q ≤ 3
          · obtain ⟨s1, zs, s2⟩ := wrs_to l (j + 1) (i - (j + 1))
            rw [show j + 1 + (i - (j + 1)) = i by omega, hw, hw'] at s1 s2
            dsimp only at s1 s2
            obtain rfl : e' = 0 := by
              by_cases h : e' = 0
              · exact h
              · exact absurd rfl (s1 h)
            obtain ⟨w', x', t', hrd, b1, b2, b3⟩ := back bs xs xs' zs hb q w x t hst s2 hq3
            rw [hd, ha] at hrd
            obtain ⟨a', ha'⟩ : ∃ a', xs'.length = a' := ⟨_, rfl⟩
            rw [ha'] at hrd
            have HX := ac_read q w x t w' x' t' 0 0 a a' d hrd (by omega) (by omega) r2
            have H5 := ac_err a' 0 d
            have hnext : (wrs l (j + 1)).1.length = a' := by rw [hw']; exact ha'
            by_cases c3 : q = 3
            · obtain rfl : t = t' := (b3 c3).symm
              clear b1 b2 b3
              repeat' first
                | refine st (h := ok_load_rowsE (f := fdC) (cs := [.int .i64 q, .int .i64 w, .int .i64 x, .string t]) j (fun _ => rfl) hq rfl rfl rfl rfl (by omega)) ?_
                | refine st (h := ok_str_eqlT rfl rfl) ?_
                | refine st (h := ok_str_neqF rfl rfl) ?_
                | refine st ?_
                | refine stMW [3] HX ?_
                | refine stRW [3] H5 ?_
                | refine stm ?_
                | refine run_want rfl rfl ?_
                | refine run_unwant rfl rfl ?_
                | refine run_undef rfl rfl ?_
                | refine run_guard1t rfl rfl (by omega) ?_
                | refine run_guard1f rfl rfl (by omega) ?_
                | refine run_guard0t rfl rfl (by omega) ?_
                | refine run_guard0f rfl rfl (by omega) ?_
                | refine run_guard1 rfl rfl (fun h1 => ?_) (fun h1 => ?_)
                | refine run_guard0 rfl rfl (fun h1 => ?_) (fun h1 => ?_)
                | refine run_guard rfl rfl (fun h1 => ?_) (fun h1 => ?_)
                | refine run_nil ?_
                | refine aw_seq ?_
                | refine aw_region (by kernel_rfl) (Nat.le_of_ble_eq_true rfl) ?_
                | refine aw_block ?_
                | refine aw_cond_t rfl ?_
                | refine aw_cond_f rfl ?_
                | refine aw_cond_tp rfl (by omega) ?_
                | refine aw_cond_fp rfl (by omega) ?_
                | refine aw_cond1 rfl (fun h1 => ?_) (fun h1 => ?_)
                | refine aw_cond rfl (fun h1 => ?_) (fun h1 => ?_)
                | refine aw_skip ?_
                | refine aw_exit ?_
                | refine aw_ret ?_
                | refine pp_ret ?_
                | refine pp_normal ?_
              all_goals first | exact Exists.intro ⟨j + 1, a'⟩ ⟨fitsD [0, 1, 2, 3], ⟨hj, hnext⟩, by dsimp only; omega⟩ | (exfalso; omega)
            · by_cases c2 : q = 2
              · have hiff := b2 c2
                clear b1 b2 b3
                repeat' first
                  | refine st (h := ok_load_rowsE (f := fdC) (cs := [.int .i64 q, .int .i64 w, .int .i64 x, .string t]) j (fun _ => rfl) hq rfl rfl rfl rfl (by omega)) ?_
                  | refine st (h := ok_str_eqlT rfl rfl) ?_
                  | refine st (h := ok_str_neqF rfl rfl) ?_
                  | refine st (h := ok_bool_neqF (decide_eq_decide.2 hiff) rfl rfl) ?_
                  | refine st ?_
                  | refine stMW [3] HX ?_
                  | refine stRW [3] H5 ?_
                  | refine stm ?_
                  | refine run_want rfl rfl ?_
                  | refine run_unwant rfl rfl ?_
                  | refine run_undef rfl rfl ?_
                  | refine run_guard1t rfl rfl (by omega) ?_
                  | refine run_guard1f rfl rfl (by omega) ?_
                  | refine run_guard0t rfl rfl (by omega) ?_
                  | refine run_guard0f rfl rfl (by omega) ?_
                  | refine run_guard1 rfl rfl (fun h1 => ?_) (fun h1 => ?_)
                  | refine run_guard0 rfl rfl (fun h1 => ?_) (fun h1 => ?_)
                  | refine run_guard rfl rfl (fun h1 => ?_) (fun h1 => ?_)
                  | refine run_nil ?_
                  | refine aw_seq ?_
                  | refine aw_region (by kernel_rfl) (Nat.le_of_ble_eq_true rfl) ?_
                  | refine aw_block ?_
                  | refine aw_cond_t rfl ?_
                  | refine aw_cond_f rfl ?_
                  | refine aw_cond_tp rfl (by omega) ?_
                  | refine aw_cond_fp rfl (by omega) ?_
                  | refine aw_cond1 rfl (fun h1 => ?_) (fun h1 => ?_)
                  | refine aw_cond rfl (fun h1 => ?_) (fun h1 => ?_)
                  | refine aw_skip ?_
                  | refine aw_exit ?_
                  | refine aw_ret ?_
                  | refine pp_ret ?_
                  | refine pp_normal ?_
                all_goals first | exact Exists.intro ⟨j + 1, a'⟩ ⟨fitsD [0, 1, 2, 3], ⟨hj, hnext⟩, by dsimp only; omega⟩ | (exfalso; omega)
              · obtain rfl : x = x' := (b1 (by omega)).symm
                clear b1 b2 b3
                repeat' first
                  | refine st (h := ok_load_rowsE (f := fdC) (cs := [.int .i64 q, .int .i64 w, .int .i64 x, .string t]) j (fun _ => rfl) hq rfl rfl rfl rfl (by omega)) ?_
                  | refine st (h := ok_str_eqlT rfl rfl) ?_
                  | refine st (h := ok_str_neqF rfl rfl) ?_
                  | refine st ?_
                  | refine stMW [3] HX ?_
                  | refine stRW [3] H5 ?_
                  | refine stm ?_
                  | refine run_want rfl rfl ?_
                  | refine run_unwant rfl rfl ?_
                  | refine run_undef rfl rfl ?_
                  | refine run_guard1t rfl rfl (by omega) ?_
                  | refine run_guard1f rfl rfl (by omega) ?_
                  | refine run_guard0t rfl rfl (by omega) ?_
                  | refine run_guard0f rfl rfl (by omega) ?_
                  | refine run_guard1 rfl rfl (fun h1 => ?_) (fun h1 => ?_)
                  | refine run_guard0 rfl rfl (fun h1 => ?_) (fun h1 => ?_)
                  | refine run_guard rfl rfl (fun h1 => ?_) (fun h1 => ?_)
                  | refine run_nil ?_
                  | refine aw_seq ?_
                  | refine aw_region (by kernel_rfl) (Nat.le_of_ble_eq_true rfl) ?_
                  | refine aw_block ?_
                  | refine aw_cond_t rfl ?_
                  | refine aw_cond_f rfl ?_
                  | refine aw_cond_tp rfl (by omega) ?_
                  | refine aw_cond_fp rfl (by omega) ?_
                  | refine aw_cond1 rfl (fun h1 => ?_) (fun h1 => ?_)
                  | refine aw_cond rfl (fun h1 => ?_) (fun h1 => ?_)
                  | refine aw_skip ?_
                  | refine aw_exit ?_
                  | refine aw_ret ?_
                  | refine pp_ret ?_
                  | refine pp_normal ?_
                all_goals first | exact Exists.intro ⟨j + 1, a'⟩ ⟨fitsD [0, 1, 2, 3], ⟨hj, hnext⟩, by dsimp only; omega⟩ | (exfalso; omega)
          · have hnext : (wrs l (j + 1)).1.length = a := by
              unfold wrF at hst
              rw [if_neg (by omega), if_neg (by omega), if_neg (by omega), if_neg (by omega)] at hst
              obtain ⟨rfl, _⟩ := Prod.mk.inj hst
              rw [hw']; exact ha
            repeat' first
              | refine st (h := ok_load_rowsE (f := fdC) (cs := [.int .i64 q, .int .i64 w, .int .i64 x, .string t]) j (fun _ => rfl) hq rfl rfl rfl rfl (by omega)) ?_
              | refine st ?_
              | refine stm ?_
              | refine run_want rfl rfl ?_
              | refine run_unwant rfl rfl ?_
              | refine run_undef rfl rfl ?_
              | refine run_guard1t rfl rfl (by omega) ?_
              | refine run_guard1f rfl rfl (by omega) ?_
              | refine run_guard0t rfl rfl (by omega) ?_
              | refine run_guard0f rfl rfl (by omega) ?_
              | refine run_guard1 rfl rfl (fun h1 => ?_) (fun h1 => ?_)
              | refine run_guard0 rfl rfl (fun h1 => ?_) (fun h1 => ?_)
              | refine run_guard rfl rfl (fun h1 => ?_) (fun h1 => ?_)
              | refine run_nil ?_
              | refine aw_seq ?_
              | refine aw_region (by kernel_rfl) (Nat.le_of_ble_eq_true rfl) ?_
              | refine aw_block ?_
              | refine aw_cond_t rfl ?_
              | refine aw_cond_f rfl ?_
              | refine aw_cond_tp rfl (by omega) ?_
              | refine aw_cond_fp rfl (by omega) ?_
              | refine aw_cond1 rfl (fun h1 => ?_) (fun h1 => ?_)
              | refine aw_cond rfl (fun h1 => ?_) (fun h1 => ?_)
              | refine aw_skip ?_
              | refine aw_exit ?_
              | refine aw_ret ?_
              | refine pp_ret ?_
              | refine pp_normal ?_
            all_goals first | exact Exists.intro ⟨j + 1, a⟩ ⟨fitsD [0, 1, 2, 3], ⟨hj, hnext⟩, by dsimp only; omega⟩ | (exfalso; omega)
        · obtain rfl : j = i := by omega
          have hax : a = bs.length := by rw [← ha, ← hx, hw]
          have hcl : closeR d a 0 = 0 := by
            unfold closeR
            rw [if_neg (by simp), if_neg]
            rintro (h | h)
            · omega
            · exact h (rdN_zero d a _ fun z hz => by rw [← hd, pkB_bit bs hb, if_neg (by omega)])
          have H3 := ac_closeR 0 0 a d hcl (by omega) (by omega)
          have HL := ac_left a d (by omega) (by omega)
          repeat' first
            | refine st ?_
            | refine stRW [3] HL ?_
            | refine stRW [1, 2] HB ?_
            | refine stRW [3] H3 ?_
            | refine stm ?_
            | refine run_want rfl rfl ?_
            | refine run_unwant rfl rfl ?_
            | refine run_undef rfl rfl ?_
            | refine run_guard1t rfl rfl (by omega) ?_
            | refine run_guard1f rfl rfl (by omega) ?_
            | refine run_guard0t rfl rfl (by omega) ?_
            | refine run_guard0f rfl rfl (by omega) ?_
            | refine run_guard1 rfl rfl (fun h1 => ?_) (fun h1 => ?_)
            | refine run_guard0 rfl rfl (fun h1 => ?_) (fun h1 => ?_)
            | refine run_guard rfl rfl (fun h1 => ?_) (fun h1 => ?_)
            | refine run_nil ?_
            | refine aw_seq ?_
            | refine aw_region (by kernel_rfl) (Nat.le_of_ble_eq_true rfl) ?_
            | refine aw_block ?_
            | refine aw_cond_t rfl ?_
            | refine aw_cond_f rfl ?_
            | refine aw_cond_tp rfl (by omega) ?_
            | refine aw_cond_fp rfl (by omega) ?_
            | refine aw_cond1 rfl (fun h1 => ?_) (fun h1 => ?_)
            | refine aw_cond rfl (fun h1 => ?_) (fun h1 => ?_)
            | refine aw_skip ?_
            | refine aw_exit ?_
            | refine aw_ret ?_
            | refine pp_ret ?_
            | refine pp_normal ?_
          all_goals first | rfl | simp [retOf] | (exfalso; omega)
      · have H1 := ac_bytesE n k e Z he
        repeat' first
          | refine st ?_
          | refine stRW [1, 2] H1 ?_
          | refine stm ?_
          | refine run_want rfl rfl ?_
          | refine run_unwant rfl rfl ?_
          | refine run_undef rfl rfl ?_
          | refine run_guard1t rfl rfl (by omega) ?_
          | refine run_guard1f rfl rfl (by omega) ?_
          | refine run_guard0t rfl rfl (by omega) ?_
          | refine run_guard0f rfl rfl (by omega) ?_
          | refine run_guard1 rfl rfl (fun h1 => ?_) (fun h1 => ?_)
          | refine run_guard0 rfl rfl (fun h1 => ?_) (fun h1 => ?_)
          | refine run_guard rfl rfl (fun h1 => ?_) (fun h1 => ?_)
          | refine run_nil ?_
          | refine aw_seq ?_
          | refine aw_region (by kernel_rfl) (Nat.le_of_ble_eq_true rfl) ?_
          | refine aw_block ?_
          | refine aw_cond_t rfl ?_
          | refine aw_cond_f rfl ?_
          | refine aw_cond_tp rfl (by omega) ?_
          | refine aw_cond_fp rfl (by omega) ?_
          | refine aw_cond1 rfl (fun h1 => ?_) (fun h1 => ?_)
          | refine aw_cond rfl (fun h1 => ?_) (fun h1 => ?_)
          | refine aw_skip ?_
          | refine aw_exit ?_
          | refine aw_ret ?_
          | refine pp_ret ?_
          | refine pp_normal ?_
        all_goals first | rfl | simp [retOf] | (exfalso; omega)
  · rw [Bool.not_eq_true] at hf
    rw [hf] at hF
    rw [hN] at hF ⊢
    refine acalls_law Try.func8 rfl rfl rfl ?_
    repeat' first
      | refine st ?_
      | refine st_call (ac_awake) ?_
      | refine stRW [0] hF ?_
      | refine stm ?_
      | refine run_want rfl rfl ?_
      | refine run_unwant rfl rfl ?_
      | refine run_undef rfl rfl ?_
      | refine run_guard1t rfl rfl (by omega) ?_
      | refine run_guard1f rfl rfl (by omega) ?_
      | refine run_guard0t rfl rfl (by omega) ?_
      | refine run_guard0f rfl rfl (by omega) ?_
      | refine run_guard1 rfl rfl (fun h1 => ?_) (fun h1 => ?_)
      | refine run_guard0 rfl rfl (fun h1 => ?_) (fun h1 => ?_)
      | refine run_guard rfl rfl (fun h1 => ?_) (fun h1 => ?_)
      | refine run_nil ?_
      | refine aw_seq ?_
      | refine aw_region (by kernel_rfl) (Nat.le_of_ble_eq_true rfl) ?_
      | refine aw_block ?_
      | refine aw_cond_t rfl ?_
      | refine aw_cond_f rfl ?_
      | refine aw_cond_tp rfl (by omega) ?_
      | refine aw_cond_fp rfl (by omega) ?_
      | refine aw_cond1 rfl (fun h1 => ?_) (fun h1 => ?_)
      | refine aw_cond rfl (fun h1 => ?_) (fun h1 => ?_)
      | refine aw_skip ?_
      | refine aw_exit ?_
      | refine aw_ret ?_
      | refine pp_ret ?_
      | refine pp_normal ?_
    all_goals first | rfl | (exfalso; omega)
end Go.Proofs.Ytmmaolnjjjdecaa
