/- Image: pages verified. -/
import Derived.Test.YtekkdoaakilafaaVL
import Derived.Test.YtekkdoaakilafaaS6
set_option linter.unusedVariables false
set_option linter.unusedSimpArgs false
namespace Go.Proofs.Ytekkdoaakilafaa
open Go Av
set_option maxRecDepth 20000
/-- The error of the data of a page. -/
def vfE (v sz pg e i : Int) (L : List ByteArray) (d : ByteArray) : Int := if e ≠ 0 then e else if (d.size : Int) ≠ lenM sz pg i then 11 else if some (dgS v i d) ≠ L[i.toNat]? then 20 else 0
set_option maxHeartbeats 8000000 in
theorem ac_verify (v sz pg pk i : Int) (L : List ByteArray) (n : Nat) (hn : L.length = n) (hb : n ≤ 9000000000000000000) (d : ByteArray) (hd : d.size ≤ 9000000000000000000) (c : Int) (hc : chkM v sz pg pk L = c) (e : Int) (he : pgE c n i = e) (y : Int) (hy : vfE v sz pg e i L d = y) : ACalls Try.prog 92 [.agg #[.int .i64 v, .int .i64 sz, .int .i64 pg, .int .i64 pk, .slice (some ⟨0, 0, none⟩) n n], .int .i64 i, .string d] [some ⟨List.map Value.string L, false, 1⟩] (.int .i64 y) [none] := by
  have H1 := ac_page v sz pg pk i L n hn hb c hc e he
  unfold vfE at hy
  by_cases h1 : e ≠ 0
  · rw [if_pos h1] at hy
    subst hy
    clear hc he
    refine acalls_law Try.func92 rfl rfl rfl ?_
    repeat' first | intro h1 | refine st ?_ | refine stRW [0] H1 ?_ | refine sdRW [0] H1 ?_ | refine stm ?_ | refine Ja ?_ | refine Jb ?_ | refine Jc ?_ | refine Jd ?_ | refine Je ?_ | refine Jf ?_ | refine Jg ?_ | refine Jh ?_ ?_ | refine Ji ?_ ?_ | refine Jj ?_ ?_ | refine run_nil ?_ | refine sd ?_ | refine sdl ?_ | refine sdm (n := 1) ?_ | refine sdm ?_ | refine sdb ?_ | refine Jk ?_ | refine Jl ?_ | refine Jm ?_ | refine Jn ?_ ?_ | refine Jo ?_ ?_ | refine Jp ?_ ?_ | refine rund_nil ?_ | refine Jz ?_ | refine Jw ?_ | refine Jx (id := 6) [0,1,0,0,15,0,32,0,224,480,1023,2047] 12 ?_ | refine aw_block ?_ | refine Jq ?_ | refine Jr ?_ | refine Js ?_ | refine Jt ?_ | refine Ju ?_ ?_ | refine Jv ?_ ?_ | refine Jy ?_ | refine aw_exit ?_ | refine aw_ret ?_ | refine pp_ret ?_ | refine pp_normal ?_
    all_goals first
      | rfl
      | (exfalso; omega)
      | (exfalso; simp only [Bool.not_eq_true', Bool.not_eq_false', decide_eq_true_eq, decide_eq_false_iff_not, Bool.not_false, Bool.not_true] at *; omega)
      | (exfalso; simp_all; first | done | omega)
  · rw [if_neg h1] at hy
    obtain rfl : e = 0 := Decidable.not_not.1 h1
    have h2 : c = 0 ∧ 0 ≤ i ∧ i < n := by
      unfold pgE at he
      split at he
      · omega
      · split at he
        · omega
        · omega
    obtain ⟨rfl, h3, h4⟩ := h2
    obtain ⟨k1, k2, k3, k4, k5⟩ := page_bd hc h3 (by rw [hn]; exact h4)
    obtain ⟨q1, q2, q3, q4, q5⟩ := chk_ok hc
    have q6 := siz_bd q1
    obtain ⟨l, hl⟩ : ∃ l, lenM sz pg i = l := ⟨_, rfl⟩
    have H2 := ac_size v sz pg pk i n L (by omega) (by omega) (by omega) l hl
    rw [hl] at hy k3 k4 k5
    obtain ⟨j, rfl⟩ : ∃ j : Nat, i = j := ⟨i.toNat, by omega⟩
    by_cases h5 : (d.size : Int) ≠ l
    · rw [if_pos h5] at hy
      subst hy
      clear hc he hl
      refine acalls_law Try.func92 rfl rfl rfl ?_
      repeat' first | intro h1 | refine st ?_ | refine stRW [0] H1 ?_ | refine stRW [0] H2 ?_ | refine sdRW [0] H1 ?_ | refine sdRW [0] H2 ?_ | refine stm ?_ | refine Ja ?_ | refine Jb ?_ | refine Jc ?_ | refine Jd ?_ | refine Je ?_ | refine Jf ?_ | refine Jg ?_ | refine Jh ?_ ?_ | refine Ji ?_ ?_ | refine Jj ?_ ?_ | refine run_nil ?_ | refine sd ?_ | refine sdl ?_ | refine sdm (n := 1) ?_ | refine sdm ?_ | refine sdb ?_ | refine Jk ?_ | refine Jl ?_ | refine Jm ?_ | refine Jn ?_ ?_ | refine Jo ?_ ?_ | refine Jp ?_ ?_ | refine rund_nil ?_ | refine Jz ?_ | refine Jw ?_ | refine Jx (id := 6) [0,1,0,0,15,0,32,0,224,480,1023,2047] 12 ?_ | refine aw_block ?_ | refine Jq ?_ | refine Jr ?_ | refine Js ?_ | refine Jt ?_ | refine Ju ?_ ?_ | refine Jv ?_ ?_ | refine Jy ?_ | refine aw_exit ?_ | refine aw_ret ?_ | refine pp_ret ?_ | refine pp_normal ?_
      all_goals first
        | rfl
        | (exfalso; omega)
        | (exfalso; simp only [Bool.not_eq_true', Bool.not_eq_false', decide_eq_true_eq, decide_eq_false_iff_not, Bool.not_false, Bool.not_true] at *; omega)
        | (exfalso; simp_all; first | done | omega)
    · rw [if_neg h5] at hy
      obtain ⟨q, hq⟩ : ∃ q, L[j]? = some q := ⟨_, List.getElem?_eq_getElem (by omega)⟩
      rw [show ((j : Int)).toNat = j from Int.toNat_natCast j, hq] at hy
      obtain ⟨S, hS⟩ : ∃ S, dgS v j d = S := ⟨_, rfl⟩
      have H3 := ac_isum v j d (by omega) S hS
      rw [hS] at hy
      clear hS hc he hl
      by_cases h6 : S = q
      · subst h6
        rw [if_neg (by simp)] at hy
        subst hy
        refine acalls_law Try.func92 rfl rfl rfl ?_
        repeat' first | intro h1 | refine sdl (h := ok_load_mapE (f := Value.string) j hq rfl rfl rfl (by omega)) ?_ | refine st (h := ok_load_mapE (f := Value.string) j hq rfl rfl rfl (by omega)) ?_ | refine sd (h := ok_str_neqF rfl rfl) ?_ | refine st ?_ | refine stRW [0] H1 ?_ | refine stRW [0] H2 ?_ | refine sdRW [0] H1 ?_ | refine sdRW [0] H2 ?_ | refine st_call (H3) ?_ | refine sd_call (H3) ?_ | refine stm ?_ | refine Ja ?_ | refine Jb ?_ | refine Jc ?_ | refine Jd ?_ | refine Je ?_ | refine Jf ?_ | refine Jg ?_ | refine Jh ?_ ?_ | refine Ji ?_ ?_ | refine Jj ?_ ?_ | refine run_nil ?_ | refine sd ?_ | refine sdl ?_ | refine sdm (n := 1) ?_ | refine sdm ?_ | refine sdb ?_ | refine Jk ?_ | refine Jl ?_ | refine Jm ?_ | refine Jn ?_ ?_ | refine Jo ?_ ?_ | refine Jp ?_ ?_ | refine rund_nil ?_ | refine Jz ?_ | refine Jw ?_ | refine Jx (id := 6) [0,1,0,0,15,0,32,0,224,480,1023,2047] 12 ?_ | refine aw_block ?_ | refine Jq ?_ | refine Jr ?_ | refine Js ?_ | refine Jt ?_ | refine Ju ?_ ?_ | refine Jv ?_ ?_ | refine Jy ?_ | refine aw_exit ?_ | refine aw_ret ?_ | refine pp_ret ?_ | refine pp_normal ?_
        all_goals first
          | rfl
          | (exfalso; omega)
          | (exfalso; simp only [Bool.not_eq_true', Bool.not_eq_false', decide_eq_true_eq, decide_eq_false_iff_not, Bool.not_false, Bool.not_true] at *; omega)
          | (exfalso; simp_all; first | done | omega)
      · rw [if_pos (by simpa using h6)] at hy
        subst hy
        refine acalls_law Try.func92 rfl rfl rfl ?_
        repeat' first | intro h1 | refine sdl (h := ok_load_mapE (f := Value.string) j hq rfl rfl rfl (by omega)) ?_ | refine st (h := ok_load_mapE (f := Value.string) j hq rfl rfl rfl (by omega)) ?_ | refine sd (h := ok_str_neq rfl rfl) ?_ | refine st ?_ | refine stRW [0] H1 ?_ | refine stRW [0] H2 ?_ | refine sdRW [0] H1 ?_ | refine sdRW [0] H2 ?_ | refine st_call (H3) ?_ | refine sd_call (H3) ?_ | refine stm ?_ | refine Ja ?_ | refine Jb ?_ | refine Jc ?_ | refine Jd ?_ | refine Je ?_ | refine Jf ?_ | refine Jg ?_ | refine Jh ?_ ?_ | refine Ji ?_ ?_ | refine Jj ?_ ?_ | refine run_nil ?_ | refine sd ?_ | refine sdl ?_ | refine sdm (n := 1) ?_ | refine sdm ?_ | refine sdb ?_ | refine Jk ?_ | refine Jl ?_ | refine Jm ?_ | refine Jn ?_ ?_ | refine Jo ?_ ?_ | refine Jp ?_ ?_ | refine rund_nil ?_ | refine Jz ?_ | refine Jw ?_ | refine Jx (id := 6) [0,1,0,0,15,0,32,0,224,480,1023,2047] 12 ?_ | refine aw_block ?_ | refine Jq ?_ | refine Jr ?_ | refine Js ?_ | refine Jt ?_ | refine Ju ?_ ?_ | refine Jv ?_ ?_ | refine Jy ?_ | refine aw_exit ?_ | refine aw_ret ?_ | refine pp_ret ?_ | refine pp_normal ?_
        all_goals first
          | rfl
          | (exfalso; omega)
          | (exfalso; simp only [Bool.not_eq_true', Bool.not_eq_false', decide_eq_true_eq, decide_eq_false_iff_not, Bool.not_false, Bool.not_true] at *; omega)
          | (exfalso; simp_all; first | done | omega)
set_option maxHeartbeats 8000000 in
theorem ac_rverify (v sz pg pk i : Int) (L : List ByteArray) (n : Nat) (hn : L.length = n) (hb : n ≤ 9000000000000000000) (d : ByteArray) (hd : d.size ≤ 9000000000000000000) (c : Int) (hc : chkM v sz pg pk L = c) (e : Int) (he : pgE c n i = e) (y : Int) (hy : vfE v sz pg e i L d = y) : ACalls Try.prog 80 [.agg #[.int .i64 v, .int .i64 sz, .int .i64 pg, .int .i64 pk, .slice (some ⟨0, 0, none⟩) n n], .int .i64 i, .string d] [some ⟨List.map Value.string L, false, 1⟩] (.int .i64 y) [none] := by
  have H1 := ac_rpackets v sz pg pk i L n hn hb c hc e he _ rfl
  generalize pkM sz pg pk i e = pp at H1
  unfold vfE at hy
  by_cases h1 : e ≠ 0
  · rw [if_pos h1] at hy
    subst hy
    clear hc he
    refine acalls_law Try.func80 rfl rfl rfl ?_
    repeat' first | intro h1 | refine st ?_ | refine stRW [0] H1 ?_ | refine sdRW [0] H1 ?_ | refine stm ?_ | refine Ja ?_ | refine Jb ?_ | refine Jc ?_ | refine Jd ?_ | refine Je ?_ | refine Jf ?_ | refine Jg ?_ | refine Jh ?_ ?_ | refine Ji ?_ ?_ | refine Jj ?_ ?_ | refine run_nil ?_ | refine sd ?_ | refine sdl ?_ | refine sdm (n := 1) ?_ | refine sdm ?_ | refine sdb ?_ | refine Jk ?_ | refine Jl ?_ | refine Jm ?_ | refine Jn ?_ ?_ | refine Jo ?_ ?_ | refine Jp ?_ ?_ | refine rund_nil ?_ | refine Jz ?_ | refine Jw ?_ | refine Jx (id := 6) [0,1,0,0,15,0,32,0,224,480,1023,2047] 12 ?_ | refine aw_block ?_ | refine Jq ?_ | refine Jr ?_ | refine Js ?_ | refine Jt ?_ | refine Ju ?_ ?_ | refine Jv ?_ ?_ | refine Jy ?_ | refine aw_exit ?_ | refine aw_ret ?_ | refine pp_ret ?_ | refine pp_normal ?_
    all_goals first
      | rfl
      | (exfalso; omega)
      | (exfalso; simp only [Bool.not_eq_true', Bool.not_eq_false', decide_eq_true_eq, decide_eq_false_iff_not, Bool.not_false, Bool.not_true] at *; omega)
      | (exfalso; simp_all; first | done | omega)
  · rw [if_neg h1] at hy
    obtain rfl : e = 0 := Decidable.not_not.1 h1
    have h2 : c = 0 ∧ 0 ≤ i ∧ i < n := by
      unfold pgE at he
      split at he
      · omega
      · split at he
        · omega
        · omega
    obtain ⟨rfl, h3, h4⟩ := h2
    obtain ⟨k1, k2, k3, k4, k5⟩ := page_bd hc h3 (by rw [hn]; exact h4)
    obtain ⟨q1, q2, q3, q4, q5⟩ := chk_ok hc
    have q6 := siz_bd q1
    obtain ⟨l, hl⟩ : ∃ l, lenM sz pg i = l := ⟨_, rfl⟩
    have H2 := ac_length v sz pg pk i n L (by omega) (by omega) (by omega) l hl
    rw [hl] at hy k3 k4 k5
    obtain ⟨j, rfl⟩ : ∃ j : Nat, i = j := ⟨i.toNat, by omega⟩
    by_cases h5 : (d.size : Int) ≠ l
    · rw [if_pos h5] at hy
      subst hy
      clear hc he hl
      refine acalls_law Try.func80 rfl rfl rfl ?_
      repeat' first | intro h1 | refine st ?_ | refine stRW [0] H1 ?_ | refine stRW [0] H2 ?_ | refine sdRW [0] H1 ?_ | refine sdRW [0] H2 ?_ | refine stm ?_ | refine Ja ?_ | refine Jb ?_ | refine Jc ?_ | refine Jd ?_ | refine Je ?_ | refine Jf ?_ | refine Jg ?_ | refine Jh ?_ ?_ | refine Ji ?_ ?_ | refine Jj ?_ ?_ | refine run_nil ?_ | refine sd ?_ | refine sdl ?_ | refine sdm (n := 1) ?_ | refine sdm ?_ | refine sdb ?_ | refine Jk ?_ | refine Jl ?_ | refine Jm ?_ | refine Jn ?_ ?_ | refine Jo ?_ ?_ | refine Jp ?_ ?_ | refine rund_nil ?_ | refine Jz ?_ | refine Jw ?_ | refine Jx (id := 6) [0,1,0,0,15,0,32,0,224,480,1023,2047] 12 ?_ | refine aw_block ?_ | refine Jq ?_ | refine Jr ?_ | refine Js ?_ | refine Jt ?_ | refine Ju ?_ ?_ | refine Jv ?_ ?_ | refine Jy ?_ | refine aw_exit ?_ | refine aw_ret ?_ | refine pp_ret ?_ | refine pp_normal ?_
      all_goals first
        | rfl
        | (exfalso; omega)
        | (exfalso; simp only [Bool.not_eq_true', Bool.not_eq_false', decide_eq_true_eq, decide_eq_false_iff_not, Bool.not_false, Bool.not_true] at *; omega)
        | (exfalso; simp_all; first | done | omega)
    · rw [if_neg h5] at hy
      obtain ⟨q, hq⟩ : ∃ q, L[j]? = some q := ⟨_, List.getElem?_eq_getElem (by omega)⟩
      rw [show ((j : Int)).toNat = j from Int.toNat_natCast j, hq] at hy
      obtain ⟨S, hS⟩ : ∃ S, dgS v j d = S := ⟨_, rfl⟩
      have H3 := ac_rdigest v j d (by omega) S hS
      rw [hS] at hy
      clear hS hc he hl
      by_cases h6 : S = q
      · subst h6
        rw [if_neg (by simp)] at hy
        subst hy
        refine acalls_law Try.func80 rfl rfl rfl ?_
        repeat' first | intro h1 | refine sdl (h := ok_load_mapE (f := Value.string) j hq rfl rfl rfl (by omega)) ?_ | refine st (h := ok_load_mapE (f := Value.string) j hq rfl rfl rfl (by omega)) ?_ | refine sd (h := ok_str_neqF rfl rfl) ?_ | refine st ?_ | refine stRW [0] H1 ?_ | refine stRW [0] H2 ?_ | refine sdRW [0] H1 ?_ | refine sdRW [0] H2 ?_ | refine st_call (H3) ?_ | refine sd_call (H3) ?_ | refine stm ?_ | refine Ja ?_ | refine Jb ?_ | refine Jc ?_ | refine Jd ?_ | refine Je ?_ | refine Jf ?_ | refine Jg ?_ | refine Jh ?_ ?_ | refine Ji ?_ ?_ | refine Jj ?_ ?_ | refine run_nil ?_ | refine sd ?_ | refine sdl ?_ | refine sdm (n := 1) ?_ | refine sdm ?_ | refine sdb ?_ | refine Jk ?_ | refine Jl ?_ | refine Jm ?_ | refine Jn ?_ ?_ | refine Jo ?_ ?_ | refine Jp ?_ ?_ | refine rund_nil ?_ | refine Jz ?_ | refine Jw ?_ | refine Jx (id := 6) [0,1,0,0,15,0,32,0,224,480,1023,2047] 12 ?_ | refine aw_block ?_ | refine Jq ?_ | refine Jr ?_ | refine Js ?_ | refine Jt ?_ | refine Ju ?_ ?_ | refine Jv ?_ ?_ | refine Jy ?_ | refine aw_exit ?_ | refine aw_ret ?_ | refine pp_ret ?_ | refine pp_normal ?_
        all_goals first
          | rfl
          | (exfalso; omega)
          | (exfalso; simp only [Bool.not_eq_true', Bool.not_eq_false', decide_eq_true_eq, decide_eq_false_iff_not, Bool.not_false, Bool.not_true] at *; omega)
          | (exfalso; simp_all; first | done | omega)
      · rw [if_pos (by simpa using h6)] at hy
        subst hy
        refine acalls_law Try.func80 rfl rfl rfl ?_
        repeat' first | intro h1 | refine sdl (h := ok_load_mapE (f := Value.string) j hq rfl rfl rfl (by omega)) ?_ | refine st (h := ok_load_mapE (f := Value.string) j hq rfl rfl rfl (by omega)) ?_ | refine sd (h := ok_str_neq rfl rfl) ?_ | refine st ?_ | refine stRW [0] H1 ?_ | refine stRW [0] H2 ?_ | refine sdRW [0] H1 ?_ | refine sdRW [0] H2 ?_ | refine st_call (H3) ?_ | refine sd_call (H3) ?_ | refine stm ?_ | refine Ja ?_ | refine Jb ?_ | refine Jc ?_ | refine Jd ?_ | refine Je ?_ | refine Jf ?_ | refine Jg ?_ | refine Jh ?_ ?_ | refine Ji ?_ ?_ | refine Jj ?_ ?_ | refine run_nil ?_ | refine sd ?_ | refine sdl ?_ | refine sdm (n := 1) ?_ | refine sdm ?_ | refine sdb ?_ | refine Jk ?_ | refine Jl ?_ | refine Jm ?_ | refine Jn ?_ ?_ | refine Jo ?_ ?_ | refine Jp ?_ ?_ | refine rund_nil ?_ | refine Jz ?_ | refine Jw ?_ | refine Jx (id := 6) [0,1,0,0,15,0,32,0,224,480,1023,2047] 12 ?_ | refine aw_block ?_ | refine Jq ?_ | refine Jr ?_ | refine Js ?_ | refine Jt ?_ | refine Ju ?_ ?_ | refine Jv ?_ ?_ | refine Jy ?_ | refine aw_exit ?_ | refine aw_ret ?_ | refine pp_ret ?_ | refine pp_normal ?_
        all_goals first
          | rfl
          | (exfalso; omega)
          | (exfalso; simp only [Bool.not_eq_true', Bool.not_eq_false', decide_eq_true_eq, decide_eq_false_iff_not, Bool.not_false, Bool.not_true] at *; omega)
          | (exfalso; simp_all; first | done | omega)
end Go.Proofs.Ytekkdoaakilafaa
