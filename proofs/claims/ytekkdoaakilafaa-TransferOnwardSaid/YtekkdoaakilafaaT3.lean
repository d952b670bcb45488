/- Image: Intact of the reference. -/
import Derived.Test.YtekkdoaakilafaaVL
import Derived.Test.YtekkdoaakilafaaT2
import Derived.Test.YtekkdoaakilafaaT1
set_option linter.unusedVariables false
set_option linter.unusedSimpArgs false
namespace Go.Proofs.Ytekkdoaakilafaa
open Go Av
set_option maxRecDepth 20000
set_option maxHeartbeats 8000000 in
theorem ac_rintact (v sz pg pk : Int) (L : List ByteArray) (n : Nat) (hn : L.length = n) (hb : n ≤ 9000000000000000000) (d : ByteArray) (hd : d.size ≤ 1000000) (c : Int) (hc : chkM v sz pg pk L = c) (y : Int) (hy : inE c v sz pg L d = y) : ACalls Try.prog 40 [.agg #[.int .i64 v, .int .i64 sz, .int .i64 pg, .int .i64 pk, .slice (some ⟨0, 0, none⟩) n n], .string d] [some ⟨List.map Value.string L, false, 1⟩] (.int .i64 y) [none] := by
  have H1 := ac_rmcheck v sz pg pk L n hn hb c hc
  unfold inE at hy
  by_cases h1 : c ≠ 0
  · rw [if_pos h1] at hy
    subst hy
    clear hc
    refine acalls_law Try.func40 rfl rfl rfl ?_
    repeat' first | intro h1 | refine st ?_ | refine stRW [0] H1 ?_ | refine sdRW [0] H1 ?_ | refine stm ?_ | refine Ja ?_ | refine Jb ?_ | refine Jc ?_ | refine Jd ?_ | refine Je ?_ | refine Jf ?_ | refine Jg ?_ | refine Jh ?_ ?_ | refine Ji ?_ ?_ | refine Jj ?_ ?_ | refine run_nil ?_ | refine sd ?_ | refine sdl ?_ | refine sdm (n := 1) ?_ | refine sdm ?_ | refine sdb ?_ | refine Jk ?_ | refine Jl ?_ | refine Jm ?_ | refine Jn ?_ ?_ | refine Jo ?_ ?_ | refine Jp ?_ ?_ | refine rund_nil ?_ | refine Jz ?_ | refine Jw ?_ | refine Jx (id := 8) [0,0,0,0,0,16,60,127,255] 9 ?_ | refine aw_block ?_ | refine Jq ?_ | refine Jr ?_ | refine Js ?_ | refine Jt ?_ | refine Ju ?_ ?_ | refine Jv ?_ ?_ | refine Jy ?_ | refine aw_exit ?_ | refine aw_ret ?_ | refine pp_ret ?_ | refine pp_normal ?_
    all_goals first
      | rfl
      | (exfalso; omega)
      | (exfalso; simp only [Bool.not_eq_true', Bool.not_eq_false', decide_eq_true_eq, decide_eq_false_iff_not, Bool.not_false, Bool.not_true] at *; omega)
      | (exfalso; simp_all; first | done | omega)
  · rw [if_neg h1] at hy
    obtain rfl : c = 0 := Decidable.not_not.1 h1
    obtain ⟨q1, q2, q3, q4, q5⟩ := chk_ok hc
    have q6 := siz_bd q1
    by_cases h2 : (d.size : Int) ≠ sz
    · rw [if_pos h2] at hy
      subst hy
      clear hc
      refine acalls_law Try.func40 rfl rfl rfl ?_
      repeat' first | intro h1 | refine st ?_ | refine stRW [0] H1 ?_ | refine sdRW [0] H1 ?_ | refine stm ?_ | refine Ja ?_ | refine Jb ?_ | refine Jc ?_ | refine Jd ?_ | refine Je ?_ | refine Jf ?_ | refine Jg ?_ | refine Jh ?_ ?_ | refine Ji ?_ ?_ | refine Jj ?_ ?_ | refine run_nil ?_ | refine sd ?_ | refine sdl ?_ | refine sdm (n := 1) ?_ | refine sdm ?_ | refine sdb ?_ | refine Jk ?_ | refine Jl ?_ | refine Jm ?_ | refine Jn ?_ ?_ | refine Jo ?_ ?_ | refine Jp ?_ ?_ | refine rund_nil ?_ | refine Jz ?_ | refine Jw ?_ | refine Jx (id := 8) [0,0,0,0,0,16,60,127,255] 9 ?_ | refine aw_block ?_ | refine Jq ?_ | refine Jr ?_ | refine Js ?_ | refine Jt ?_ | refine Ju ?_ ?_ | refine Jv ?_ ?_ | refine Jy ?_ | refine aw_exit ?_ | refine aw_ret ?_ | refine pp_ret ?_ | refine pp_normal ?_
      all_goals first
        | rfl
        | (exfalso; omega)
        | (exfalso; simp only [Bool.not_eq_true', Bool.not_eq_false', decide_eq_true_eq, decide_eq_false_iff_not, Bool.not_false, Bool.not_true] at *; omega)
        | (exfalso; simp_all; first | done | omega)
    · rw [if_neg h2] at hy
      obtain rfl : sz = d.size := by omega
      obtain ⟨N, hN⟩ : ∃ N, mkN d pg = N := ⟨_, rfl⟩
      rw [hN] at hy
      have hlt := fun k => mkN_lt (d := d) (pg := pg) (by omega) k
      rw [hN] at hlt
      have hnN : n = N := by rw [← hN, mkN, ← q4, hn]; omega
      by_cases heq : mkL v d pg N = L
      · rw [if_pos heq] at hy
        subst hy
        refine acalls_law Try.func40 rfl rfl rfl ?_
        repeat' first | intro h1 | refine st ?_ | refine stRW [0] H1 ?_ | refine sdRW [0] H1 ?_ | refine stm ?_ | refine Ja ?_ | refine Jb ?_ | refine Jc ?_ | refine Jd ?_ | refine Je ?_ | refine Jf ?_ | refine Jg ?_ | refine Jh ?_ ?_ | refine Ji ?_ ?_ | refine Jj ?_ ?_ | refine run_nil ?_ | refine sd ?_ | refine sdl ?_ | refine sdm (n := 1) ?_ | refine sdm ?_ | refine sdb ?_ | refine Jk ?_ | refine Jl ?_ | refine Jm ?_ | refine Jn ?_ ?_ | refine Jo ?_ ?_ | refine Jp ?_ ?_ | refine rund_nil ?_ | refine Jz ?_ | refine Jw ?_ | refine Jx (id := 8) [0,0,0,0,0,16,60,127,255] 9 ?_ | refine aw_block ?_ | refine Jq ?_ | refine Jr ?_ | refine Js ?_ | refine Jt ?_ | refine Ju ?_ ?_ | refine Jv ?_ ?_ | refine Jy ?_ | refine aw_exit ?_ | refine aw_ret ?_ | refine pp_ret ?_ | refine pp_normal ?_
        all_goals try (exfalso; first | omega | (simp_all; done))
        refine aw_loopg
          (S := fun y : Og => [(1, .string d), (2, .pointer (some ⟨1, 0, none⟩)), (5, .int .i64 y.i)])
          (B := fun _ : Og => [some ⟨List.map Value.string L, false, 1⟩, some ⟨[.int .i64 v, .int .i64 (d.size : Int), .int .i64 pg, .int .i64 pk, .slice (some ⟨0, 0, none⟩) n n], true, 1⟩])
          (R := fun y : Og => y.i ≤ N ∧ True)
          (μ := fun y : Og => N - y.i) ⟨0⟩ (fitsD [0, 1]) ⟨Nat.zero_le _, trivial⟩ ?_
        rintro ⟨i⟩ ⟨g1, g2⟩
        dsimp only at *
        by_cases hi : i < N
        · have hk := (hlt i).1 hi
          have H3 := ac_pageS d pg i (by omega) hd (by omega) hk
          have hps := pgS_size (by omega) hk
          have hxs : (pgS d pg i).size ≤ d.size := by
            unfold pgS; rw [ByteArray.size_extract]; omega
          have hvf : vfE v d.size pg 0 i L (pgS d pg i) = 0 := by
            unfold vfE
            rw [if_neg (by simp), if_neg (by omega), if_neg]
            rw [Int.toNat_natCast, ← heq, mkL_at hi]
            simp
          have H4 := ac_rverify v d.size pg pk i L n hn hb (pgS d pg i) (by omega) 0 hc 0 (by unfold pgE; rw [if_neg (by simp), if_neg (by omega)]) 0 hvf
          repeat' first | intro h1 | refine st ?_ | refine stRW [0] H4 ?_ | refine sdRW [0] H4 ?_ | refine st_call (H3) ?_ | refine sd_call (H3) ?_ | refine stm ?_ | refine Ja ?_ | refine Jb ?_ | refine Jc ?_ | refine Jd ?_ | refine Je ?_ | refine Jf ?_ | refine Jg ?_ | refine Jh ?_ ?_ | refine Ji ?_ ?_ | refine Jj ?_ ?_ | refine run_nil ?_ | refine sd ?_ | refine sdl ?_ | refine sdm (n := 1) ?_ | refine sdm ?_ | refine sdb ?_ | refine Jk ?_ | refine Jl ?_ | refine Jm ?_ | refine Jn ?_ ?_ | refine Jo ?_ ?_ | refine Jp ?_ ?_ | refine rund_nil ?_ | refine Jz ?_ | refine Jw ?_ | refine Jx (id := 8) [0,0,0,0,0,16,60,127,255] 9 ?_ | refine aw_block ?_ | refine Jq ?_ | refine Jr ?_ | refine Js ?_ | refine Jt ?_ | refine Ju ?_ ?_ | refine Jv ?_ ?_ | refine Jy ?_ | refine aw_exit ?_ | refine aw_ret ?_ | refine pp_ret ?_ | refine pp_normal ?_
          all_goals first | exact Exists.intro ⟨i + 1⟩ ⟨fitsD [0, 1], ⟨by dsimp only; omega, trivial⟩, by dsimp only; omega⟩ | (exfalso; omega)
        · obtain rfl : i = N := by omega
          repeat' first | intro h1 | refine st ?_ | refine stRW [0] H4 ?_ | refine sdRW [0] H4 ?_ | refine st_call (H3) ?_ | refine sd_call (H3) ?_ | refine stm ?_ | refine Ja ?_ | refine Jb ?_ | refine Jc ?_ | refine Jd ?_ | refine Je ?_ | refine Jf ?_ | refine Jg ?_ | refine Jh ?_ ?_ | refine Ji ?_ ?_ | refine Jj ?_ ?_ | refine run_nil ?_ | refine sd ?_ | refine sdl ?_ | refine sdm (n := 1) ?_ | refine sdm ?_ | refine sdb ?_ | refine Jk ?_ | refine Jl ?_ | refine Jm ?_ | refine Jn ?_ ?_ | refine Jo ?_ ?_ | refine Jp ?_ ?_ | refine rund_nil ?_ | refine Jz ?_ | refine Jw ?_ | refine Jx (id := 8) [0,0,0,0,0,16,60,127,255] 9 ?_ | refine aw_block ?_ | refine Jq ?_ | refine Jr ?_ | refine Js ?_ | refine Jt ?_ | refine Ju ?_ ?_ | refine Jv ?_ ?_ | refine Jy ?_ | refine aw_exit ?_ | refine aw_ret ?_ | refine pp_ret ?_ | refine pp_normal ?_
          all_goals first
            | rfl
            | (exfalso; omega)
            | (exfalso; simp only [Bool.not_eq_true', Bool.not_eq_false', decide_eq_true_eq, decide_eq_false_iff_not, Bool.not_false, Bool.not_true] at *; omega)
            | (exfalso; simp_all; first | done | omega)
      · rw [if_neg heq] at hy
        subst hy
        refine acalls_law Try.func40 rfl rfl rfl ?_
        repeat' first | intro h1 | refine st ?_ | refine stRW [0] H1 ?_ | refine sdRW [0] H1 ?_ | refine stm ?_ | refine Ja ?_ | refine Jb ?_ | refine Jc ?_ | refine Jd ?_ | refine Je ?_ | refine Jf ?_ | refine Jg ?_ | refine Jh ?_ ?_ | refine Ji ?_ ?_ | refine Jj ?_ ?_ | refine run_nil ?_ | refine sd ?_ | refine sdl ?_ | refine sdm (n := 1) ?_ | refine sdm ?_ | refine sdb ?_ | refine Jk ?_ | refine Jl ?_ | refine Jm ?_ | refine Jn ?_ ?_ | refine Jo ?_ ?_ | refine Jp ?_ ?_ | refine rund_nil ?_ | refine Jz ?_ | refine Jw ?_ | refine Jx (id := 8) [0,0,0,0,0,16,60,127,255] 9 ?_ | refine aw_block ?_ | refine Jq ?_ | refine Jr ?_ | refine Js ?_ | refine Jt ?_ | refine Ju ?_ ?_ | refine Jv ?_ ?_ | refine Jy ?_ | refine aw_exit ?_ | refine aw_ret ?_ | refine pp_ret ?_ | refine pp_normal ?_
        all_goals try (exfalso; first | omega | (simp_all; done))
        refine aw_loopg
          (S := fun y : Og => [(1, .string d), (2, .pointer (some ⟨1, 0, none⟩)), (5, .int .i64 y.i)])
          (B := fun _ : Og => [some ⟨List.map Value.string L, false, 1⟩, some ⟨[.int .i64 v, .int .i64 (d.size : Int), .int .i64 pg, .int .i64 pk, .slice (some ⟨0, 0, none⟩) n n], true, 1⟩])
          (R := fun y : Og => y.i ≤ N ∧ ∀ j : Nat, j < y.i → L[j]? = some (dgS v j (pgS d pg j)))
          (μ := fun y : Og => N - y.i) ⟨0⟩ (fitsD [0, 1]) ⟨Nat.zero_le _, fun j hj => absurd hj (Nat.not_lt_zero _)⟩ ?_
        rintro ⟨i⟩ ⟨g1, g2⟩
        dsimp only at *
        by_cases hi : i < N
        · have hk := (hlt i).1 hi
          have H3 := ac_pageS d pg i (by omega) hd (by omega) hk
          have hps := pgS_size (by omega) hk
          have hxs : (pgS d pg i).size ≤ d.size := by
            unfold pgS; rw [ByteArray.size_extract]; omega
          obtain ⟨w, hvf⟩ : ∃ w, vfE v d.size pg 0 i L (pgS d pg i) = w := ⟨_, rfl⟩
          have H4 := ac_rverify v d.size pg pk i L n hn hb (pgS d pg i) (by omega) 0 hc 0 (by unfold pgE; rw [if_neg (by simp), if_neg (by omega)]) w hvf
          unfold vfE at hvf
          rw [if_neg (by simp), if_neg (by omega), Int.toNat_natCast] at hvf
          by_cases hw : some (dgS v i (pgS d pg i)) = L[i]?
          · rw [if_neg (by simpa using hw)] at hvf
            subst hvf
            have hst : ∀ j : Nat, j < i + 1 → L[j]? = some (dgS v j (pgS d pg j)) := fun j hj => by
              rcases Nat.lt_or_ge j i with h | h
              · exact g2 j h
              · obtain rfl : j = i := by omega
                exact hw.symm
            repeat' first | intro h1 | refine st ?_ | refine stRW [0] H4 ?_ | refine sdRW [0] H4 ?_ | refine st_call (H3) ?_ | refine sd_call (H3) ?_ | refine stm ?_ | refine Ja ?_ | refine Jb ?_ | refine Jc ?_ | refine Jd ?_ | refine Je ?_ | refine Jf ?_ | refine Jg ?_ | refine Jh ?_ ?_ | refine Ji ?_ ?_ | refine Jj ?_ ?_ | refine run_nil ?_ | refine sd ?_ | refine sdl ?_ | refine sdm (n := 1) ?_ | refine sdm ?_ | refine sdb ?_ | refine Jk ?_ | refine Jl ?_ | refine Jm ?_ | refine Jn ?_ ?_ | refine Jo ?_ ?_ | refine Jp ?_ ?_ | refine rund_nil ?_ | refine Jz ?_ | refine Jw ?_ | refine Jx (id := 8) [0,0,0,0,0,16,60,127,255] 9 ?_ | refine aw_block ?_ | refine Jq ?_ | refine Jr ?_ | refine Js ?_ | refine Jt ?_ | refine Ju ?_ ?_ | refine Jv ?_ ?_ | refine Jy ?_ | refine aw_exit ?_ | refine aw_ret ?_ | refine pp_ret ?_ | refine pp_normal ?_
            all_goals first | exact Exists.intro ⟨i + 1⟩ ⟨fitsD [0, 1], ⟨by dsimp only; omega, hst⟩, by dsimp only; omega⟩ | (exfalso; omega)
          · rw [if_pos hw] at hvf
            subst hvf
            repeat' first | intro h1 | refine st ?_ | refine stRW [0] H4 ?_ | refine sdRW [0] H4 ?_ | refine st_call (H3) ?_ | refine sd_call (H3) ?_ | refine stm ?_ | refine Ja ?_ | refine Jb ?_ | refine Jc ?_ | refine Jd ?_ | refine Je ?_ | refine Jf ?_ | refine Jg ?_ | refine Jh ?_ ?_ | refine Ji ?_ ?_ | refine Jj ?_ ?_ | refine run_nil ?_ | refine sd ?_ | refine sdl ?_ | refine sdm (n := 1) ?_ | refine sdm ?_ | refine sdb ?_ | refine Jk ?_ | refine Jl ?_ | refine Jm ?_ | refine Jn ?_ ?_ | refine Jo ?_ ?_ | refine Jp ?_ ?_ | refine rund_nil ?_ | refine Jz ?_ | refine Jw ?_ | refine Jx (id := 8) [0,0,0,0,0,16,60,127,255] 9 ?_ | refine aw_block ?_ | refine Jq ?_ | refine Jr ?_ | refine Js ?_ | refine Jt ?_ | refine Ju ?_ ?_ | refine Jv ?_ ?_ | refine Jy ?_ | refine aw_exit ?_ | refine aw_ret ?_ | refine pp_ret ?_ | refine pp_normal ?_
            all_goals first
              | rfl
              | (exfalso; omega)
              | (exfalso; simp only [Bool.not_eq_true', Bool.not_eq_false', decide_eq_true_eq, decide_eq_false_iff_not, Bool.not_false, Bool.not_true] at *; omega)
              | (exfalso; simp_all; first | done | omega)
        · obtain rfl : i = N := by omega
          exact absurd (mkL_eq (by omega) g2) heq
end Go.Proofs.Ytekkdoaakilafaa
