/- JoinPlays: the law. -/
import Derived.Test.YtdbcbclapipgdaaGreatDoorRP
set_option linter.unusedVariables false
set_option linter.unusedSimpArgs false
namespace Go.Proofs.YtdbcbclapipgdaaGreatDoor
open Go Av
set_option maxRecDepth 20000
set_option maxHeartbeats 16000000 in
theorem pl_mid (X : List Int) (n : Nat) (hn : X.length = n) (hb : n ≤ 40) (hX : ∀ x ∈ X, 0 ≤ x ∧ x ≤ 255) (k : Nat) (hk : k ≤ 4) : AW Tryz.prog Tryz.f8.ntmps 1 (cdAt Tryz.f8 8) (PostP Tryz.prog Tryz.f8.results.toList (.bool true)) ([(1, .slice (some ⟨0, 0, none⟩) n n), (5, .slice (some ⟨1, 0, none⟩) k k), (31, .int .i64 k), (32, .int .i64 k)]) [some ⟨X.map (Value.int .u8), false, 1⟩, some ⟨(plL k).flatMap mbC, true, 4⟩] := by
  have HS : ACalls Tryz.prog 31 [.string ⟨#[112, 117, 109, 112]⟩, .string ⟨#[115]⟩] [] (.tuple #[.agg #[.string ⟨#[112, 117, 109, 112]⟩, .string ⟨#[115]⟩, .int .i64 0, .int .i64 (-1), .int .i64 0, .int .i64 (-1), .int .i64 0, .int .i64 0, .int .i64 0], .int .i64 0]) [] := by
    have h := ac_jStart ⟨#[112, 117, 109, 112]⟩ ⟨#[115]⟩
    rw [pu_nm, show scB ⟨#[115]⟩ = true by kernel_rfl] at h
    exact h
  have hM0 : plM (plP k) k 0 := ⟨pl_mm hk, plP_len k, -1, 0, plP_at k, by decide⟩
  have hcs : (plL k).flatMap mbC ++ mbC (Mb.mk ⟨#[112, 117, 109, 112]⟩ ⟨#[115]⟩ (-1) 0) = (plP k).flatMap mbC := mbC_snoc
  repeat' first | intro h1 | refine st (h := ok_not_dec2 rfl) ?_ | refine sd (h := ok_not_dec2 rfl) ?_ | refine stm (h := by (apply ok_append (cs := (plP k).flatMap mbC) (olds := (plL k).flatMap mbC); rfl; rfl; rfl; rfl; rfl; rfl; (focus (apply Src.slc; rfl; exact Ty.eq; rfl; exact Nat.le_of_ble_eq_true rfl; exact TakeR.eq (by ((repeat constructor); first | done | fail)); rfl; rfl)); (focus (rw [mbC_lenL, plL_len]; omega)); (focus (apply take_all; rw [mbC_lenL, plL_len])); (focus exact hcs); omega; (focus ((repeat constructor); first | done | fail)))) ?_ | refine st ?_ | refine st_call (HS) ?_ | refine sd_call (HS) ?_ | refine st (h := ok_makeFunc (by ((repeat (apply ArgsR.cons; rfl)); exact ArgsR.nil)) (by ((repeat (apply ArgsR.cons; rfl)); exact ArgsR.nil))) ?_ | refine sd (h := ok_makeFunc (by ((repeat (apply ArgsR.cons; rfl)); exact ArgsR.nil)) (by ((repeat (apply ArgsR.cons; rfl)); exact ArgsR.nil))) ?_ | refine stm ?_ | refine Ja ?_ | refine Jb ?_ | refine Jc ?_ | refine Jd ?_ | refine Je ?_ | refine Jf ?_ | refine Jg ?_ | refine Jh ?_ ?_ | refine Ji ?_ ?_ | refine Jj ?_ ?_ | refine run_nil ?_ | refine sd ?_ | refine sdl ?_ | refine sdm (n := 1) ?_ | refine sdm ?_ | refine sdb ?_ | refine Jk ?_ | refine Jl ?_ | refine Jm ?_ | refine Jn ?_ ?_ | refine Jo ?_ ?_ | refine Jp ?_ ?_ | refine rund_nil ?_ | refine Jz ?_ | refine Jw ?_ | refine Jx (id := 20) [0,0,0,6,15,31,63,63,0,383,1023] 9 ?_ | refine aw_block ?_ | refine Jq ?_ | refine Jr ?_ | refine Js ?_ | refine Jt ?_ | refine Ju ?_ ?_ | refine Jv ?_ ?_ | refine Jy ?_ | refine aw_exit ?_ | refine aw_ret ?_ | refine pp_ret ?_ | refine pp_normal ?_
  refine aw_loopg
    (S := fun y : Pl => [(5, .slice (some ⟨1, 0, none⟩) (k + 1) (k + 1)), (7, .pointer (some ⟨2, 0, none⟩)), (9, .int .i64 y.no), (58, .slice (some ⟨0, 0, none⟩) n n), (59, .int .i64 n), (60, .int .i64 y.i)])
    (B := fun y : Pl => [some ⟨X.map (Value.int .u8), false, 1⟩, some ⟨y.L.flatMap mbC, true, 4⟩, some ⟨[.string ⟨#[112, 117, 109, 112]⟩, .string ⟨#[115]⟩, .int .i64 y.sj, .int .i64 y.pa, .int .i64 y.ep, .int .i64 (-1), .int .i64 y.no, .int .i64 y.tr, .int .i64 y.si], true, 1⟩])
    (R := fun y : Pl => y.i ≤ n ∧ (0 ≤ y.no ∧ y.no ≤ y.i) ∧ plJ y ∧ plM y.L k y.no)
    (μ := fun y : Pl => n - y.i) ⟨0, 0, 0, -1, 0, 0, 0, plP k⟩ (fitsD [0, 3, 4]) ⟨Nat.zero_le _, by dsimp only; omega, .inl ⟨rfl, rfl, rfl, rfl, rfl⟩, hM0⟩ ?_
  clear hM0 hcs HS
  rintro ⟨i, no, sj, pa, ep, tr, si, L⟩ ⟨g1, g2, g3, g4⟩
  dsimp only at g1 g2 g4 ⊢
  by_cases hi : i < n
  · obtain ⟨v, hv⟩ : ∃ v, X[i]? = some v := ⟨_, List.getElem?_eq_getElem (by omega)⟩
    rcases g3 with ⟨h1, h2, h3, h4, h5⟩ | ⟨h1, h2, h3, h4, h5⟩
    · dsimp only at h1 h2 h3 h4 h5
      subst h1 h2 h3 h4 h5
      by_cases hf : bitv .and .u8 v 1 = 0
      · by_cases hg : bitv .and .u8 v 2 = 0
        · exact pl_st2 X n hn hb k hk i hi v hv no g2 L g4 hf hg (fun σ m h => h)
        · exact pl_sa2 X n hn hb k hk i hi v hv no g2 L g4 hf hg
      · exact pl_sl2 X n hn hb k hk i hi v hv no g2 L g4 hf
    · dsimp only at h1 h2 h3 h4 h5
      subst h1 h2 h3
      by_cases hf : bitv .and .u8 v 1 = 0
      · by_cases hg : bitv .and .u8 v 2 = 0
        · exact pl_rt2 X n hn hb k hk i hi v hv no g2 L g4 tr si h4 h5 hf hg (fun σ m h => h)
        · by_cases ht : tr = 3
          · subst ht
            exact pl_ra1 X n hn hb k hk i hi v hv no g2 L g4 si h5 hf hg
          · exact pl_ra2 X n hn hb k hk i hi v hv no g2 L g4 tr si (by omega) h5 hf hg
      · by_cases ht : tr = 3
        · subst ht
          exact pl_rl1 X n hn hb k hk i hi v hv no g2 L g4 si h5 hf
        · exact pl_rl2 X n hn hb k hk i hi v hv no g2 L g4 tr si (by omega) h5 hf
  · obtain rfl : i = n := by omega
    rcases g3 with ⟨h1, h2, h3, h4, h5⟩ | ⟨h1, h2, h3, h4, h5⟩
    · dsimp only at h1 h2 h3 h4 h5
      subst h1 h2 h3 h4 h5
      have HC := ac_jCheck ⟨#[112, 117, 109, 112]⟩ ⟨#[115]⟩ 0 (-1) 0 (-1) no 0 0 true (pl_chS no (by omega))
      dsimp only [cond] at HC
      clear g4
      repeat' first | intro h1 | refine st (h := ok_not_dec2 rfl) ?_ | refine sd (h := ok_not_dec2 rfl) ?_ | refine st ?_ | refine st_call (HC) ?_ | refine sd_call (HC) ?_ | refine st (h := ok_makeFunc (by ((repeat (apply ArgsR.cons; rfl)); exact ArgsR.nil)) (by ((repeat (apply ArgsR.cons; rfl)); exact ArgsR.nil))) ?_ | refine sd (h := ok_makeFunc (by ((repeat (apply ArgsR.cons; rfl)); exact ArgsR.nil)) (by ((repeat (apply ArgsR.cons; rfl)); exact ArgsR.nil))) ?_ | refine stm ?_ | refine Ja ?_ | refine Jb ?_ | refine Jc ?_ | refine Jd ?_ | refine Je ?_ | refine Jf ?_ | refine Jg ?_ | refine Jh ?_ ?_ | refine Ji ?_ ?_ | refine Jj ?_ ?_ | refine run_nil ?_ | refine sd ?_ | refine sdl ?_ | refine sdm (n := 1) ?_ | refine sdm ?_ | refine sdb ?_ | refine Jk ?_ | refine Jl ?_ | refine Jm ?_ | refine Jn ?_ ?_ | refine Jo ?_ ?_ | refine Jp ?_ ?_ | refine rund_nil ?_ | refine Jz ?_ | refine Jw ?_ | refine Jx (id := 20) [0,0,0,6,15,31,63,63,0,383,1023] 9 ?_ | refine aw_block ?_ | refine Jq ?_ | refine Jr ?_ | refine Js ?_ | refine Jt ?_ | refine Ju ?_ ?_ | refine Jv ?_ ?_ | refine Jy ?_ | refine aw_exit ?_ | refine aw_ret ?_ | refine pp_ret ?_ | refine pp_normal ?_
      all_goals first | rfl | (simp [retOf]; done) | (exfalso; omega)
    · dsimp only at h1 h2 h3 h4 h5
      subst h1 h2 h3
      have HC := ac_jCheck ⟨#[112, 117, 109, 112]⟩ ⟨#[115]⟩ 1 3 1 (-1) no tr si true (pl_chR no tr si (by omega) h4 h5)
      dsimp only [cond] at HC
      clear g4
      repeat' first | intro h1 | refine st (h := ok_not_dec2 rfl) ?_ | refine sd (h := ok_not_dec2 rfl) ?_ | refine st ?_ | refine st_call (HC) ?_ | refine sd_call (HC) ?_ | refine st (h := ok_makeFunc (by ((repeat (apply ArgsR.cons; rfl)); exact ArgsR.nil)) (by ((repeat (apply ArgsR.cons; rfl)); exact ArgsR.nil))) ?_ | refine sd (h := ok_makeFunc (by ((repeat (apply ArgsR.cons; rfl)); exact ArgsR.nil)) (by ((repeat (apply ArgsR.cons; rfl)); exact ArgsR.nil))) ?_ | refine stm ?_ | refine Ja ?_ | refine Jb ?_ | refine Jc ?_ | refine Jd ?_ | refine Je ?_ | refine Jf ?_ | refine Jg ?_ | refine Jh ?_ ?_ | refine Ji ?_ ?_ | refine Jj ?_ ?_ | refine run_nil ?_ | refine sd ?_ | refine sdl ?_ | refine sdm (n := 1) ?_ | refine sdm ?_ | refine sdb ?_ | refine Jk ?_ | refine Jl ?_ | refine Jm ?_ | refine Jn ?_ ?_ | refine Jo ?_ ?_ | refine Jp ?_ ?_ | refine rund_nil ?_ | refine Jz ?_ | refine Jw ?_ | refine Jx (id := 20) [0,0,0,6,15,31,63,63,0,383,1023] 9 ?_ | refine aw_block ?_ | refine Jq ?_ | refine Jr ?_ | refine Js ?_ | refine Jt ?_ | refine Ju ?_ ?_ | refine Jv ?_ ?_ | refine Jy ?_ | refine aw_exit ?_ | refine aw_ret ?_ | refine pp_ret ?_ | refine pp_normal ?_
      all_goals first | rfl | (simp [retOf]; done) | (exfalso; omega)
set_option maxHeartbeats 16000000 in
theorem law_plays (o : Int) (ho : 0 ≤ o ∧ o ≤ 255) (X : List Int) (n : Nat) (hn : X.length = n) (hX : ∀ x ∈ X, 0 ≤ x ∧ x ≤ 255) : ACalls Tryz.prog 8 [.int .u8 o, .slice (some ⟨0, 0, none⟩) n n] [some ⟨X.map (Value.int .u8), false, 1⟩] (.bool true) [none] := by
  have HK := ac_awake
  by_cases hb : n ≤ 40
  case neg =>
    refine acalls_law Tryz.func8 rfl rfl rfl ?_
    repeat' first | intro h1 | refine st (h := ok_not_dec2 rfl) ?_ | refine sd (h := ok_not_dec2 rfl) ?_ | refine st ?_ | refine st_call (HK) ?_ | refine sd_call (HK) ?_ | refine st (h := ok_makeFunc (by ((repeat (apply ArgsR.cons; rfl)); exact ArgsR.nil)) (by ((repeat (apply ArgsR.cons; rfl)); exact ArgsR.nil))) ?_ | refine sd (h := ok_makeFunc (by ((repeat (apply ArgsR.cons; rfl)); exact ArgsR.nil)) (by ((repeat (apply ArgsR.cons; rfl)); exact ArgsR.nil))) ?_ | refine stm ?_ | refine Ja ?_ | refine Jb ?_ | refine Jc ?_ | refine Jd ?_ | refine Je ?_ | refine Jf ?_ | refine Jg ?_ | refine Jh ?_ ?_ | refine Ji ?_ ?_ | refine Jj ?_ ?_ | refine run_nil ?_ | refine sd ?_ | refine sdl ?_ | refine sdm (n := 1) ?_ | refine sdm ?_ | refine sdb ?_ | refine Jk ?_ | refine Jl ?_ | refine Jm ?_ | refine Jn ?_ ?_ | refine Jo ?_ ?_ | refine Jp ?_ ?_ | refine rund_nil ?_ | refine Jz ?_ | refine Jw ?_ | refine Jx (id := 20) [0,0,0,6,15,31,63,63,0,383,1023] 9 ?_ | refine aw_block ?_ | refine Jq ?_ | refine Jr ?_ | refine Js ?_ | refine Jt ?_ | refine Ju ?_ ?_ | refine Jv ?_ ?_ | refine Jy ?_ | refine aw_exit ?_ | refine aw_ret ?_ | refine pp_ret ?_ | refine pp_normal ?_
    all_goals first
      | rfl
      | (exfalso; omega)
      | (simp [retOf]; done)
      | (exfalso; simp_all; done)
      | (exfalso; simp only [Bool.not_eq_true', Bool.not_eq_false', decide_eq_true_eq, decide_eq_false_iff_not, Bool.not_false, Bool.not_true] at *; omega)
  obtain ⟨k, hk⟩ : ∃ k : Nat, o % 5 = k := ⟨(o % 5).toNat, by omega⟩
  have hk4 : k ≤ 4 := by omega
  refine acalls_law Tryz.func8 rfl rfl rfl ?_
  refine aw_ghost 4 rfl ?_
  repeat' first | intro h1 | refine st (h := ok_not_dec2 rfl) ?_ | refine sd (h := ok_not_dec2 rfl) ?_ | refine st (v := .int .i64 (k : Int)) (h := by (rw [← hk]; exact ok_rem_pos rfl rfl (by omega))) ?_ | refine st ?_ | refine st_call (HK) ?_ | refine sd_call (HK) ?_ | refine st (h := ok_makeFunc (by ((repeat (apply ArgsR.cons; rfl)); exact ArgsR.nil)) (by ((repeat (apply ArgsR.cons; rfl)); exact ArgsR.nil))) ?_ | refine sd (h := ok_makeFunc (by ((repeat (apply ArgsR.cons; rfl)); exact ArgsR.nil)) (by ((repeat (apply ArgsR.cons; rfl)); exact ArgsR.nil))) ?_ | refine stm ?_ | refine Ja ?_ | refine Jb ?_ | refine Jc ?_ | refine Jd ?_ | refine Je ?_ | refine Jf ?_ | refine Jg ?_ | refine Jh ?_ ?_ | refine Ji ?_ ?_ | refine Jj ?_ ?_ | refine run_nil ?_ | refine sd ?_ | refine sdl ?_ | refine sdm (n := 1) ?_ | refine sdm ?_ | refine sdb ?_ | refine Jk ?_ | refine Jl ?_ | refine Jm ?_ | refine Jn ?_ ?_ | refine Jo ?_ ?_ | refine Jp ?_ ?_ | refine rund_nil ?_ | refine Jz ?_ | refine Jw ?_ | refine Jx (id := 20) [0,0,0,6,15,31,63,63,0,383,1023] 9 ?_ | refine aw_block ?_ | refine Jq ?_ | refine Jr ?_ | refine Js ?_ | refine Jt ?_ | refine Ju ?_ ?_ | refine Jv ?_ ?_ | refine Jy ?_ | refine aw_exit ?_ | refine aw_ret ?_ | refine pp_ret ?_ | refine pp_normal ?_
  refine aw_loopg
    (S := fun y : Ki => [(1, .slice (some ⟨0, 0, none⟩) n n), (5, .slice (some ⟨1, 0, none⟩) y.i y.i), (31, .int .i64 k), (32, .int .i64 y.i)])
    (B := fun y : Ki => [some ⟨X.map (Value.int .u8), false, 1⟩, some ⟨(plL y.i).flatMap mbC, true, 4⟩])
    (R := fun y : Ki => y.i ≤ k)
    (μ := fun y : Ki => k - y.i) ⟨0⟩ (fitsD [0, 1]) (Nat.zero_le _) ?_
  rintro ⟨i⟩ g1
  dsimp only at g1 ⊢
  by_cases hi : i < k
  · have he := pl_enc (i := i) (by omega)
    have hcs : (plL i).flatMap mbC ++ mbC (Mb.mk (plN i) ⟨#[120]⟩ (1 + 2 * (i : Int)) 1) = (plL (i + 1)).flatMap mbC := by rw [plL_succ]; exact mbC_snoc
    have hct := pl_cat i
    have hpz : (plN i).size ≤ 9223372036854775807 := by (show 2 ≤ 9223372036854775807; decide)
    repeat' first | intro h1 | refine st (h := ok_not_dec2 rfl) ?_ | refine sd (h := ok_not_dec2 rfl) ?_ | refine st (h := ok_conv_rune rfl he) ?_ | refine st (h := ok_str_addD rfl rfl hct hpz) ?_ | refine stm (h := by (apply ok_append (cs := (plL (i + 1)).flatMap mbC) (olds := (plL i).flatMap mbC); rfl; rfl; rfl; rfl; rfl; rfl; (focus (apply Src.slc; rfl; exact Ty.eq; rfl; exact Nat.le_of_ble_eq_true rfl; exact TakeR.eq (by ((repeat constructor); first | done | fail)); rfl; rfl)); (focus (rw [mbC_lenL, plL_len]; omega)); (focus (apply take_all; rw [mbC_lenL, plL_len])); (focus exact hcs); omega; (focus ((repeat constructor); first | done | fail)))) ?_ | refine st ?_ | refine st (h := ok_makeFunc (by ((repeat (apply ArgsR.cons; rfl)); exact ArgsR.nil)) (by ((repeat (apply ArgsR.cons; rfl)); exact ArgsR.nil))) ?_ | refine sd (h := ok_makeFunc (by ((repeat (apply ArgsR.cons; rfl)); exact ArgsR.nil)) (by ((repeat (apply ArgsR.cons; rfl)); exact ArgsR.nil))) ?_ | refine stm ?_ | refine Ja ?_ | refine Jb ?_ | refine Jc ?_ | refine Jd ?_ | refine Je ?_ | refine Jf ?_ | refine Jg ?_ | refine Jh ?_ ?_ | refine Ji ?_ ?_ | refine Jj ?_ ?_ | refine run_nil ?_ | refine sd ?_ | refine sdl ?_ | refine sdm (n := 1) ?_ | refine sdm ?_ | refine sdb ?_ | refine Jk ?_ | refine Jl ?_ | refine Jm ?_ | refine Jn ?_ ?_ | refine Jo ?_ ?_ | refine Jp ?_ ?_ | refine rund_nil ?_ | refine Jz ?_ | refine Jw ?_ | refine Jx (id := 20) [0,0,0,6,15,31,63,63,0,383,1023] 9 ?_ | refine aw_block ?_ | refine Jq ?_ | refine Jr ?_ | refine Js ?_ | refine Jt ?_ | refine Ju ?_ ?_ | refine Jv ?_ ?_ | refine Jy ?_ | refine aw_exit ?_ | refine aw_ret ?_ | refine pp_ret ?_ | refine pp_normal ?_
    all_goals first | exact Exists.intro ⟨i + 1⟩ ⟨fitsD [0, 3], hi, by dsimp only; omega⟩ | exact Exists.intro ⟨i + 1⟩ ⟨fitsD [0, 2], hi, by dsimp only; omega⟩ | (exfalso; omega)
  · obtain rfl : i = k := by omega
    have HM := pl_mid X n hn hb hX i hk4
    clear hX
    repeat' first | intro h1 | refine st (h := ok_not_dec2 rfl) ?_ | refine sd (h := ok_not_dec2 rfl) ?_ | exact aw_fits (fitsD [0, 1]) HM | refine st ?_ | refine st (h := ok_makeFunc (by ((repeat (apply ArgsR.cons; rfl)); exact ArgsR.nil)) (by ((repeat (apply ArgsR.cons; rfl)); exact ArgsR.nil))) ?_ | refine sd (h := ok_makeFunc (by ((repeat (apply ArgsR.cons; rfl)); exact ArgsR.nil)) (by ((repeat (apply ArgsR.cons; rfl)); exact ArgsR.nil))) ?_ | refine stm ?_ | refine Ja ?_ | refine Jb ?_ | refine Jc ?_ | refine Jd ?_ | refine Je ?_ | refine Jf ?_ | refine Jg ?_ | refine Jh ?_ ?_ | refine Ji ?_ ?_ | refine Jj ?_ ?_ | refine run_nil ?_ | refine sd ?_ | refine sdl ?_ | refine sdm (n := 1) ?_ | refine sdm ?_ | refine sdb ?_ | refine Jk ?_ | refine Jl ?_ | refine Jm ?_ | refine Jn ?_ ?_ | refine Jo ?_ ?_ | refine Jp ?_ ?_ | refine rund_nil ?_ | refine Jz ?_ | refine Jw ?_ | refine Jx (id := 20) [0,0,0,6,15,31,63,63,0,383,1023] 9 ?_ | refine aw_block ?_ | refine Jq ?_ | refine Jr ?_ | refine Js ?_ | refine Jt ?_ | refine Ju ?_ ?_ | refine Jv ?_ ?_ | refine Jy ?_ | refine aw_exit ?_ | refine aw_ret ?_ | refine pp_ret ?_ | refine pp_normal ?_
end Go.Proofs.YtdbcbclapipgdaaGreatDoor
