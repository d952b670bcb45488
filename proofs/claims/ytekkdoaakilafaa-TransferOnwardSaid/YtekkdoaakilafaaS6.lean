/- Image: lengths, packets, spans. -/
import Derived.Test.YtekkdoaakilafaaVL
import Derived.Test.YtekkdoaakilafaaS5
import Derived.Test.YtekkdoaakilafaaS3
set_option linter.unusedVariables false
set_option linter.unusedSimpArgs false
namespace Go.Proofs.Ytekkdoaakilafaa
open Go Av
set_option maxRecDepth 20000
/-- What a right manifest is. -/
theorem chk_ok {v sz pg pk : Int} {L : List ByteArray} (h : chkM v sz pg pk L = 0) : sizB v pg pk = true ∧ (1 ≤ sz ∧ sz ≤ 65536) ∧ L.length ≤ 64 ∧ (L.length : Int) = (sz + pg - 1) / pg ∧ ∀ s ∈ L, s.size = 32 := by
  unfold chkM at h
  split at h
  · omega
  · rename_i hn
    simp only [not_or, Bool.not_eq_false] at hn
    obtain ⟨h1, h2, h3, h4, h5, h6⟩ := hn
    exact ⟨h1, by omega, by omega, by omega, fun s hs => by have := all_of (Decidable.not_not.1 h6) s hs; simpa using this⟩
theorem chk_01 (v sz pg pk : Int) (L : List ByteArray) : chkM v sz pg pk L = 0 ∨ chkM v sz pg pk L = 1 := by
  unfold chkM
  split
  · exact .inr rfl
  · exact .inl rfl
theorem parts_lt {sz pg i : Int} (h : 1 ≤ pg) : i < (sz + pg - 1) / pg ↔ i * pg < sz := by
  have h1 : i < (sz + pg - 1) / pg ↔ i + 1 ≤ (sz + pg - 1) / pg := by omega
  rw [h1, Int.le_ediv_iff_mul_le (by omega), Int.add_mul, Int.one_mul]
  omega
/-- A page's length. -/
def lenM (sz pg i : Int) : Int := min pg (sz - i * pg)
/-- The error of a page. -/
def pgE (c : Int) (n : Nat) (i : Int) : Int := if c ≠ 0 then 1 else if i < 0 ∨ (n : Int) ≤ i then 2 else 0
/-- What Packets returns. -/
def pkM (sz pg pk i e : Int) : Int := if e ≠ 0 then 0 else (lenM sz pg i + pk - 1) / pk
/-- What Span returns. -/
def spE (e n p : Int) : Int := if e ≠ 0 then e else if p < 0 ∨ n ≤ p then 2 else 0
def spF (pg pk i p e : Int) : Int := if e ≠ 0 then 0 else i * pg + p * pk
def spT (sz pg pk i p e : Int) : Int := if e ≠ 0 then 0 else min (i * pg + p * pk + pk) (i * pg + lenM sz pg i)
/-- A page of a right manifest. -/
theorem page_bd {v sz pg pk i : Int} {L : List ByteArray} (h : chkM v sz pg pk L = 0) (h0 : 0 ≤ i) (hi : i < L.length) : 0 ≤ i * pg ∧ i * pg < sz ∧ 1 ≤ lenM sz pg i ∧ lenM sz pg i ≤ pg ∧ lenM sz pg i ≤ sz - i * pg := by
  obtain ⟨h1, h2, h3, h4, h5⟩ := chk_ok h
  have hb := siz_bd h1
  have h6 : i * pg < sz := (parts_lt (by omega)).1 (by omega)
  have h7 : 0 ≤ i * pg := Int.mul_nonneg h0 (by omega)
  unfold lenM
  omega
theorem ac_size (v sz pg pk i : Int) (n : Nat) (L : List ByteArray) (hs : 0 ≤ sz ∧ sz ≤ 1000000) (hp : 0 ≤ pg ∧ pg ≤ 1000000) (hi : 0 ≤ i * pg ∧ i * pg ≤ 1000000) (x : Int) (hx : lenM sz pg i = x) : ACalls Try.prog 50 [.agg #[.int .i64 v, .int .i64 sz, .int .i64 pg, .int .i64 pk, .slice (some ⟨0, 0, none⟩) n n], .int .i64 i] [some ⟨List.map Value.string L, false, 1⟩] (.int .i64 x) [none] := by
  unfold lenM at hx
  obtain ⟨ip, hip⟩ : ∃ ip, i * pg = ip := ⟨_, rfl⟩
  rw [hip] at hx
  refine acalls_law Try.func50 rfl rfl rfl ?_
  repeat' first | intro h1 | refine st (v := .int .i64 ip) (h := by (rw [← hip]; apply ok_mul64; rfl; rfl; omega)) ?_ | refine sd (v := .int .i64 ip) (h := by (rw [← hip]; apply ok_mul64; rfl; rfl; omega)) ?_ | refine st ?_ | refine stm ?_ | refine Ja ?_ | refine Jb ?_ | refine Jc ?_ | refine Jd ?_ | refine Je ?_ | refine Jf ?_ | refine Jg ?_ | refine Jh ?_ ?_ | refine Ji ?_ ?_ | refine Jj ?_ ?_ | refine run_nil ?_ | refine Jz ?_ | refine Jw ?_ | refine aw_block ?_ | refine Jq ?_ | refine Jr ?_ | refine Js ?_ | refine Jt ?_ | refine Ju ?_ ?_ | refine Jv ?_ ?_ | refine Jy ?_ | refine aw_exit ?_ | refine aw_ret ?_ | refine pp_ret ?_ | refine pp_normal ?_
  all_goals first
    | rfl
    | (rw [← hx]; rfl)
    | (rw [← hx]; congr 1; omega)
    | (exfalso; omega)
    | (exfalso; simp only [Bool.not_eq_true', Bool.not_eq_false', decide_eq_true_eq, decide_eq_false_iff_not, Bool.not_false, Bool.not_true] at *; omega)
    | (exfalso; simp_all; first | done | omega)
theorem ac_length (v sz pg pk i : Int) (n : Nat) (L : List ByteArray) (hs : 0 ≤ sz ∧ sz ≤ 1000000) (hp : 0 ≤ pg ∧ pg ≤ 1000000) (hi : 0 ≤ i * pg ∧ i * pg ≤ 1000000) (x : Int) (hx : lenM sz pg i = x) : ACalls Try.prog 100 [.agg #[.int .i64 v, .int .i64 sz, .int .i64 pg, .int .i64 pk, .slice (some ⟨0, 0, none⟩) n n], .int .i64 i] [some ⟨List.map Value.string L, false, 1⟩] (.int .i64 x) [none] := by
  unfold lenM at hx
  obtain ⟨ip, hip⟩ : ∃ ip, i * pg = ip := ⟨_, rfl⟩
  rw [hip] at hx
  refine acalls_law Try.func100 rfl rfl rfl ?_
  repeat' first | intro h1 | refine st (v := .int .i64 ip) (h := by (rw [← hip]; apply ok_mul64; rfl; rfl; omega)) ?_ | refine sd (v := .int .i64 ip) (h := by (rw [← hip]; apply ok_mul64; rfl; rfl; omega)) ?_ | refine st ?_ | refine stm ?_ | refine Ja ?_ | refine Jb ?_ | refine Jc ?_ | refine Jd ?_ | refine Je ?_ | refine Jf ?_ | refine Jg ?_ | refine Jh ?_ ?_ | refine Ji ?_ ?_ | refine Jj ?_ ?_ | refine run_nil ?_ | refine Jz ?_ | refine Jw ?_ | refine aw_block ?_ | refine Jq ?_ | refine Jr ?_ | refine Js ?_ | refine Jt ?_ | refine Ju ?_ ?_ | refine Jv ?_ ?_ | refine Jy ?_ | refine aw_exit ?_ | refine aw_ret ?_ | refine pp_ret ?_ | refine pp_normal ?_
  all_goals first
    | rfl
    | (rw [← hx]; rfl)
    | (rw [← hx]; congr 1; omega)
    | (exfalso; omega)
    | (exfalso; simp only [Bool.not_eq_true', Bool.not_eq_false', decide_eq_true_eq, decide_eq_false_iff_not, Bool.not_false, Bool.not_true] at *; omega)
    | (exfalso; simp_all; first | done | omega)
set_option maxHeartbeats 2000000 in
theorem ac_page (v sz pg pk i : Int) (L : List ByteArray) (n : Nat) (hn : L.length = n) (hb : n ≤ 9000000000000000000) (c : Int) (hc : chkM v sz pg pk L = c) (x : Int) (hx : pgE c n i = x) : ACalls Try.prog 48 [.agg #[.int .i64 v, .int .i64 sz, .int .i64 pg, .int .i64 pk, .slice (some ⟨0, 0, none⟩) n n], .int .i64 i] [some ⟨List.map Value.string L, false, 1⟩] (.int .i64 x) [none] := by
  have H1 := ac_mcheck v sz pg pk L n hn hb c hc
  unfold pgE at hx
  by_cases h1 : c ≠ 0
  · rw [if_pos h1] at hx
    subst hx
    refine acalls_law Try.func48 rfl rfl rfl ?_
    repeat' first | intro h1 | refine st ?_ | refine stRW [0] H1 ?_ | refine sdRW [0] H1 ?_ | refine stm ?_ | refine Ja ?_ | refine Jb ?_ | refine Jc ?_ | refine Jd ?_ | refine Je ?_ | refine Jf ?_ | refine Jg ?_ | refine Jh ?_ ?_ | refine Ji ?_ ?_ | refine Jj ?_ ?_ | refine run_nil ?_ | refine Jz ?_ | refine Jw ?_ | refine aw_block ?_ | refine Jq ?_ | refine Jr ?_ | refine Js ?_ | refine Jt ?_ | refine Ju ?_ ?_ | refine Jv ?_ ?_ | refine Jy ?_ | refine aw_exit ?_ | refine aw_ret ?_ | refine pp_ret ?_ | refine pp_normal ?_
    all_goals first
      | rfl
      | (exfalso; omega)
      | (exfalso; simp only [Bool.not_eq_true', Bool.not_eq_false', decide_eq_true_eq, decide_eq_false_iff_not, Bool.not_false, Bool.not_true] at *; omega)
      | (exfalso; simp_all; first | done | omega)
  · rw [if_neg h1] at hx
    obtain rfl : c = 0 := Decidable.not_not.1 h1
    by_cases h2 : i < 0 ∨ (n : Int) ≤ i
    · rw [if_pos h2] at hx
      subst hx
      refine acalls_law Try.func48 rfl rfl rfl ?_
      repeat' first | intro h1 | refine st ?_ | refine stRW [0] H1 ?_ | refine sdRW [0] H1 ?_ | refine stm ?_ | refine Ja ?_ | refine Jb ?_ | refine Jc ?_ | refine Jd ?_ | refine Je ?_ | refine Jf ?_ | refine Jg ?_ | refine Jh ?_ ?_ | refine Ji ?_ ?_ | refine Jj ?_ ?_ | refine run_nil ?_ | refine Jz ?_ | refine Jw ?_ | refine aw_block ?_ | refine Jq ?_ | refine Jr ?_ | refine Js ?_ | refine Jt ?_ | refine Ju ?_ ?_ | refine Jv ?_ ?_ | refine Jy ?_ | refine aw_exit ?_ | refine aw_ret ?_ | refine pp_ret ?_ | refine pp_normal ?_
      all_goals first
        | rfl
        | (exfalso; omega)
        | (exfalso; simp only [Bool.not_eq_true', Bool.not_eq_false', decide_eq_true_eq, decide_eq_false_iff_not, Bool.not_false, Bool.not_true] at *; omega)
        | (exfalso; simp_all; first | done | omega)
    · rw [if_neg h2] at hx
      subst hx
      refine acalls_law Try.func48 rfl rfl rfl ?_
      repeat' first | intro h1 | refine st ?_ | refine stRW [0] H1 ?_ | refine sdRW [0] H1 ?_ | refine stm ?_ | refine Ja ?_ | refine Jb ?_ | refine Jc ?_ | refine Jd ?_ | refine Je ?_ | refine Jf ?_ | refine Jg ?_ | refine Jh ?_ ?_ | refine Ji ?_ ?_ | refine Jj ?_ ?_ | refine run_nil ?_ | refine Jz ?_ | refine Jw ?_ | refine aw_block ?_ | refine Jq ?_ | refine Jr ?_ | refine Js ?_ | refine Jt ?_ | refine Ju ?_ ?_ | refine Jv ?_ ?_ | refine Jy ?_ | refine aw_exit ?_ | refine aw_ret ?_ | refine pp_ret ?_ | refine pp_normal ?_
      all_goals first
        | rfl
        | (exfalso; omega)
        | (exfalso; simp only [Bool.not_eq_true', Bool.not_eq_false', decide_eq_true_eq, decide_eq_false_iff_not, Bool.not_false, Bool.not_true] at *; omega)
        | (exfalso; simp_all; first | done | omega)
set_option maxHeartbeats 4000000 in
theorem ac_packets (v sz pg pk i : Int) (L : List ByteArray) (n : Nat) (hn : L.length = n) (hb : n ≤ 9000000000000000000) (c : Int) (hc : chkM v sz pg pk L = c) (e : Int) (he : pgE c n i = e) (x : Int) (hx : pkM sz pg pk i e = x) : ACalls Try.prog 17 [.agg #[.int .i64 v, .int .i64 sz, .int .i64 pg, .int .i64 pk, .slice (some ⟨0, 0, none⟩) n n], .int .i64 i] [some ⟨List.map Value.string L, false, 1⟩] (.tuple #[.int .i64 x, .int .i64 e]) [none] := by
  have H1 := ac_page v sz pg pk i L n hn hb c hc e he
  unfold pkM at hx
  by_cases h1 : e ≠ 0
  · rw [if_pos h1] at hx
    subst hx
    skip
    all_goals refine acalls_law Try.func17 rfl rfl rfl ?_
    repeat' first | intro h1 | refine st ?_ | refine stRW [0] H1 ?_ | refine stRW [0] H2 ?_ | refine sdRW [0] H1 ?_ | refine sdRW [0] H2 ?_ | refine st_call (H3) ?_ | refine sd_call (H3) ?_ | refine stm ?_ | refine Ja ?_ | refine Jb ?_ | refine Jc ?_ | refine Jd ?_ | refine Je ?_ | refine Jf ?_ | refine Jg ?_ | refine Jh ?_ ?_ | refine Ji ?_ ?_ | refine Jj ?_ ?_ | refine run_nil ?_ | refine sd ?_ | refine sdl ?_ | refine sdm (n := 1) ?_ | refine sdm ?_ | refine sdb ?_ | refine Jk ?_ | refine Jl ?_ | refine Jm ?_ | refine Jn ?_ ?_ | refine Jo ?_ ?_ | refine Jp ?_ ?_ | refine rund_nil ?_ | refine Jz ?_ | refine Jw ?_ | refine Jx (id := 4) [0,0,3,0,8,31,63,127] 8 ?_ | refine aw_block ?_ | refine Jq ?_ | refine Jr ?_ | refine Js ?_ | refine Jt ?_ | refine Ju ?_ ?_ | refine Jv ?_ ?_ | refine Jy ?_ | refine aw_exit ?_ | refine aw_ret ?_ | refine pp_ret ?_ | refine pp_normal ?_
    all_goals first
      | rfl
      | (exfalso; omega)
      | (exfalso; simp only [Bool.not_eq_true', Bool.not_eq_false', decide_eq_true_eq, decide_eq_false_iff_not, Bool.not_false, Bool.not_true] at *; omega)
      | (exfalso; simp_all; first | done | omega)
  · rw [if_neg h1] at hx
    obtain rfl : e = 0 := Decidable.not_not.1 h1
    have h2 : c = 0 ∧ 0 ≤ i ∧ i < n := by
      unfold pgE at he
      split at he
      · omega
      · split at he
        · omega
        · omega
    obtain ⟨rfl, h3, h4⟩ := h2
    obtain ⟨k1, k2, k3, k4, k5⟩ := page_bd hc h3 (by rw [hn]; exact h4)
    obtain ⟨q1, q2, q3, q4, q5⟩ := chk_ok hc
    have q6 := siz_bd q1
    obtain ⟨l, hl⟩ : ∃ l, lenM sz pg i = l := ⟨_, rfl⟩
    rw [hl] at hx k3 k4 k5
    have H2 := ac_size v sz pg pk i n L (by omega) (by omega) (by omega) l hl
    have H3 := ac_count l pk x (by omega) (by omega) hx
    clear hx hl
    refine acalls_law Try.func17 rfl rfl rfl ?_
    repeat' first | intro h1 | refine st ?_ | refine stRW [0] H1 ?_ | refine stRW [0] H2 ?_ | refine sdRW [0] H1 ?_ | refine sdRW [0] H2 ?_ | refine st_call (H3) ?_ | refine sd_call (H3) ?_ | refine stm ?_ | refine Ja ?_ | refine Jb ?_ | refine Jc ?_ | refine Jd ?_ | refine Je ?_ | refine Jf ?_ | refine Jg ?_ | refine Jh ?_ ?_ | refine Ji ?_ ?_ | refine Jj ?_ ?_ | refine run_nil ?_ | refine sd ?_ | refine sdl ?_ | refine sdm (n := 1) ?_ | refine sdm ?_ | refine sdb ?_ | refine Jk ?_ | refine Jl ?_ | refine Jm ?_ | refine Jn ?_ ?_ | refine Jo ?_ ?_ | refine Jp ?_ ?_ | refine rund_nil ?_ | refine Jz ?_ | refine Jw ?_ | refine Jx (id := 4) [0,0,3,0,8,31,63,127] 8 ?_ | refine aw_block ?_ | refine Jq ?_ | refine Jr ?_ | refine Js ?_ | refine Jt ?_ | refine Ju ?_ ?_ | refine Jv ?_ ?_ | refine Jy ?_ | refine aw_exit ?_ | refine aw_ret ?_ | refine pp_ret ?_ | refine pp_normal ?_
    all_goals first
      | rfl
      | (exfalso; omega)
      | (exfalso; simp only [Bool.not_eq_true', Bool.not_eq_false', decide_eq_true_eq, decide_eq_false_iff_not, Bool.not_false, Bool.not_true] at *; omega)
      | (exfalso; simp_all; first | done | omega)
set_option maxHeartbeats 4000000 in
theorem ac_rpackets (v sz pg pk i : Int) (L : List ByteArray) (n : Nat) (hn : L.length = n) (hb : n ≤ 9000000000000000000) (c : Int) (hc : chkM v sz pg pk L = c) (e : Int) (he : pgE c n i = e) (x : Int) (hx : pkM sz pg pk i e = x) : ACalls Try.prog 69 [.agg #[.int .i64 v, .int .i64 sz, .int .i64 pg, .int .i64 pk, .slice (some ⟨0, 0, none⟩) n n], .int .i64 i] [some ⟨List.map Value.string L, false, 1⟩] (.tuple #[.int .i64 x, .int .i64 e]) [none] := by
  have H1 := ac_rmcheck v sz pg pk L n hn hb c hc
  unfold pkM at hx
  by_cases h1 : e ≠ 0
  · rw [if_pos h1] at hx
    subst hx
    unfold pgE at he
    split at he
    · subst he
      rename_i hcc
      refine acalls_law Try.func69 rfl rfl rfl ?_
      repeat' first | intro h1 | refine st ?_ | refine stRW [0] H1 ?_ | refine stRW [0] H2 ?_ | refine sdRW [0] H1 ?_ | refine sdRW [0] H2 ?_ | refine st_call (H3) ?_ | refine sd_call (H3) ?_ | refine stm ?_ | refine Ja ?_ | refine Jb ?_ | refine Jc ?_ | refine Jd ?_ | refine Je ?_ | refine Jf ?_ | refine Jg ?_ | refine Jh ?_ ?_ | refine Ji ?_ ?_ | refine Jj ?_ ?_ | refine run_nil ?_ | refine sd ?_ | refine sdl ?_ | refine sdm (n := 1) ?_ | refine sdm ?_ | refine sdb ?_ | refine Jk ?_ | refine Jl ?_ | refine Jm ?_ | refine Jn ?_ ?_ | refine Jo ?_ ?_ | refine Jp ?_ ?_ | refine rund_nil ?_ | refine Jz ?_ | refine Jw ?_ | refine Jx (id := 5) [0,0,3,0,8,31,63,127] 8 ?_ | refine aw_block ?_ | refine Jq ?_ | refine Jr ?_ | refine Js ?_ | refine Jt ?_ | refine Ju ?_ ?_ | refine Jv ?_ ?_ | refine Jy ?_ | refine aw_exit ?_ | refine aw_ret ?_ | refine pp_ret ?_ | refine pp_normal ?_
      all_goals first
        | rfl
        | (exfalso; omega)
        | (exfalso; simp only [Bool.not_eq_true', Bool.not_eq_false', decide_eq_true_eq, decide_eq_false_iff_not, Bool.not_false, Bool.not_true] at *; omega)
        | (exfalso; simp_all; first | done | omega)
    split at he
    rotate_left
    · omega
    rename_i hcc hii
    subst he
    obtain rfl : c = 0 := Decidable.not_not.1 hcc
    all_goals refine acalls_law Try.func69 rfl rfl rfl ?_
    repeat' first | intro h1 | refine st ?_ | refine stRW [0] H1 ?_ | refine stRW [0] H2 ?_ | refine sdRW [0] H1 ?_ | refine sdRW [0] H2 ?_ | refine st_call (H3) ?_ | refine sd_call (H3) ?_ | refine stm ?_ | refine Ja ?_ | refine Jb ?_ | refine Jc ?_ | refine Jd ?_ | refine Je ?_ | refine Jf ?_ | refine Jg ?_ | refine Jh ?_ ?_ | refine Ji ?_ ?_ | refine Jj ?_ ?_ | refine run_nil ?_ | refine sd ?_ | refine sdl ?_ | refine sdm (n := 1) ?_ | refine sdm ?_ | refine sdb ?_ | refine Jk ?_ | refine Jl ?_ | refine Jm ?_ | refine Jn ?_ ?_ | refine Jo ?_ ?_ | refine Jp ?_ ?_ | refine rund_nil ?_ | refine Jz ?_ | refine Jw ?_ | refine Jx (id := 5) [0,0,3,0,8,31,63,127] 8 ?_ | refine aw_block ?_ | refine Jq ?_ | refine Jr ?_ | refine Js ?_ | refine Jt ?_ | refine Ju ?_ ?_ | refine Jv ?_ ?_ | refine Jy ?_ | refine aw_exit ?_ | refine aw_ret ?_ | refine pp_ret ?_ | refine pp_normal ?_
    all_goals first
      | rfl
      | (exfalso; omega)
      | (exfalso; simp only [Bool.not_eq_true', Bool.not_eq_false', decide_eq_true_eq, decide_eq_false_iff_not, Bool.not_false, Bool.not_true] at *; omega)
      | (exfalso; simp_all; first | done | omega)
  · rw [if_neg h1] at hx
    obtain rfl : e = 0 := Decidable.not_not.1 h1
    have h2 : c = 0 ∧ 0 ≤ i ∧ i < n := by
      unfold pgE at he
      split at he
      · omega
      · split at he
        · omega
        · omega
    obtain ⟨rfl, h3, h4⟩ := h2
    obtain ⟨k1, k2, k3, k4, k5⟩ := page_bd hc h3 (by rw [hn]; exact h4)
    obtain ⟨q1, q2, q3, q4, q5⟩ := chk_ok hc
    have q6 := siz_bd q1
    obtain ⟨l, hl⟩ : ∃ l, lenM sz pg i = l := ⟨_, rfl⟩
    rw [hl] at hx k3 k4 k5
    have H2 := ac_length v sz pg pk i n L (by omega) (by omega) (by omega) l hl
    have H3 := ac_parts l pk x (by omega) (by omega) hx
    clear hx hl
    refine acalls_law Try.func69 rfl rfl rfl ?_
    repeat' first | intro h1 | refine st ?_ | refine stRW [0] H1 ?_ | refine stRW [0] H2 ?_ | refine sdRW [0] H1 ?_ | refine sdRW [0] H2 ?_ | refine st_call (H3) ?_ | refine sd_call (H3) ?_ | refine stm ?_ | refine Ja ?_ | refine Jb ?_ | refine Jc ?_ | refine Jd ?_ | refine Je ?_ | refine Jf ?_ | refine Jg ?_ | refine Jh ?_ ?_ | refine Ji ?_ ?_ | refine Jj ?_ ?_ | refine run_nil ?_ | refine sd ?_ | refine sdl ?_ | refine sdm (n := 1) ?_ | refine sdm ?_ | refine sdb ?_ | refine Jk ?_ | refine Jl ?_ | refine Jm ?_ | refine Jn ?_ ?_ | refine Jo ?_ ?_ | refine Jp ?_ ?_ | refine rund_nil ?_ | refine Jz ?_ | refine Jw ?_ | refine Jx (id := 5) [0,0,3,0,8,31,63,127] 8 ?_ | refine aw_block ?_ | refine Jq ?_ | refine Jr ?_ | refine Js ?_ | refine Jt ?_ | refine Ju ?_ ?_ | refine Jv ?_ ?_ | refine Jy ?_ | refine aw_exit ?_ | refine aw_ret ?_ | refine pp_ret ?_ | refine pp_normal ?_
    all_goals first
      | rfl
      | (exfalso; omega)
      | (exfalso; simp only [Bool.not_eq_true', Bool.not_eq_false', decide_eq_true_eq, decide_eq_false_iff_not, Bool.not_false, Bool.not_true] at *; omega)
      | (exfalso; simp_all; first | done | omega)
set_option maxHeartbeats 8000000 in
theorem ac_span (v sz pg pk i p : Int) (L : List ByteArray) (n : Nat) (hn : L.length = n) (hb : n ≤ 9000000000000000000) (c : Int) (hc : chkM v sz pg pk L = c) (e : Int) (he : pgE c n i = e) (x : Int) (hx : pkM sz pg pk i e = x) (e2 : Int) (he2 : spE e x p = e2) (fr to : Int) (hfr : spF pg pk i p e2 = fr) (hto : spT sz pg pk i p e2 = to) : ACalls Try.prog 62 [.agg #[.int .i64 v, .int .i64 sz, .int .i64 pg, .int .i64 pk, .slice (some ⟨0, 0, none⟩) n n], .int .i64 i, .int .i64 p] [some ⟨List.map Value.string L, false, 1⟩] (.tuple #[.int .i64 fr, .int .i64 to, .int .i64 e2]) [none] := by
  have H1 := ac_packets v sz pg pk i L n hn hb c hc e he x hx
  unfold spF at hfr
  unfold spT at hto
  by_cases h1 : e2 ≠ 0
  · rw [if_pos h1] at hfr hto
    subst hfr hto
    unfold spE at he2
    by_cases h2 : e ≠ 0
    · rw [if_pos h2] at he2
      subst he2
      clear hc he hx
      refine acalls_law Try.func62 rfl rfl rfl ?_
      repeat' first | intro h1 | refine st ?_ | refine stRW [0] H1 ?_ | refine sdRW [0] H1 ?_ | refine stm ?_ | refine Ja ?_ | refine Jb ?_ | refine Jc ?_ | refine Jd ?_ | refine Je ?_ | refine Jf ?_ | refine Jg ?_ | refine Jh ?_ ?_ | refine Ji ?_ ?_ | refine Jj ?_ ?_ | refine run_nil ?_ | refine sd ?_ | refine sdl ?_ | refine sdm (n := 1) ?_ | refine sdm ?_ | refine sdb ?_ | refine Jk ?_ | refine Jl ?_ | refine Jm ?_ | refine Jn ?_ ?_ | refine Jo ?_ ?_ | refine Jp ?_ ?_ | refine rund_nil ?_ | refine Jz ?_ | refine Jw ?_ | refine Jx (id := 7) [0,0,0,4,14,0,0,64,224,0,0,1536,4064,8190,3585,32767,65535] 17 ?_ | refine aw_block ?_ | refine Jq ?_ | refine Jr ?_ | refine Js ?_ | refine Jt ?_ | refine Ju ?_ ?_ | refine Jv ?_ ?_ | refine Jy ?_ | refine aw_exit ?_ | refine aw_ret ?_ | refine pp_ret ?_ | refine pp_normal ?_
      all_goals first
        | rfl
        | (exfalso; omega)
        | (exfalso; simp only [Bool.not_eq_true', Bool.not_eq_false', decide_eq_true_eq, decide_eq_false_iff_not, Bool.not_false, Bool.not_true] at *; omega)
        | (exfalso; simp_all; first | done | omega)
    · rw [if_neg h2] at he2
      obtain rfl : e = 0 := Decidable.not_not.1 h2
      by_cases h3 : p < 0 ∨ x ≤ p
      · rw [if_pos h3] at he2
        subst he2
        clear hc he hx
        refine acalls_law Try.func62 rfl rfl rfl ?_
        repeat' first | intro h1 | refine st ?_ | refine stRW [0] H1 ?_ | refine sdRW [0] H1 ?_ | refine stm ?_ | refine Ja ?_ | refine Jb ?_ | refine Jc ?_ | refine Jd ?_ | refine Je ?_ | refine Jf ?_ | refine Jg ?_ | refine Jh ?_ ?_ | refine Ji ?_ ?_ | refine Jj ?_ ?_ | refine run_nil ?_ | refine sd ?_ | refine sdl ?_ | refine sdm (n := 1) ?_ | refine sdm ?_ | refine sdb ?_ | refine Jk ?_ | refine Jl ?_ | refine Jm ?_ | refine Jn ?_ ?_ | refine Jo ?_ ?_ | refine Jp ?_ ?_ | refine rund_nil ?_ | refine Jz ?_ | refine Jw ?_ | refine Jx (id := 7) [0,0,0,4,14,0,0,64,224,0,0,1536,4064,8190,3585,32767,65535] 17 ?_ | refine aw_block ?_ | refine Jq ?_ | refine Jr ?_ | refine Js ?_ | refine Jt ?_ | refine Ju ?_ ?_ | refine Jv ?_ ?_ | refine Jy ?_ | refine aw_exit ?_ | refine aw_ret ?_ | refine pp_ret ?_ | refine pp_normal ?_
        all_goals first
          | rfl
          | (exfalso; omega)
          | (exfalso; simp only [Bool.not_eq_true', Bool.not_eq_false', decide_eq_true_eq, decide_eq_false_iff_not, Bool.not_false, Bool.not_true] at *; omega)
          | (exfalso; simp_all; first | done | omega)
      · rw [if_neg h3] at he2
        exact absurd he2.symm h1
  · rw [if_neg h1] at hfr hto
    obtain rfl : e2 = 0 := Decidable.not_not.1 h1
    have h2 : e = 0 ∧ 0 ≤ p ∧ p < x := by
      unfold spE at he2
      split at he2
      · omega
      · split at he2
        · omega
        · omega
    obtain ⟨rfl, hp0, hp1⟩ := h2
    have h2 : c = 0 ∧ 0 ≤ i ∧ i < n := by
      unfold pgE at he
      split at he
      · omega
      · split at he
        · omega
        · omega
    obtain ⟨rfl, h3, h4⟩ := h2
    obtain ⟨k1, k2, k3, k4, k5⟩ := page_bd hc h3 (by rw [hn]; exact h4)
    obtain ⟨q1, q2, q3, q4, q5⟩ := chk_ok hc
    have q6 := siz_bd q1
    obtain ⟨l, hl⟩ : ∃ l, lenM sz pg i = l := ⟨_, rfl⟩
    have H2 := ac_size v sz pg pk i n L (by omega) (by omega) (by omega) l hl
    unfold pkM at hx
    rw [if_neg (by simp)] at hx
    rw [hl] at hx k3 k4 k5 hto
    have hpp : p * pk < l := (parts_lt (by omega)).1 (by rw [hx]; exact hp1)
    have hpn : 0 ≤ p * pk := Int.mul_nonneg hp0 (by omega)
    obtain ⟨ip, hip⟩ : ∃ ip, i * pg = ip := ⟨_, rfl⟩
    obtain ⟨pp, hpk⟩ : ∃ pp, p * pk = pp := ⟨_, rfl⟩
    rw [hip, hpk] at hfr hto
    subst hfr hto
    clear hl hx hc he he2
    refine acalls_law Try.func62 rfl rfl rfl ?_
    repeat' first | intro h1 | refine st (v := .int .i64 ip) (h := by (rw [← hip]; apply ok_mul64; rfl; rfl; omega)) ?_ | refine sd (v := .int .i64 ip) (h := by (rw [← hip]; apply ok_mul64; rfl; rfl; omega)) ?_ | refine st (v := .int .i64 pp) (h := by (rw [← hpk]; apply ok_mul64; rfl; rfl; omega)) ?_ | refine sd (v := .int .i64 pp) (h := by (rw [← hpk]; apply ok_mul64; rfl; rfl; omega)) ?_ | refine st ?_ | refine stRW [0] H1 ?_ | refine stRW [0] H2 ?_ | refine sdRW [0] H1 ?_ | refine sdRW [0] H2 ?_ | refine stm ?_ | refine Ja ?_ | refine Jb ?_ | refine Jc ?_ | refine Jd ?_ | refine Je ?_ | refine Jf ?_ | refine Jg ?_ | refine Jh ?_ ?_ | refine Ji ?_ ?_ | refine Jj ?_ ?_ | refine run_nil ?_ | refine sd ?_ | refine sdl ?_ | refine sdm (n := 1) ?_ | refine sdm ?_ | refine sdb ?_ | refine Jk ?_ | refine Jl ?_ | refine Jm ?_ | refine Jn ?_ ?_ | refine Jo ?_ ?_ | refine Jp ?_ ?_ | refine rund_nil ?_ | refine Jz ?_ | refine Jw ?_ | refine Jx (id := 7) [0,0,0,4,14,0,0,64,224,0,0,1536,4064,8190,3585,32767,65535] 17 ?_ | refine aw_block ?_ | refine Jq ?_ | refine Jr ?_ | refine Js ?_ | refine Jt ?_ | refine Ju ?_ ?_ | refine Jv ?_ ?_ | refine Jy ?_ | refine aw_exit ?_ | refine aw_ret ?_ | refine pp_ret ?_ | refine pp_normal ?_
    all_goals first
      | rfl
      | (exfalso; omega)
      | (exfalso; simp only [Bool.not_eq_true', Bool.not_eq_false', decide_eq_true_eq, decide_eq_false_iff_not, Bool.not_false, Bool.not_true] at *; omega)
      | (exfalso; simp_all; first | done | omega)
set_option maxHeartbeats 8000000 in
theorem ac_rspan (v sz pg pk i p : Int) (L : List ByteArray) (n : Nat) (hn : L.length = n) (hb : n ≤ 9000000000000000000) (c : Int) (hc : chkM v sz pg pk L = c) (e : Int) (he : pgE c n i = e) (x : Int) (hx : pkM sz pg pk i e = x) (e2 : Int) (he2 : spE e x p = e2) (fr to : Int) (hfr : spF pg pk i p e2 = fr) (hto : spT sz pg pk i p e2 = to) : ACalls Try.prog 70 [.agg #[.int .i64 v, .int .i64 sz, .int .i64 pg, .int .i64 pk, .slice (some ⟨0, 0, none⟩) n n], .int .i64 i, .int .i64 p] [some ⟨List.map Value.string L, false, 1⟩] (.tuple #[.int .i64 fr, .int .i64 to, .int .i64 e2]) [none] := by
  have H1 := ac_rpackets v sz pg pk i L n hn hb c hc e he x hx
  unfold spF at hfr
  unfold spT at hto
  by_cases h1 : e2 ≠ 0
  · rw [if_pos h1] at hfr hto
    subst hfr hto
    unfold spE at he2
    by_cases h2 : e ≠ 0
    · rw [if_pos h2] at he2
      subst he2
      clear hc he hx
      refine acalls_law Try.func70 rfl rfl rfl ?_
      repeat' first | intro h1 | refine st ?_ | refine stRW [0] H1 ?_ | refine sdRW [0] H1 ?_ | refine stm ?_ | refine Ja ?_ | refine Jb ?_ | refine Jc ?_ | refine Jd ?_ | refine Je ?_ | refine Jf ?_ | refine Jg ?_ | refine Jh ?_ ?_ | refine Ji ?_ ?_ | refine Jj ?_ ?_ | refine run_nil ?_ | refine sd ?_ | refine sdl ?_ | refine sdm (n := 1) ?_ | refine sdm ?_ | refine sdb ?_ | refine Jk ?_ | refine Jl ?_ | refine Jm ?_ | refine Jn ?_ ?_ | refine Jo ?_ ?_ | refine Jp ?_ ?_ | refine rund_nil ?_ | refine Jz ?_ | refine Jw ?_ | refine Jx (id := 7) [0,0,0,4,14,0,0,64,224,0,0,1536,4064,8190,3585,32767,65535] 17 ?_ | refine aw_block ?_ | refine Jq ?_ | refine Jr ?_ | refine Js ?_ | refine Jt ?_ | refine Ju ?_ ?_ | refine Jv ?_ ?_ | refine Jy ?_ | refine aw_exit ?_ | refine aw_ret ?_ | refine pp_ret ?_ | refine pp_normal ?_
      all_goals first
        | rfl
        | (exfalso; omega)
        | (exfalso; simp only [Bool.not_eq_true', Bool.not_eq_false', decide_eq_true_eq, decide_eq_false_iff_not, Bool.not_false, Bool.not_true] at *; omega)
        | (exfalso; simp_all; first | done | omega)
    · rw [if_neg h2] at he2
      obtain rfl : e = 0 := Decidable.not_not.1 h2
      by_cases h3 : p < 0 ∨ x ≤ p
      · rw [if_pos h3] at he2
        subst he2
        clear hc he hx
        refine acalls_law Try.func70 rfl rfl rfl ?_
        repeat' first | intro h1 | refine st ?_ | refine stRW [0] H1 ?_ | refine sdRW [0] H1 ?_ | refine stm ?_ | refine Ja ?_ | refine Jb ?_ | refine Jc ?_ | refine Jd ?_ | refine Je ?_ | refine Jf ?_ | refine Jg ?_ | refine Jh ?_ ?_ | refine Ji ?_ ?_ | refine Jj ?_ ?_ | refine run_nil ?_ | refine sd ?_ | refine sdl ?_ | refine sdm (n := 1) ?_ | refine sdm ?_ | refine sdb ?_ | refine Jk ?_ | refine Jl ?_ | refine Jm ?_ | refine Jn ?_ ?_ | refine Jo ?_ ?_ | refine Jp ?_ ?_ | refine rund_nil ?_ | refine Jz ?_ | refine Jw ?_ | refine Jx (id := 7) [0,0,0,4,14,0,0,64,224,0,0,1536,4064,8190,3585,32767,65535] 17 ?_ | refine aw_block ?_ | refine Jq ?_ | refine Jr ?_ | refine Js ?_ | refine Jt ?_ | refine Ju ?_ ?_ | refine Jv ?_ ?_ | refine Jy ?_ | refine aw_exit ?_ | refine aw_ret ?_ | refine pp_ret ?_ | refine pp_normal ?_
        all_goals first
          | rfl
          | (exfalso; omega)
          | (exfalso; simp only [Bool.not_eq_true', Bool.not_eq_false', decide_eq_true_eq, decide_eq_false_iff_not, Bool.not_false, Bool.not_true] at *; omega)
          | (exfalso; simp_all; first | done | omega)
      · rw [if_neg h3] at he2
        exact absurd he2.symm h1
  · rw [if_neg h1] at hfr hto
    obtain rfl : e2 = 0 := Decidable.not_not.1 h1
    have h2 : e = 0 ∧ 0 ≤ p ∧ p < x := by
      unfold spE at he2
      split at he2
      · omega
      · split at he2
        · omega
        · omega
    obtain ⟨rfl, hp0, hp1⟩ := h2
    have h2 : c = 0 ∧ 0 ≤ i ∧ i < n := by
      unfold pgE at he
      split at he
      · omega
      · split at he
        · omega
        · omega
    obtain ⟨rfl, h3, h4⟩ := h2
    obtain ⟨k1, k2, k3, k4, k5⟩ := page_bd hc h3 (by rw [hn]; exact h4)
    obtain ⟨q1, q2, q3, q4, q5⟩ := chk_ok hc
    have q6 := siz_bd q1
    obtain ⟨l, hl⟩ : ∃ l, lenM sz pg i = l := ⟨_, rfl⟩
    have H2 := ac_length v sz pg pk i n L (by omega) (by omega) (by omega) l hl
    unfold pkM at hx
    rw [if_neg (by simp)] at hx
    rw [hl] at hx k3 k4 k5 hto
    have hpp : p * pk < l := (parts_lt (by omega)).1 (by rw [hx]; exact hp1)
    have hpn : 0 ≤ p * pk := Int.mul_nonneg hp0 (by omega)
    obtain ⟨ip, hip⟩ : ∃ ip, i * pg = ip := ⟨_, rfl⟩
    obtain ⟨pp, hpk⟩ : ∃ pp, p * pk = pp := ⟨_, rfl⟩
    rw [hip, hpk] at hfr hto
    subst hfr hto
    clear hl hx hc he he2
    refine acalls_law Try.func70 rfl rfl rfl ?_
    repeat' first | intro h1 | refine st (v := .int .i64 ip) (h := by (rw [← hip]; apply ok_mul64; rfl; rfl; omega)) ?_ | refine sd (v := .int .i64 ip) (h := by (rw [← hip]; apply ok_mul64; rfl; rfl; omega)) ?_ | refine st (v := .int .i64 pp) (h := by (rw [← hpk]; apply ok_mul64; rfl; rfl; omega)) ?_ | refine sd (v := .int .i64 pp) (h := by (rw [← hpk]; apply ok_mul64; rfl; rfl; omega)) ?_ | refine st ?_ | refine stRW [0] H1 ?_ | refine stRW [0] H2 ?_ | refine sdRW [0] H1 ?_ | refine sdRW [0] H2 ?_ | refine stm ?_ | refine Ja ?_ | refine Jb ?_ | refine Jc ?_ | refine Jd ?_ | refine Je ?_ | refine Jf ?_ | refine Jg ?_ | refine Jh ?_ ?_ | refine Ji ?_ ?_ | refine Jj ?_ ?_ | refine run_nil ?_ | refine sd ?_ | refine sdl ?_ | refine sdm (n := 1) ?_ | refine sdm ?_ | refine sdb ?_ | refine Jk ?_ | refine Jl ?_ | refine Jm ?_ | refine Jn ?_ ?_ | refine Jo ?_ ?_ | refine Jp ?_ ?_ | refine rund_nil ?_ | refine Jz ?_ | refine Jw ?_ | refine Jx (id := 7) [0,0,0,4,14,0,0,64,224,0,0,1536,4064,8190,3585,32767,65535] 17 ?_ | refine aw_block ?_ | refine Jq ?_ | refine Jr ?_ | refine Js ?_ | refine Jt ?_ | refine Ju ?_ ?_ | refine Jv ?_ ?_ | refine Jy ?_ | refine aw_exit ?_ | refine aw_ret ?_ | refine pp_ret ?_ | refine pp_normal ?_
    all_goals first
      | rfl
      | (exfalso; omega)
      | (exfalso; simp only [Bool.not_eq_true', Bool.not_eq_false', decide_eq_true_eq, decide_eq_false_iff_not, Bool.not_false, Bool.not_true] at *; omega)
      | (exfalso; simp_all; first | done | omega)
end Go.Proofs.Ytekkdoaakilafaa
