/- Image: few, the same. Image: manifests checked by the reference. -/
import Derived.Test.YtekkdoaakilafaaVL
import Derived.Test.YtekkdoaakilafaaS2
import Derived.Test.YtekkdoaakilafaaNB
set_option linter.unusedVariables false
set_option linter.unusedSimpArgs false
namespace Go.Proofs.Ytekkdoaakilafaa
open Go Av
set_option maxRecDepth 20000
/-- A manifest has at most 70 digests of at most 100 bytes. -/
def fewM (L : List ByteArray) : Bool := decide (L.length ≤ 70 ∧ fidx (fun s : ByteArray => decide (100 < s.size)) L = -1)
theorem fidx_ne {α : Type} {q : α → Bool} {l : List α} {i : Nat} {x : α} (h : l[i]? = some x) (hq : q x = true) : fidx q l ≠ -1 := by
  have : 0 ≤ fidx q l := fidx_pos.2 ⟨x, List.mem_of_getElem? h, hq⟩
  omega
theorem all_of {α : Type} {q : α → Bool} {l : List α} (h : fidx q l = -1) : ∀ x ∈ l, q x = false := fun x hx => by
  cases hq : q x with
  | false => rfl
  | true =>
    have : 0 ≤ fidx q l := fidx_pos.2 ⟨x, hx, hq⟩
    omega
theorem fewM_spec {L : List ByteArray} (h : fewM L = true) : L.length ≤ 70 ∧ ∀ s ∈ L, s.size ≤ 100 := by
  have h := of_decide_eq_true h
  exact ⟨h.1, fun s hs => by have := all_of h.2 s hs; simpa using this⟩
set_option maxHeartbeats 2000000 in
theorem ac_few (v sz pg pk : Int) (L : List ByteArray) (n : Nat) (hn : L.length = n) (hb : n ≤ 9000000000000000000) (x : Bool) (hx : fewM L = x) : ACalls Try.prog 11 [.agg #[.int .i64 v, .int .i64 sz, .int .i64 pg, .int .i64 pk, .slice (some ⟨0, 0, none⟩) n n]] [some ⟨List.map Value.string L, false, 1⟩] (.bool x) [none] := by
  unfold fewM at hx
  rw [hn] at hx
  refine acalls_law Try.func11 rfl rfl rfl ?_
  repeat' first | intro h1 | refine st ?_ | refine stm ?_ | refine Ja ?_ | refine Jb ?_ | refine Jc ?_ | refine Jd ?_ | refine Je ?_ | refine Jf ?_ | refine Jg ?_ | refine Jh ?_ ?_ | refine Ji ?_ ?_ | refine Jj ?_ ?_ | refine run_nil ?_ | refine Jz ?_ | refine Jw ?_ | refine aw_block ?_ | refine Jq ?_ | refine Jr ?_ | refine Js ?_ | refine Jt ?_ | refine Ju ?_ ?_ | refine Jv ?_ ?_ | refine Jy ?_ | refine aw_exit ?_ | refine aw_ret ?_ | refine pp_ret ?_ | refine pp_normal ?_
  case refine_1 =>
    obtain rfl : x = false := by rw [← hx]; exact decide_eq_false (by omega)
    rfl
  refine aw_loopg
    (S := fun y : Og => [(1, .pointer (some ⟨1, 0, none⟩)), (3, .int .i64 y.i)])
    (B := fun _ : Og => [some ⟨List.map Value.string L, false, 1⟩, some ⟨[.int .i64 v, .int .i64 sz, .int .i64 pg, .int .i64 pk, .slice (some ⟨0, 0, none⟩) n n], true, 1⟩])
    (R := fun y : Og => y.i ≤ n ∧ ∀ (j : Nat), j < y.i → ∀ q, L[j]? = some q → (fun s : ByteArray => decide (100 < s.size)) q = false)
    (μ := fun y : Og => n - y.i) ⟨0⟩ (fitsD [0, 1]) ⟨Nat.zero_le _, fun j hj => absurd hj (Nat.not_lt_zero _)⟩ ?_
  rintro ⟨i⟩ ⟨g1, g2⟩
  dsimp only at *
  by_cases hi : i < n
  · obtain ⟨q, hq⟩ : ∃ q, L[i]? = some q := ⟨_, List.getElem?_eq_getElem (by omega)⟩
    by_cases heq : 100 < q.size
    · obtain rfl : x = false := by rw [← hx]; exact decide_eq_false fun h => fidx_ne (q := fun s : ByteArray => decide (100 < s.size)) hq (decide_eq_true heq) h.2
      repeat' first | intro h1 | refine st (h := ok_load_mapE (f := Value.string) i hq rfl rfl rfl (by omega)) ?_ | refine st ?_ | refine stm ?_ | refine Ja ?_ | refine Jb ?_ | refine Jc ?_ | refine Jd ?_ | refine Je ?_ | refine Jf ?_ | refine Jg ?_ | refine Jh ?_ ?_ | refine Ji ?_ ?_ | refine Jj ?_ ?_ | refine run_nil ?_ | refine Jz ?_ | refine Jw ?_ | refine aw_block ?_ | refine Jq ?_ | refine Jr ?_ | refine Js ?_ | refine Jt ?_ | refine Ju ?_ ?_ | refine Jv ?_ ?_ | refine Jy ?_ | refine aw_exit ?_ | refine aw_ret ?_ | refine pp_ret ?_ | refine pp_normal ?_
      all_goals first
        | rfl
        | (exfalso; omega)
        | (exfalso; simp only [Bool.not_eq_true', Bool.not_eq_false', decide_eq_true_eq, decide_eq_false_iff_not, Bool.not_false, Bool.not_true] at *; omega)
        | (exfalso; simp_all; first | done | omega)
    · have hst := no_step (q := fun s : ByteArray => decide (100 < s.size)) g2 hq (decide_eq_false heq)
      repeat' first | intro h1 | refine st (h := ok_load_mapE (f := Value.string) i hq rfl rfl rfl (by omega)) ?_ | refine st ?_ | refine stm ?_ | refine Ja ?_ | refine Jb ?_ | refine Jc ?_ | refine Jd ?_ | refine Je ?_ | refine Jf ?_ | refine Jg ?_ | refine Jh ?_ ?_ | refine Ji ?_ ?_ | refine Jj ?_ ?_ | refine run_nil ?_ | refine Jz ?_ | refine Jw ?_ | refine aw_block ?_ | refine Jq ?_ | refine Jr ?_ | refine Js ?_ | refine Jt ?_ | refine Ju ?_ ?_ | refine Jv ?_ ?_ | refine Jy ?_ | refine aw_exit ?_ | refine aw_ret ?_ | refine pp_ret ?_ | refine pp_normal ?_
      all_goals first | exact Exists.intro ⟨i + 1⟩ ⟨fitsD [0, 1], ⟨hi, hst⟩, by dsimp only; omega⟩ | (exfalso; omega)
  · obtain rfl : i = n := by omega
    obtain rfl : x = true := by rw [← hx]; exact decide_eq_true ⟨by omega, fidx_no (by rw [hn]; exact g2)⟩
    repeat' first | intro h1 | refine st ?_ | refine stm ?_ | refine Ja ?_ | refine Jb ?_ | refine Jc ?_ | refine Jd ?_ | refine Je ?_ | refine Jf ?_ | refine Jg ?_ | refine Jh ?_ ?_ | refine Ji ?_ ?_ | refine Jj ?_ ?_ | refine run_nil ?_ | refine Jz ?_ | refine Jw ?_ | refine aw_block ?_ | refine Jq ?_ | refine Jr ?_ | refine Js ?_ | refine Jt ?_ | refine Ju ?_ ?_ | refine Jv ?_ ?_ | refine Jy ?_ | refine aw_exit ?_ | refine aw_ret ?_ | refine pp_ret ?_ | refine pp_normal ?_
    all_goals first
      | rfl
      | (exfalso; omega)
      | (exfalso; simp only [Bool.not_eq_true', Bool.not_eq_false', decide_eq_true_eq, decide_eq_false_iff_not, Bool.not_false, Bool.not_true] at *; omega)
      | (exfalso; simp_all; first | done | omega)
theorem eq_of_allS {L L' : List ByteArray} (hl : L.length = L'.length) (h : ∀ (j : Nat), j < L.length → L[j]? = L'[j]?) : L = L' := by
  apply List.ext_getElem? fun i => ?_
  rcases Nat.lt_or_ge i L.length with h1 | h1
  · exact h i h1
  · rw [List.getElem?_eq_none h1, List.getElem?_eq_none (by omega)]
set_option maxHeartbeats 8000000 in
theorem ac_same (v sz pg pk v' sz' pg' pk' : Int) (L L' : List ByteArray) (n n' : Nat) (hn : L.length = n) (hn' : L'.length = n') (hb : n ≤ 9000000000000000000) (hb' : n' ≤ 9000000000000000000) (x : Bool) (hx : decide (v = v' ∧ sz = sz' ∧ pg = pg' ∧ pk = pk' ∧ L = L') = x) : ACalls Try.prog 42 [.agg #[.int .i64 v, .int .i64 sz, .int .i64 pg, .int .i64 pk, .slice (some ⟨0, 0, none⟩) n n], .agg #[.int .i64 v', .int .i64 sz', .int .i64 pg', .int .i64 pk', .slice (some ⟨1, 0, none⟩) n' n']] [some ⟨List.map Value.string L, false, 1⟩, some ⟨List.map Value.string L', false, 1⟩] (.bool x) [none, none] := by
  by_cases h1 : v = v' ∧ sz = sz' ∧ pg = pg' ∧ pk = pk' ∧ n = n'
  · obtain ⟨rfl, rfl, rfl, rfl, rfl⟩ := h1
    refine acalls_law Try.func42 rfl rfl rfl ?_
    repeat' first | intro h1 | refine st ?_ | refine stm ?_ | refine Ja ?_ | refine Jb ?_ | refine Jc ?_ | refine Jd ?_ | refine Je ?_ | refine Jf ?_ | refine Jg ?_ | refine Jh ?_ ?_ | refine Ji ?_ ?_ | refine Jj ?_ ?_ | refine run_nil ?_ | refine sd ?_ | refine sdl ?_ | refine sdm (n := 1) ?_ | refine sdm ?_ | refine sdb ?_ | refine Jk ?_ | refine Jl ?_ | refine Jm ?_ | refine Jn ?_ ?_ | refine Jo ?_ ?_ | refine Jp ?_ ?_ | refine rund_nil ?_ | refine Jz ?_ | refine Jw ?_ | refine Jx (id := 6) [0,1,0,7,15,0,32,0,224,480,1023] 11 ?_ | refine aw_block ?_ | refine Jq ?_ | refine Jr ?_ | refine Js ?_ | refine Jt ?_ | refine Ju ?_ ?_ | refine Jv ?_ ?_ | refine Jy ?_ | refine aw_exit ?_ | refine aw_ret ?_ | refine pp_ret ?_ | refine pp_normal ?_
    refine aw_loopg
      (S := fun y : Og => [(2, .pointer (some ⟨2, 0, none⟩)), (3, .pointer (some ⟨3, 0, none⟩)), (5, .int .i64 y.i)])
      (B := fun _ : Og => [some ⟨List.map Value.string L, false, 1⟩, some ⟨List.map Value.string L', false, 1⟩, some ⟨[.int .i64 v, .int .i64 sz, .int .i64 pg, .int .i64 pk, .slice (some ⟨0, 0, none⟩) n n], true, 1⟩, some ⟨[.int .i64 v, .int .i64 sz, .int .i64 pg, .int .i64 pk, .slice (some ⟨1, 0, none⟩) n n], true, 1⟩])
      (R := fun y : Og => y.i ≤ n ∧ ∀ (j : Nat), j < y.i → L[j]? = L'[j]?)
      (μ := fun y : Og => n - y.i) ⟨0⟩ (fitsD [0, 1, 2, 3]) ⟨Nat.zero_le _, fun j hj => absurd hj (Nat.not_lt_zero _)⟩ ?_
    rintro ⟨i⟩ ⟨g1, g2⟩
    dsimp only at *
    by_cases hi : i < n
    · obtain ⟨q, hq⟩ : ∃ q, L[i]? = some q := ⟨_, List.getElem?_eq_getElem (by omega)⟩
      obtain ⟨p, hp⟩ : ∃ q, L'[i]? = some q := ⟨_, List.getElem?_eq_getElem (by omega)⟩
      by_cases heq : q = p
      · subst heq
        have hst : ∀ (j : Nat), j < i + 1 → L[j]? = L'[j]? := fun j hj => by
          rcases Nat.lt_or_ge j i with h1 | h1
          · exact g2 j h1
          · obtain rfl : j = i := by omega
            rw [hq, hp]
        repeat' first | intro h1 | refine sdl (h := ok_load_mapE (f := Value.string) i hq rfl rfl rfl (by omega)) ?_ | refine sdl (h := ok_load_mapE (f := Value.string) i hp rfl rfl rfl (by omega)) ?_ | refine st (h := ok_load_mapE (f := Value.string) i hq rfl rfl rfl (by omega)) ?_ | refine st (h := ok_load_mapE (f := Value.string) i hp rfl rfl rfl (by omega)) ?_ | refine sd (h := ok_str_neqF rfl rfl) ?_ | refine st ?_ | refine stm ?_ | refine Ja ?_ | refine Jb ?_ | refine Jc ?_ | refine Jd ?_ | refine Je ?_ | refine Jf ?_ | refine Jg ?_ | refine Jh ?_ ?_ | refine Ji ?_ ?_ | refine Jj ?_ ?_ | refine run_nil ?_ | refine sd ?_ | refine sdl ?_ | refine sdm (n := 1) ?_ | refine sdm ?_ | refine sdb ?_ | refine Jk ?_ | refine Jl ?_ | refine Jm ?_ | refine Jn ?_ ?_ | refine Jo ?_ ?_ | refine Jp ?_ ?_ | refine rund_nil ?_ | refine Jz ?_ | refine Jw ?_ | refine Jx (id := 6) [0,1,0,7,15,0,32,0,224,480,1023] 11 ?_ | refine aw_block ?_ | refine Jq ?_ | refine Jr ?_ | refine Js ?_ | refine Jt ?_ | refine Ju ?_ ?_ | refine Jv ?_ ?_ | refine Jy ?_ | refine aw_exit ?_ | refine aw_ret ?_ | refine pp_ret ?_ | refine pp_normal ?_
        all_goals first | exact Exists.intro ⟨i + 1⟩ ⟨fitsD [0, 1, 2, 3], ⟨hi, hst⟩, by dsimp only; omega⟩ | (exfalso; omega)
      · obtain rfl : x = false := by
          rw [← hx]
          refine decide_eq_false fun h => heq ?_
          rw [h.2.2.2.2, hp] at hq
          exact (Option.some.inj hq).symm
        repeat' first | intro h1 | refine sdl (h := ok_load_mapE (f := Value.string) i hq rfl rfl rfl (by omega)) ?_ | refine sdl (h := ok_load_mapE (f := Value.string) i hp rfl rfl rfl (by omega)) ?_ | refine st (h := ok_load_mapE (f := Value.string) i hq rfl rfl rfl (by omega)) ?_ | refine st (h := ok_load_mapE (f := Value.string) i hp rfl rfl rfl (by omega)) ?_ | refine sd (h := ok_str_neq rfl rfl) ?_ | refine st ?_ | refine stm ?_ | refine Ja ?_ | refine Jb ?_ | refine Jc ?_ | refine Jd ?_ | refine Je ?_ | refine Jf ?_ | refine Jg ?_ | refine Jh ?_ ?_ | refine Ji ?_ ?_ | refine Jj ?_ ?_ | refine run_nil ?_ | refine sd ?_ | refine sdl ?_ | refine sdm (n := 1) ?_ | refine sdm ?_ | refine sdb ?_ | refine Jk ?_ | refine Jl ?_ | refine Jm ?_ | refine Jn ?_ ?_ | refine Jo ?_ ?_ | refine Jp ?_ ?_ | refine rund_nil ?_ | refine Jz ?_ | refine Jw ?_ | refine Jx (id := 6) [0,1,0,7,15,0,32,0,224,480,1023] 11 ?_ | refine aw_block ?_ | refine Jq ?_ | refine Jr ?_ | refine Js ?_ | refine Jt ?_ | refine Ju ?_ ?_ | refine Jv ?_ ?_ | refine Jy ?_ | refine aw_exit ?_ | refine aw_ret ?_ | refine pp_ret ?_ | refine pp_normal ?_
        all_goals first
          | rfl
          | (exfalso; omega)
          | (exfalso; simp only [Bool.not_eq_true', Bool.not_eq_false', decide_eq_true_eq, decide_eq_false_iff_not, Bool.not_false, Bool.not_true] at *; omega)
          | (exfalso; simp_all; first | done | omega)
    · obtain rfl : n = i := by omega
      obtain rfl : x = true := by
        rw [← hx]
        exact decide_eq_true ⟨rfl, rfl, rfl, rfl, eq_of_allS (by omega) (by rw [hn]; exact g2)⟩
      repeat' first | intro h1 | refine st ?_ | refine stm ?_ | refine Ja ?_ | refine Jb ?_ | refine Jc ?_ | refine Jd ?_ | refine Je ?_ | refine Jf ?_ | refine Jg ?_ | refine Jh ?_ ?_ | refine Ji ?_ ?_ | refine Jj ?_ ?_ | refine run_nil ?_ | refine sd ?_ | refine sdl ?_ | refine sdm (n := 1) ?_ | refine sdm ?_ | refine sdb ?_ | refine Jk ?_ | refine Jl ?_ | refine Jm ?_ | refine Jn ?_ ?_ | refine Jo ?_ ?_ | refine Jp ?_ ?_ | refine rund_nil ?_ | refine Jz ?_ | refine Jw ?_ | refine Jx (id := 6) [0,1,0,7,15,0,32,0,224,480,1023] 11 ?_ | refine aw_block ?_ | refine Jq ?_ | refine Jr ?_ | refine Js ?_ | refine Jt ?_ | refine Ju ?_ ?_ | refine Jv ?_ ?_ | refine Jy ?_ | refine aw_exit ?_ | refine aw_ret ?_ | refine pp_ret ?_ | refine pp_normal ?_
      all_goals first
        | rfl
        | (exfalso; omega)
        | (exfalso; simp only [Bool.not_eq_true', Bool.not_eq_false', decide_eq_true_eq, decide_eq_false_iff_not, Bool.not_false, Bool.not_true] at *; omega)
        | (exfalso; simp_all; first | done | omega)
  · obtain rfl : x = false := by
      rw [← hx]
      exact decide_eq_false fun h => h1 ⟨h.1, h.2.1, h.2.2.1, h.2.2.2.1, by rw [← hn, ← hn', h.2.2.2.2]⟩
    refine acalls_law Try.func42 rfl rfl rfl ?_
    repeat' first | intro h1 | refine st ?_ | refine stm ?_ | refine Ja ?_ | refine Jb ?_ | refine Jc ?_ | refine Jd ?_ | refine Je ?_ | refine Jf ?_ | refine Jg ?_ | refine Jh ?_ ?_ | refine Ji ?_ ?_ | refine Jj ?_ ?_ | refine run_nil ?_ | refine sd ?_ | refine sdl ?_ | refine sdm (n := 1) ?_ | refine sdm ?_ | refine sdb ?_ | refine Jk ?_ | refine Jl ?_ | refine Jm ?_ | refine Jn ?_ ?_ | refine Jo ?_ ?_ | refine Jp ?_ ?_ | refine rund_nil ?_ | refine Jz ?_ | refine Jw ?_ | refine Jx (id := 6) [0,1,0,7,15,0,32,0,224,480,1023] 11 ?_ | refine aw_block ?_ | refine Jq ?_ | refine Jr ?_ | refine Js ?_ | refine Jt ?_ | refine Ju ?_ ?_ | refine Jv ?_ ?_ | refine Jy ?_ | refine aw_exit ?_ | refine aw_ret ?_ | refine pp_ret ?_ | refine pp_normal ?_
    all_goals first
      | rfl
      | (exfalso; omega)
      | (exfalso; simp only [Bool.not_eq_true', Bool.not_eq_false', decide_eq_true_eq, decide_eq_false_iff_not, Bool.not_false, Bool.not_true] at *; omega)
      | (exfalso; simp_all; first | done | omega)
end Go.Proofs.Ytekkdoaakilafaa
namespace Go.Proofs.Ytekkdoaakilafaa
open Go Av
set_option maxRecDepth 20000
set_option maxHeartbeats 8000000 in
theorem ac_rmcheck (v sz pg pk : Int) (L : List ByteArray) (n : Nat) (hn : L.length = n) (hb : n ≤ 9000000000000000000) (x : Int) (hx : chkM v sz pg pk L = x) : ACalls Try.prog 79 [.agg #[.int .i64 v, .int .i64 sz, .int .i64 pg, .int .i64 pk, .slice (some ⟨0, 0, none⟩) n n]] [some ⟨List.map Value.string L, false, 1⟩] (.int .i64 x) [none] := by
  unfold chkM at hx
  rw [hn] at hx
  obtain ⟨y, hy⟩ : ∃ y, sizB v pg pk = y := ⟨_, rfl⟩
  obtain ⟨c, hc⟩ : ∃ c, (sz + pg - 1) / pg = c := ⟨_, rfl⟩
  have H1 := ac_rsizes v pg pk
  rw [hy] at H1 hx
  rw [hc] at hx
  cases y
  · obtain rfl : x = 1 := by rw [← hx]; exact if_pos (.inl rfl)
    clear hx
    refine acalls_law Try.func79 rfl rfl rfl ?_
    repeat' first | intro h1 | refine st (h := ok_not_dec2 rfl) ?_ | refine sd (h := ok_not_dec2 rfl) ?_ | refine st ?_ | refine st_call (H1) ?_ | refine sd_call (H1) ?_ | refine stm ?_ | refine Ja ?_ | refine Jb ?_ | refine Jc ?_ | refine Jd ?_ | refine Je ?_ | refine Jf ?_ | refine Jg ?_ | refine Jh ?_ ?_ | refine Ji ?_ ?_ | refine Jj ?_ ?_ | refine run_nil ?_ | refine sd ?_ | refine sdl ?_ | refine sdm (n := 1) ?_ | refine sdm ?_ | refine sdb ?_ | refine Jk ?_ | refine Jl ?_ | refine Jm ?_ | refine Jn ?_ ?_ | refine Jo ?_ ?_ | refine Jp ?_ ?_ | refine rund_nil ?_ | refine Jz ?_ | refine Jw ?_ | refine Jx (id := 1) [0,1,0,4,0,16,63,127,255,511,1023,2047,4095,8191,16383,32767,65535,131071,262143,524287,1048575,2097151,4194303,8388607,16777215,33554431,67108863,134217727,33554431,301989887,33554431,1107296255,4060086271,8589934591,17179869183] 35 ?_ | refine aw_block ?_ | refine Jq ?_ | refine Jr ?_ | refine Js ?_ | refine Jt ?_ | refine Ju ?_ ?_ | refine Jv ?_ ?_ | refine Jy ?_ | refine aw_exit ?_ | refine aw_ret ?_ | refine pp_ret ?_ | refine pp_normal ?_
    all_goals first
      | rfl
      | (exfalso; omega)
      | (exfalso; simp only [Bool.not_eq_true', Bool.not_eq_false', decide_eq_true_eq, decide_eq_false_iff_not, Bool.not_false, Bool.not_true] at *; omega)
      | (exfalso; simp_all; first | done | omega)
  · have hbd := siz_bd hy
    by_cases h1 : sz < 1 ∨ 65536 < sz
    · obtain rfl : x = 1 := by
        rw [← hx]
        refine if_pos ?_
        rcases h1 with h | h
        · exact .inr (.inl h)
        · exact .inr (.inr (.inl h))
      clear hx
      refine acalls_law Try.func79 rfl rfl rfl ?_
      repeat' first | intro h1 | refine st (h := ok_not_dec2 rfl) ?_ | refine sd (h := ok_not_dec2 rfl) ?_ | refine st ?_ | refine st_call (H1) ?_ | refine sd_call (H1) ?_ | refine stm ?_ | refine Ja ?_ | refine Jb ?_ | refine Jc ?_ | refine Jd ?_ | refine Je ?_ | refine Jf ?_ | refine Jg ?_ | refine Jh ?_ ?_ | refine Ji ?_ ?_ | refine Jj ?_ ?_ | refine run_nil ?_ | refine sd ?_ | refine sdl ?_ | refine sdm (n := 1) ?_ | refine sdm ?_ | refine sdb ?_ | refine Jk ?_ | refine Jl ?_ | refine Jm ?_ | refine Jn ?_ ?_ | refine Jo ?_ ?_ | refine Jp ?_ ?_ | refine rund_nil ?_ | refine Jz ?_ | refine Jw ?_ | refine Jx (id := 1) [0,1,0,4,0,16,63,127,255,511,1023,2047,4095,8191,16383,32767,65535,131071,262143,524287,1048575,2097151,4194303,8388607,16777215,33554431,67108863,134217727,33554431,301989887,33554431,1107296255,4060086271,8589934591,17179869183] 35 ?_ | refine aw_block ?_ | refine Jq ?_ | refine Jr ?_ | refine Js ?_ | refine Jt ?_ | refine Ju ?_ ?_ | refine Jv ?_ ?_ | refine Jy ?_ | refine aw_exit ?_ | refine aw_ret ?_ | refine pp_ret ?_ | refine pp_normal ?_
      all_goals first
        | rfl
        | (exfalso; omega)
        | (exfalso; simp only [Bool.not_eq_true', Bool.not_eq_false', decide_eq_true_eq, decide_eq_false_iff_not, Bool.not_false, Bool.not_true] at *; omega)
        | (exfalso; simp_all; first | done | omega)
    · have H2 := ac_parts sz pg c (by omega) (by omega) hc
      by_cases h2 : 64 < n ∨ (n : Int) ≠ c
      · obtain rfl : x = 1 := by
          rw [← hx]
          refine if_pos ?_
          rcases h2 with h | h
          · exact .inr (.inr (.inr (.inl h)))
          · exact .inr (.inr (.inr (.inr (.inl h))))
        clear hx
        refine acalls_law Try.func79 rfl rfl rfl ?_
        repeat' first | intro h1 | refine st (h := ok_not_dec2 rfl) ?_ | refine sd (h := ok_not_dec2 rfl) ?_ | refine st ?_ | refine st_call (H1) ?_ | refine st_call (H2) ?_ | refine sd_call (H1) ?_ | refine sd_call (H2) ?_ | refine stm ?_ | refine Ja ?_ | refine Jb ?_ | refine Jc ?_ | refine Jd ?_ | refine Je ?_ | refine Jf ?_ | refine Jg ?_ | refine Jh ?_ ?_ | refine Ji ?_ ?_ | refine Jj ?_ ?_ | refine run_nil ?_ | refine sd ?_ | refine sdl ?_ | refine sdm (n := 1) ?_ | refine sdm ?_ | refine sdb ?_ | refine Jk ?_ | refine Jl ?_ | refine Jm ?_ | refine Jn ?_ ?_ | refine Jo ?_ ?_ | refine Jp ?_ ?_ | refine rund_nil ?_ | refine Jz ?_ | refine Jw ?_ | refine Jx (id := 1) [0,1,0,4,0,16,63,127,255,511,1023,2047,4095,8191,16383,32767,65535,131071,262143,524287,1048575,2097151,4194303,8388607,16777215,33554431,67108863,134217727,33554431,301989887,33554431,1107296255,4060086271,8589934591,17179869183] 35 ?_ | refine aw_block ?_ | refine Jq ?_ | refine Jr ?_ | refine Js ?_ | refine Jt ?_ | refine Ju ?_ ?_ | refine Jv ?_ ?_ | refine Jy ?_ | refine aw_exit ?_ | refine aw_ret ?_ | refine pp_ret ?_ | refine pp_normal ?_
        all_goals first
          | rfl
          | (exfalso; omega)
          | (exfalso; simp only [Bool.not_eq_true', Bool.not_eq_false', decide_eq_true_eq, decide_eq_false_iff_not, Bool.not_false, Bool.not_true] at *; omega)
          | (exfalso; simp_all; first | done | omega)
      · refine acalls_law Try.func79 rfl rfl rfl ?_
        repeat' first | intro h1 | refine st (h := ok_not_dec2 rfl) ?_ | refine sd (h := ok_not_dec2 rfl) ?_ | refine st ?_ | refine st_call (H1) ?_ | refine st_call (H2) ?_ | refine sd_call (H1) ?_ | refine sd_call (H2) ?_ | refine stm ?_ | refine Ja ?_ | refine Jb ?_ | refine Jc ?_ | refine Jd ?_ | refine Je ?_ | refine Jf ?_ | refine Jg ?_ | refine Jh ?_ ?_ | refine Ji ?_ ?_ | refine Jj ?_ ?_ | refine run_nil ?_ | refine sd ?_ | refine sdl ?_ | refine sdm (n := 1) ?_ | refine sdm ?_ | refine sdb ?_ | refine Jk ?_ | refine Jl ?_ | refine Jm ?_ | refine Jn ?_ ?_ | refine Jo ?_ ?_ | refine Jp ?_ ?_ | refine rund_nil ?_ | refine Jz ?_ | refine Jw ?_ | refine Jx (id := 1) [0,1,0,4,0,16,63,127,255,511,1023,2047,4095,8191,16383,32767,65535,131071,262143,524287,1048575,2097151,4194303,8388607,16777215,33554431,67108863,134217727,33554431,301989887,33554431,1107296255,4060086271,8589934591,17179869183] 35 ?_ | refine aw_block ?_ | refine Jq ?_ | refine Jr ?_ | refine Js ?_ | refine Jt ?_ | refine Ju ?_ ?_ | refine Jv ?_ ?_ | refine Jy ?_ | refine aw_exit ?_ | refine aw_ret ?_ | refine pp_ret ?_ | refine pp_normal ?_
        all_goals try (exfalso; omega)
        clear H1 H2
        refine aw_loopg
          (S := fun y : Og => [(1, .pointer (some ⟨1, 0, none⟩)), (3, .int .i64 y.i)])
          (B := fun _ : Og => [some ⟨List.map Value.string L, false, 1⟩, some ⟨[.int .i64 v, .int .i64 sz, .int .i64 pg, .int .i64 pk, .slice (some ⟨0, 0, none⟩) n n], true, 1⟩])
          (R := fun y : Og => y.i ≤ n ∧ ∀ (j : Nat), j < y.i → ∀ q, L[j]? = some q → (fun s : ByteArray => decide (s.size ≠ 32)) q = false)
          (μ := fun y : Og => n - y.i) ⟨0⟩ (fitsD [0, 1]) ⟨Nat.zero_le _, fun j hj => absurd hj (Nat.not_lt_zero _)⟩ ?_
        rintro ⟨i⟩ ⟨g1, g2⟩
        dsimp only at *
        by_cases hi : i < n
        · obtain ⟨q, hq⟩ : ∃ q, L[i]? = some q := ⟨_, List.getElem?_eq_getElem (by omega)⟩
          by_cases heq : q.size ≠ 32
          · obtain rfl : x = 1 := by
              rw [← hx]
              exact if_pos (.inr (.inr (.inr (.inr (.inr (fidx_ne (q := (fun s : ByteArray => decide (s.size ≠ 32))) hq (decide_eq_true heq)))))))
            repeat' first | intro h1 | refine st (h := ok_not_dec2 rfl) ?_ | refine sd (h := ok_not_dec2 rfl) ?_ | refine st (h := ok_load_mapE (f := Value.string) i hq rfl rfl rfl (by omega)) ?_ | refine st ?_ | refine stm ?_ | refine Ja ?_ | refine Jb ?_ | refine Jc ?_ | refine Jd ?_ | refine Je ?_ | refine Jf ?_ | refine Jg ?_ | refine Jh ?_ ?_ | refine Ji ?_ ?_ | refine Jj ?_ ?_ | refine run_nil ?_ | refine sd ?_ | refine sdl ?_ | refine sdm (n := 1) ?_ | refine sdm ?_ | refine sdb ?_ | refine Jk ?_ | refine Jl ?_ | refine Jm ?_ | refine Jn ?_ ?_ | refine Jo ?_ ?_ | refine Jp ?_ ?_ | refine rund_nil ?_ | refine Jz ?_ | refine Jw ?_ | refine Jx (id := 1) [0,1,0,4,0,16,63,127,255,511,1023,2047,4095,8191,16383,32767,65535,131071,262143,524287,1048575,2097151,4194303,8388607,16777215,33554431,67108863,134217727,33554431,301989887,33554431,1107296255,4060086271,8589934591,17179869183] 35 ?_ | refine aw_block ?_ | refine Jq ?_ | refine Jr ?_ | refine Js ?_ | refine Jt ?_ | refine Ju ?_ ?_ | refine Jv ?_ ?_ | refine Jy ?_ | refine aw_exit ?_ | refine aw_ret ?_ | refine pp_ret ?_ | refine pp_normal ?_
            all_goals first
              | rfl
              | (exfalso; omega)
              | (exfalso; simp only [Bool.not_eq_true', Bool.not_eq_false', decide_eq_true_eq, decide_eq_false_iff_not, Bool.not_false, Bool.not_true] at *; omega)
              | (exfalso; simp_all; first | done | omega)
          · have hst := no_step (q := (fun s : ByteArray => decide (s.size ≠ 32))) g2 hq (decide_eq_false heq)
            repeat' first | intro h1 | refine st (h := ok_not_dec2 rfl) ?_ | refine sd (h := ok_not_dec2 rfl) ?_ | refine st (h := ok_load_mapE (f := Value.string) i hq rfl rfl rfl (by omega)) ?_ | refine st ?_ | refine stm ?_ | refine Ja ?_ | refine Jb ?_ | refine Jc ?_ | refine Jd ?_ | refine Je ?_ | refine Jf ?_ | refine Jg ?_ | refine Jh ?_ ?_ | refine Ji ?_ ?_ | refine Jj ?_ ?_ | refine run_nil ?_ | refine sd ?_ | refine sdl ?_ | refine sdm (n := 1) ?_ | refine sdm ?_ | refine sdb ?_ | refine Jk ?_ | refine Jl ?_ | refine Jm ?_ | refine Jn ?_ ?_ | refine Jo ?_ ?_ | refine Jp ?_ ?_ | refine rund_nil ?_ | refine Jz ?_ | refine Jw ?_ | refine Jx (id := 1) [0,1,0,4,0,16,63,127,255,511,1023,2047,4095,8191,16383,32767,65535,131071,262143,524287,1048575,2097151,4194303,8388607,16777215,33554431,67108863,134217727,33554431,301989887,33554431,1107296255,4060086271,8589934591,17179869183] 35 ?_ | refine aw_block ?_ | refine Jq ?_ | refine Jr ?_ | refine Js ?_ | refine Jt ?_ | refine Ju ?_ ?_ | refine Jv ?_ ?_ | refine Jy ?_ | refine aw_exit ?_ | refine aw_ret ?_ | refine pp_ret ?_ | refine pp_normal ?_
            all_goals first | exact Exists.intro ⟨i + 1⟩ ⟨fitsD [0, 1], ⟨hi, hst⟩, by dsimp only; omega⟩ | (exfalso; omega)
        · obtain rfl : i = n := by omega
          obtain rfl : x = 0 := by
            rw [← hx]
            refine if_neg ?_
            rintro (h | h | h | h | h | h)
            · cases h
            · omega
            · omega
            · omega
            · omega
            · exact h (fidx_no (by rw [hn]; exact g2))
          repeat' first | intro h1 | refine st (h := ok_not_dec2 rfl) ?_ | refine sd (h := ok_not_dec2 rfl) ?_ | refine st (h := ok_load_mapE (f := Value.string) i hq rfl rfl rfl (by omega)) ?_ | refine st ?_ | refine stm ?_ | refine Ja ?_ | refine Jb ?_ | refine Jc ?_ | refine Jd ?_ | refine Je ?_ | refine Jf ?_ | refine Jg ?_ | refine Jh ?_ ?_ | refine Ji ?_ ?_ | refine Jj ?_ ?_ | refine run_nil ?_ | refine sd ?_ | refine sdl ?_ | refine sdm (n := 1) ?_ | refine sdm ?_ | refine sdb ?_ | refine Jk ?_ | refine Jl ?_ | refine Jm ?_ | refine Jn ?_ ?_ | refine Jo ?_ ?_ | refine Jp ?_ ?_ | refine rund_nil ?_ | refine Jz ?_ | refine Jw ?_ | refine Jx (id := 1) [0,1,0,4,0,16,63,127,255,511,1023,2047,4095,8191,16383,32767,65535,131071,262143,524287,1048575,2097151,4194303,8388607,16777215,33554431,67108863,134217727,33554431,301989887,33554431,1107296255,4060086271,8589934591,17179869183] 35 ?_ | refine aw_block ?_ | refine Jq ?_ | refine Jr ?_ | refine Js ?_ | refine Jt ?_ | refine Ju ?_ ?_ | refine Jv ?_ ?_ | refine Jy ?_ | refine aw_exit ?_ | refine aw_ret ?_ | refine pp_ret ?_ | refine pp_normal ?_
          all_goals first
            | rfl
            | (exfalso; omega)
            | (exfalso; simp only [Bool.not_eq_true', Bool.not_eq_false', decide_eq_true_eq, decide_eq_false_iff_not, Bool.not_false, Bool.not_true] at *; omega)
            | (exfalso; simp_all; first | done | omega)
end Go.Proofs.Ytekkdoaakilafaa
