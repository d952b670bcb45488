/- Image: few, the same. Image: manifests checked by the reference. Image: lengths, packets, spans. -/
import Derived.Test.YtjofcjogbopkjaaGreatVL
import Derived.Test.YtjofcjogbopkjaaGreatS2
import Derived.Test.YtjofcjogbopkjaaGreatNB
set_option linter.unusedVariables false
set_option linter.unusedSimpArgs false
namespace Go.Proofs.YtjofcjogbopkjaaGreat
open Go Av
set_option maxRecDepth 20000
/-- A manifest has at most 70 digests of at most 100 bytes. -/
def fewM (L : List ByteArray) : Bool := decide (L.length ≤ 70 ∧ fidx (fun s : ByteArray => decide (100 < s.size)) L = -1)
theorem fidx_ne {α : Type} {q : α → Bool} {l : List α} {i : Nat} {x : α} (h : l[i]? = some x) (hq : q x = true) : fidx q l ≠ -1 := by
  have : 0 ≤ fidx q l := fidx_pos.2 ⟨x, List.mem_of_getElem? h, hq⟩
  omega
theorem all_of {α : Type} {q : α → Bool} {l : List α} (h : fidx q l = -1) : ∀ x ∈ l, q x = false := fun x hx => by
  cases hq : q x with
  | false => rfl
  | true =>
    have : 0 ≤ fidx q l := fidx_pos.2 ⟨x, hx, hq⟩
    omega
theorem fewM_spec {L : List ByteArray} (h : fewM L = true) : L.length ≤ 70 ∧ ∀ s ∈ L, s.size ≤ 100 := by
  have h := of_decide_eq_true h
  exact ⟨h.1, fun s hs => by have := all_of h.2 s hs; simpa using this⟩
set_option maxHeartbeats 2000000 in
theorem ac_few (v sz pg pk : Int) (L : List ByteArray) (n : Nat) (hn : L.length = n) (hb : n ≤ 9000000000000000000) (x : Bool) (hx : fewM L = x) : ACalls Tryz.prog 25 [.agg #[.int .i64 v, .int .i64 sz, .int .i64 pg, .int .i64 pk, .slice (some ⟨0, 0, none⟩) n n]] [some ⟨List.map Value.string L, false, 1⟩] (.bool x) [none] := by
  unfold fewM at hx
  rw [hn] at hx
  refine acalls_law Tryz.func25 rfl rfl rfl ?_
  repeat' first | intro h1 | refine st ?_ | refine stm ?_ | refine run_nil ?_ | refine Jz ?_ | refine Jw ?_ | refine aw_block ?_ | refine Ju ?_ ?_ | refine Jy ?_ | refine aw_ret ?_ | refine pp_ret ?_
  case refine_1 =>
    obtain rfl : x = false := by rw [← hx]; exact decide_eq_false (by omega)
    rfl
  refine aw_loopg
    (S := fun y : Og => [(1, .pointer (some ⟨1, 0, none⟩)), (3, .int .i64 y.i)])
    (B := fun _ : Og => [some ⟨List.map Value.string L, false, 1⟩, some ⟨[.int .i64 v, .int .i64 sz, .int .i64 pg, .int .i64 pk, .slice (some ⟨0, 0, none⟩) n n], true, 1⟩])
    (R := fun y : Og => y.i ≤ n ∧ ∀ (j : Nat), j < y.i → ∀ q, L[j]? = some q → (fun s : ByteArray => decide (100 < s.size)) q = false)
    (μ := fun y : Og => n - y.i) ⟨0⟩ (fitsD [0, 1]) ⟨Nat.zero_le _, fun j hj => absurd hj (Nat.not_lt_zero _)⟩ ?_
  rintro ⟨i⟩ ⟨g1, g2⟩
  dsimp only at *
  by_cases hi : i < n
  · obtain ⟨q, hq⟩ : ∃ q, L[i]? = some q := ⟨_, List.getElem?_eq_getElem (by omega)⟩
    by_cases heq : 100 < q.size
    · obtain rfl : x = false := by rw [← hx]; exact decide_eq_false fun h => fidx_ne (q := fun s : ByteArray => decide (100 < s.size)) hq (decide_eq_true heq) h.2
      repeat' first | refine st (h := ok_load_mapE (f := Value.string) i hq rfl rfl rfl (by omega)) ?_ | refine st ?_ | refine run_nil ?_ | refine Jz ?_ | refine Jw ?_ | refine aw_block ?_ | refine Js ?_ | refine Jy ?_ | refine aw_ret ?_ | refine pp_ret ?_
      all_goals first
        | rfl
        | (exfalso; omega)
        | (exfalso; simp only [Bool.not_eq_true', Bool.not_eq_false', decide_eq_true_eq, decide_eq_false_iff_not, Bool.not_false, Bool.not_true] at *; omega)
        | (exfalso; simp_all; first | done | omega)
    · have hst := no_step (q := fun s : ByteArray => decide (100 < s.size)) g2 hq (decide_eq_false heq)
      repeat' first | refine st (h := ok_load_mapE (f := Value.string) i hq rfl rfl rfl (by omega)) ?_ | refine st ?_ | refine run_nil ?_ | refine Jz ?_ | refine Jw ?_ | refine aw_block ?_ | refine Js ?_ | refine Jt ?_ | refine Jy ?_
      all_goals first | exact Exists.intro ⟨i + 1⟩ ⟨fitsD [0, 1], ⟨hi, hst⟩, by dsimp only; omega⟩
  · obtain rfl : i = n := by omega
    obtain rfl : x = true := by rw [← hx]; exact decide_eq_true ⟨by omega, fidx_no (by rw [hn]; exact g2)⟩
    repeat' first | refine st ?_ | refine run_nil ?_ | refine Jz ?_ | refine Jw ?_ | refine Jt ?_ | refine aw_exit ?_ | refine aw_ret ?_ | refine pp_ret ?_
    all_goals first
      | rfl
      | (exfalso; omega)
      | (exfalso; simp only [Bool.not_eq_true', Bool.not_eq_false', decide_eq_true_eq, decide_eq_false_iff_not, Bool.not_false, Bool.not_true] at *; omega)
      | (exfalso; simp_all; first | done | omega)
theorem eq_of_allS {L L' : List ByteArray} (hl : L.length = L'.length) (h : ∀ (j : Nat), j < L.length → L[j]? = L'[j]?) : L = L' := by
  apply List.ext_getElem? fun i => ?_
  rcases Nat.lt_or_ge i L.length with h1 | h1
  · exact h i h1
  · rw [List.getElem?_eq_none h1, List.getElem?_eq_none (by omega)]
set_option maxHeartbeats 8000000 in
theorem ac_same (v sz pg pk v' sz' pg' pk' : Int) (L L' : List ByteArray) (n n' : Nat) (hn : L.length = n) (hn' : L'.length = n') (hb : n ≤ 9000000000000000000) (hb' : n' ≤ 9000000000000000000) (x : Bool) (hx : decide (v = v' ∧ sz = sz' ∧ pg = pg' ∧ pk = pk' ∧ L = L') = x) : ACalls Tryz.prog 41 [.agg #[.int .i64 v, .int .i64 sz, .int .i64 pg, .int .i64 pk, .slice (some ⟨0, 0, none⟩) n n], .agg #[.int .i64 v', .int .i64 sz', .int .i64 pg', .int .i64 pk', .slice (some ⟨1, 0, none⟩) n' n']] [some ⟨List.map Value.string L, false, 1⟩, some ⟨List.map Value.string L', false, 1⟩] (.bool x) [none, none] := by
  by_cases h1 : v = v' ∧ sz = sz' ∧ pg = pg' ∧ pk = pk' ∧ n = n'
  · obtain ⟨rfl, rfl, rfl, rfl, rfl⟩ := h1
    refine acalls_law Tryz.func41 rfl rfl rfl ?_
    repeat' first | refine st ?_ | refine stm ?_ | refine Ja ?_ | refine Jf ?_ | refine run_nil ?_ | refine Jz ?_ | refine Jw ?_ | refine aw_block ?_ | refine Jt ?_ | refine Jy ?_
    refine aw_loopg
      (S := fun y : Og => [(2, .pointer (some ⟨2, 0, none⟩)), (3, .pointer (some ⟨3, 0, none⟩)), (5, .int .i64 y.i)])
      (B := fun _ : Og => [some ⟨List.map Value.string L, false, 1⟩, some ⟨List.map Value.string L', false, 1⟩, some ⟨[.int .i64 v, .int .i64 sz, .int .i64 pg, .int .i64 pk, .slice (some ⟨0, 0, none⟩) n n], true, 1⟩, some ⟨[.int .i64 v, .int .i64 sz, .int .i64 pg, .int .i64 pk, .slice (some ⟨1, 0, none⟩) n n], true, 1⟩])
      (R := fun y : Og => y.i ≤ n ∧ ∀ (j : Nat), j < y.i → L[j]? = L'[j]?)
      (μ := fun y : Og => n - y.i) ⟨0⟩ (fitsD [0, 1, 2, 3]) ⟨Nat.zero_le _, fun j hj => absurd hj (Nat.not_lt_zero _)⟩ ?_
    rintro ⟨i⟩ ⟨g1, g2⟩
    dsimp only at *
    by_cases hi : i < n
    · obtain ⟨q, hq⟩ : ∃ q, L[i]? = some q := ⟨_, List.getElem?_eq_getElem (by omega)⟩
      obtain ⟨p, hp⟩ : ∃ q, L'[i]? = some q := ⟨_, List.getElem?_eq_getElem (by omega)⟩
      by_cases heq : q = p
      · subst heq
        have hst : ∀ (j : Nat), j < i + 1 → L[j]? = L'[j]? := fun j hj => by
          rcases Nat.lt_or_ge j i with h1 | h1
          · exact g2 j h1
          · obtain rfl : j = i := by omega
            rw [hq, hp]
        repeat' first | refine sdl (h := ok_load_mapE (f := Value.string) i hq rfl rfl rfl (by omega)) ?_ | refine sdl (h := ok_load_mapE (f := Value.string) i hp rfl rfl rfl (by omega)) ?_ | refine sd (h := ok_str_neqF rfl rfl) ?_ | refine st ?_ | refine run_nil ?_ | refine sd ?_ | refine sdl ?_ | refine rund_nil ?_ | refine Jz ?_ | refine Jw ?_ | refine Jx (id := 6) [0,1,0,7,15,0,32,0,224,480,1023] 11 ?_ | refine aw_block ?_ | refine Jr ?_ | refine Js ?_ | refine Jy ?_
        all_goals first | exact Exists.intro ⟨i + 1⟩ ⟨fitsD [0, 1, 2, 3], ⟨hi, hst⟩, by dsimp only; omega⟩
      · obtain rfl : x = false := by
          rw [← hx]
          refine decide_eq_false fun h => heq ?_
          rw [h.2.2.2.2, hp] at hq
          exact (Option.some.inj hq).symm
        repeat' first | refine sdl (h := ok_load_mapE (f := Value.string) i hq rfl rfl rfl (by omega)) ?_ | refine sdl (h := ok_load_mapE (f := Value.string) i hp rfl rfl rfl (by omega)) ?_ | refine sd (h := ok_str_neq rfl rfl) ?_ | refine st ?_ | refine run_nil ?_ | refine sd ?_ | refine sdl ?_ | refine rund_nil ?_ | refine Jz ?_ | refine Jw ?_ | refine Jx (id := 6) [0,1,0,7,15,0,32,0,224,480,1023] 11 ?_ | refine aw_block ?_ | refine Js ?_ | refine Jy ?_ | refine aw_ret ?_ | refine pp_ret ?_
        all_goals first
          | rfl
          | (exfalso; omega)
          | (exfalso; simp only [Bool.not_eq_true', Bool.not_eq_false', decide_eq_true_eq, decide_eq_false_iff_not, Bool.not_false, Bool.not_true] at *; omega)
          | (exfalso; simp_all; first | done | omega)
    · obtain rfl : n = i := by omega
      obtain rfl : x = true := by
        rw [← hx]
        exact decide_eq_true ⟨rfl, rfl, rfl, rfl, eq_of_allS (by omega) (by rw [hn]; exact g2)⟩
      repeat' first | refine st ?_ | refine run_nil ?_ | refine Jz ?_ | refine Jw ?_ | refine Jt ?_ | refine aw_exit ?_ | refine aw_ret ?_ | refine pp_ret ?_
      all_goals first
        | rfl
        | (exfalso; omega)
        | (exfalso; simp only [Bool.not_eq_true', Bool.not_eq_false', decide_eq_true_eq, decide_eq_false_iff_not, Bool.not_false, Bool.not_true] at *; omega)
        | (exfalso; simp_all; first | done | omega)
  · obtain rfl : x = false := by
      rw [← hx]
      exact decide_eq_false fun h => h1 ⟨h.1, h.2.1, h.2.2.1, h.2.2.2.1, by rw [← hn, ← hn', h.2.2.2.2]⟩
    refine acalls_law Tryz.func41 rfl rfl rfl ?_
    repeat' first | intro h1 | refine st ?_ | refine stm ?_ | refine Ja ?_ | refine Jb ?_ | refine Ji ?_ ?_ | refine run_nil ?_ | refine Jz ?_ | refine Jw ?_ | refine Jq ?_ | refine Js ?_ | refine aw_ret ?_ | refine pp_ret ?_
    all_goals first
      | rfl
      | (exfalso; omega)
      | (exfalso; simp only [Bool.not_eq_true', Bool.not_eq_false', decide_eq_true_eq, decide_eq_false_iff_not, Bool.not_false, Bool.not_true] at *; omega)
      | (exfalso; simp_all; first | done | omega)
end Go.Proofs.YtjofcjogbopkjaaGreat
namespace Go.Proofs.YtjofcjogbopkjaaGreat
open Go Av
set_option maxRecDepth 20000
set_option maxHeartbeats 8000000 in
theorem ac_rmcheck (v sz pg pk : Int) (L : List ByteArray) (n : Nat) (hn : L.length = n) (hb : n ≤ 9000000000000000000) (x : Int) (hx : chkM v sz pg pk L = x) : ACalls Tryz.prog 67 [.agg #[.int .i64 v, .int .i64 sz, .int .i64 pg, .int .i64 pk, .slice (some ⟨0, 0, none⟩) n n]] [some ⟨List.map Value.string L, false, 1⟩] (.int .i64 x) [none] := by
  unfold chkM at hx
  rw [hn] at hx
  obtain ⟨y, hy⟩ : ∃ y, sizB v pg pk = y := ⟨_, rfl⟩
  obtain ⟨c, hc⟩ : ∃ c, (sz + pg - 1) / pg = c := ⟨_, rfl⟩
  have H1 := ac_rsizes v pg pk
  rw [hy] at H1 hx
  rw [hc] at hx
  cases y
  · obtain rfl : x = 1 := by rw [← hx]; exact if_pos (.inl rfl)
    clear hx
    refine acalls_law Tryz.func67 rfl rfl rfl ?_
    repeat' first | refine st ?_ | refine sd_call (H1) ?_ | refine stm ?_ | refine run_nil ?_ | refine sd ?_ | refine sdl ?_ | refine Jl ?_ | refine rund_nil ?_ | refine Jz ?_ | refine Jw ?_ | refine Jx (id := 1) [0,1,0,4,0,16,63,127,255,511,1023,2047,4095,8191,16383,32767,65535,131071,262143,524287,1048575,2097151,4194303,8388607,16777215,33554431,67108863,134217727,33554431,301989887,33554431,1107296255,4060086271,8589934591,17179869183] 35 ?_ | refine Jq ?_ | refine aw_ret ?_ | refine pp_ret ?_
    all_goals first
      | rfl
      | (exfalso; omega)
      | (exfalso; simp only [Bool.not_eq_true', Bool.not_eq_false', decide_eq_true_eq, decide_eq_false_iff_not, Bool.not_false, Bool.not_true] at *; omega)
      | (exfalso; simp_all; first | done | omega)
  · have hbd := siz_bd hy
    by_cases h1 : sz < 1 ∨ 65536 < sz
    · obtain rfl : x = 1 := by
        rw [← hx]
        refine if_pos ?_
        rcases h1 with h | h
        · exact .inr (.inl h)
        · exact .inr (.inr (.inl h))
      clear hx
      refine acalls_law Tryz.func67 rfl rfl rfl ?_
      repeat' first | intro h1 | refine st ?_ | refine sd_call (H1) ?_ | refine stm ?_ | refine run_nil ?_ | refine sd ?_ | refine sdl ?_ | refine Jk ?_ | refine Jl ?_ | refine Jo ?_ ?_ | refine rund_nil ?_ | refine Jz ?_ | refine Jw ?_ | refine Jx (id := 1) [0,1,0,4,0,16,63,127,255,511,1023,2047,4095,8191,16383,32767,65535,131071,262143,524287,1048575,2097151,4194303,8388607,16777215,33554431,67108863,134217727,33554431,301989887,33554431,1107296255,4060086271,8589934591,17179869183] 35 ?_ | refine Jq ?_ | refine aw_ret ?_ | refine pp_ret ?_
      all_goals first
        | rfl
        | (exfalso; omega)
        | (exfalso; simp only [Bool.not_eq_true', Bool.not_eq_false', decide_eq_true_eq, decide_eq_false_iff_not, Bool.not_false, Bool.not_true] at *; omega)
        | (exfalso; simp_all; first | done | omega)
    · have H2 := ac_parts sz pg c (by omega) (by omega) hc
      by_cases h2 : 64 < n ∨ (n : Int) ≠ c
      · obtain rfl : x = 1 := by
          rw [← hx]
          refine if_pos ?_
          rcases h2 with h | h
          · exact .inr (.inr (.inr (.inl h)))
          · exact .inr (.inr (.inr (.inr (.inl h))))
        clear hx
        refine acalls_law Tryz.func67 rfl rfl rfl ?_
        repeat' first | intro h1 | refine st ?_ | refine sd_call (H1) ?_ | refine sd_call (H2) ?_ | refine stm ?_ | refine run_nil ?_ | refine sd ?_ | refine sdl ?_ | refine Jk ?_ | refine Jl ?_ | refine Jo ?_ ?_ | refine rund_nil ?_ | refine Jz ?_ | refine Jw ?_ | refine Jx (id := 1) [0,1,0,4,0,16,63,127,255,511,1023,2047,4095,8191,16383,32767,65535,131071,262143,524287,1048575,2097151,4194303,8388607,16777215,33554431,67108863,134217727,33554431,301989887,33554431,1107296255,4060086271,8589934591,17179869183] 35 ?_ | refine Jq ?_ | refine Js ?_ | refine aw_ret ?_ | refine pp_ret ?_
        all_goals first
          | rfl
          | (exfalso; omega)
          | (exfalso; simp only [Bool.not_eq_true', Bool.not_eq_false', decide_eq_true_eq, decide_eq_false_iff_not, Bool.not_false, Bool.not_true] at *; omega)
          | (exfalso; simp_all; first | done | omega)
      · refine acalls_law Tryz.func67 rfl rfl rfl ?_
        repeat' first | intro h1 | refine st ?_ | refine sd_call (H1) ?_ | refine sd_call (H2) ?_ | refine stm ?_ | refine run_nil ?_ | refine sd ?_ | refine sdl ?_ | refine Jk ?_ | refine Jl ?_ | refine Jo ?_ ?_ | refine rund_nil ?_ | refine Jz ?_ | refine Jw ?_ | refine Jx (id := 1) [0,1,0,4,0,16,63,127,255,511,1023,2047,4095,8191,16383,32767,65535,131071,262143,524287,1048575,2097151,4194303,8388607,16777215,33554431,67108863,134217727,33554431,301989887,33554431,1107296255,4060086271,8589934591,17179869183] 35 ?_ | refine aw_block ?_ | refine Jq ?_ | refine Jt ?_ | refine Jy ?_ | refine aw_ret ?_ | refine pp_ret ?_
        all_goals try (exfalso; omega)
        clear H1 H2
        refine aw_loopg
          (S := fun y : Og => [(1, .pointer (some ⟨1, 0, none⟩)), (3, .int .i64 y.i)])
          (B := fun _ : Og => [some ⟨List.map Value.string L, false, 1⟩, some ⟨[.int .i64 v, .int .i64 sz, .int .i64 pg, .int .i64 pk, .slice (some ⟨0, 0, none⟩) n n], true, 1⟩])
          (R := fun y : Og => y.i ≤ n ∧ ∀ (j : Nat), j < y.i → ∀ q, L[j]? = some q → (fun s : ByteArray => decide (s.size ≠ 32)) q = false)
          (μ := fun y : Og => n - y.i) ⟨0⟩ (fitsD [0, 1]) ⟨Nat.zero_le _, fun j hj => absurd hj (Nat.not_lt_zero _)⟩ ?_
        rintro ⟨i⟩ ⟨g1, g2⟩
        dsimp only at *
        by_cases hi : i < n
        · obtain ⟨q, hq⟩ : ∃ q, L[i]? = some q := ⟨_, List.getElem?_eq_getElem (by omega)⟩
          by_cases heq : q.size ≠ 32
          · obtain rfl : x = 1 := by
              rw [← hx]
              exact if_pos (.inr (.inr (.inr (.inr (.inr (fidx_ne (q := (fun s : ByteArray => decide (s.size ≠ 32))) hq (decide_eq_true heq)))))))
            repeat' first | refine st (h := ok_load_mapE (f := Value.string) i hq rfl rfl rfl (by omega)) ?_ | refine st ?_ | refine run_nil ?_ | refine Jz ?_ | refine Jw ?_ | refine aw_block ?_ | refine Js ?_ | refine Jy ?_ | refine aw_ret ?_ | refine pp_ret ?_
            all_goals first
              | rfl
              | (exfalso; omega)
              | (exfalso; simp only [Bool.not_eq_true', Bool.not_eq_false', decide_eq_true_eq, decide_eq_false_iff_not, Bool.not_false, Bool.not_true] at *; omega)
              | (exfalso; simp_all; first | done | omega)
          · have hst := no_step (q := (fun s : ByteArray => decide (s.size ≠ 32))) g2 hq (decide_eq_false heq)
            repeat' first | refine st (h := ok_load_mapE (f := Value.string) i hq rfl rfl rfl (by omega)) ?_ | refine st ?_ | refine run_nil ?_ | refine Jz ?_ | refine Jw ?_ | refine aw_block ?_ | refine Js ?_ | refine Jt ?_ | refine Jy ?_
            all_goals first | exact Exists.intro ⟨i + 1⟩ ⟨fitsD [0, 1], ⟨hi, hst⟩, by dsimp only; omega⟩
        · obtain rfl : i = n := by omega
          obtain rfl : x = 0 := by
            rw [← hx]
            refine if_neg ?_
            rintro (h | h | h | h | h | h)
            · cases h
            · omega
            · omega
            · omega
            · omega
            · exact h (fidx_no (by rw [hn]; exact g2))
          repeat' first | refine st ?_ | refine run_nil ?_ | refine Jz ?_ | refine Jw ?_ | refine Jt ?_ | refine aw_exit ?_ | refine aw_ret ?_ | refine pp_ret ?_
          all_goals first
            | rfl
            | (exfalso; omega)
            | (exfalso; simp only [Bool.not_eq_true', Bool.not_eq_false', decide_eq_true_eq, decide_eq_false_iff_not, Bool.not_false, Bool.not_true] at *; omega)
            | (exfalso; simp_all; first | done | omega)
end Go.Proofs.YtjofcjogbopkjaaGreat
namespace Go.Proofs.YtjofcjogbopkjaaGreat
open Go Av
set_option maxRecDepth 20000
/-- What a right manifest is. -/
theorem chk_ok {v sz pg pk : Int} {L : List ByteArray} (h : chkM v sz pg pk L = 0) : sizB v pg pk = true ∧ (1 ≤ sz ∧ sz ≤ 65536) ∧ L.length ≤ 64 ∧ (L.length : Int) = (sz + pg - 1) / pg ∧ ∀ s ∈ L, s.size = 32 := by
  unfold chkM at h
  split at h
  · omega
  · rename_i hn
    simp only [not_or, Bool.not_eq_false] at hn
    obtain ⟨h1, h2, h3, h4, h5, h6⟩ := hn
    exact ⟨h1, by omega, by omega, by omega, fun s hs => by have := all_of (Decidable.not_not.1 h6) s hs; simpa using this⟩
theorem chk_01 (v sz pg pk : Int) (L : List ByteArray) : chkM v sz pg pk L = 0 ∨ chkM v sz pg pk L = 1 := by
  unfold chkM
  split
  · exact .inr rfl
  · exact .inl rfl
theorem parts_lt {sz pg i : Int} (h : 1 ≤ pg) : i < (sz + pg - 1) / pg ↔ i * pg < sz := by
  have h1 : i < (sz + pg - 1) / pg ↔ i + 1 ≤ (sz + pg - 1) / pg := by omega
  rw [h1, Int.le_ediv_iff_mul_le (by omega), Int.add_mul, Int.one_mul]
  omega
/-- A page's length. -/
def lenM (sz pg i : Int) : Int := min pg (sz - i * pg)
/-- The error of a page. -/
def pgE (c : Int) (n : Nat) (i : Int) : Int := if c ≠ 0 then 1 else if i < 0 ∨ (n : Int) ≤ i then 2 else 0
/-- What Packets returns. -/
def pkM (sz pg pk i e : Int) : Int := if e ≠ 0 then 0 else (lenM sz pg i + pk - 1) / pk
/-- What Span returns. -/
def spE (e n p : Int) : Int := if e ≠ 0 then e else if p < 0 ∨ n ≤ p then 2 else 0
def spF (pg pk i p e : Int) : Int := if e ≠ 0 then 0 else i * pg + p * pk
def spT (sz pg pk i p e : Int) : Int := if e ≠ 0 then 0 else min (i * pg + p * pk + pk) (i * pg + lenM sz pg i)
/-- A page of a right manifest. -/
theorem page_bd {v sz pg pk i : Int} {L : List ByteArray} (h : chkM v sz pg pk L = 0) (h0 : 0 ≤ i) (hi : i < L.length) : 0 ≤ i * pg ∧ i * pg < sz ∧ 1 ≤ lenM sz pg i ∧ lenM sz pg i ≤ pg ∧ lenM sz pg i ≤ sz - i * pg := by
  obtain ⟨h1, h2, h3, h4, h5⟩ := chk_ok h
  have hb := siz_bd h1
  have h6 : i * pg < sz := (parts_lt (by omega)).1 (by omega)
  have h7 : 0 ≤ i * pg := Int.mul_nonneg h0 (by omega)
  unfold lenM
  omega
theorem ac_size (v sz pg pk i : Int) (n : Nat) (L : List ByteArray) (hs : 0 ≤ sz ∧ sz ≤ 1000000) (hp : 0 ≤ pg ∧ pg ≤ 1000000) (hi : 0 ≤ i * pg ∧ i * pg ≤ 1000000) (x : Int) (hx : lenM sz pg i = x) : ACalls Tryz.prog 77 [.agg #[.int .i64 v, .int .i64 sz, .int .i64 pg, .int .i64 pk, .slice (some ⟨0, 0, none⟩) n n], .int .i64 i] [some ⟨List.map Value.string L, false, 1⟩] (.int .i64 x) [none] := by
  unfold lenM at hx
  obtain ⟨ip, hip⟩ : ∃ ip, i * pg = ip := ⟨_, rfl⟩
  rw [hip] at hx
  refine acalls_law Tryz.func77 rfl rfl rfl ?_
  repeat' first | refine st (v := .int .i64 ip) (h := by (rw [← hip]; apply ok_mul64; rfl; rfl; omega)) ?_ | refine st ?_ | refine stm ?_ | refine run_nil ?_ | refine Jz ?_ | refine Jw ?_ | refine aw_ret ?_ | refine pp_ret ?_
  all_goals first
    | rfl
    | (rw [← hx]; rfl)
    | (rw [← hx]; congr 1; omega)
    | (exfalso; omega)
    | (exfalso; simp only [Bool.not_eq_true', Bool.not_eq_false', decide_eq_true_eq, decide_eq_false_iff_not, Bool.not_false, Bool.not_true] at *; omega)
    | (exfalso; simp_all; first | done | omega)
theorem ac_length (v sz pg pk i : Int) (n : Nat) (L : List ByteArray) (hs : 0 ≤ sz ∧ sz ≤ 1000000) (hp : 0 ≤ pg ∧ pg ≤ 1000000) (hi : 0 ≤ i * pg ∧ i * pg ≤ 1000000) (x : Int) (hx : lenM sz pg i = x) : ACalls Tryz.prog 72 [.agg #[.int .i64 v, .int .i64 sz, .int .i64 pg, .int .i64 pk, .slice (some ⟨0, 0, none⟩) n n], .int .i64 i] [some ⟨List.map Value.string L, false, 1⟩] (.int .i64 x) [none] := by
  unfold lenM at hx
  obtain ⟨ip, hip⟩ : ∃ ip, i * pg = ip := ⟨_, rfl⟩
  rw [hip] at hx
  refine acalls_law Tryz.func72 rfl rfl rfl ?_
  repeat' first | refine st (v := .int .i64 ip) (h := by (rw [← hip]; apply ok_mul64; rfl; rfl; omega)) ?_ | refine st ?_ | refine stm ?_ | refine run_nil ?_ | refine Jz ?_ | refine Jw ?_ | refine aw_ret ?_ | refine pp_ret ?_
  all_goals first
    | rfl
    | (rw [← hx]; rfl)
    | (rw [← hx]; congr 1; omega)
    | (exfalso; omega)
    | (exfalso; simp only [Bool.not_eq_true', Bool.not_eq_false', decide_eq_true_eq, decide_eq_false_iff_not, Bool.not_false, Bool.not_true] at *; omega)
    | (exfalso; simp_all; first | done | omega)
set_option maxHeartbeats 2000000 in
theorem ac_page (v sz pg pk i : Int) (L : List ByteArray) (n : Nat) (hn : L.length = n) (hb : n ≤ 9000000000000000000) (c : Int) (hc : chkM v sz pg pk L = c) (x : Int) (hx : pgE c n i = x) : ACalls Tryz.prog 76 [.agg #[.int .i64 v, .int .i64 sz, .int .i64 pg, .int .i64 pk, .slice (some ⟨0, 0, none⟩) n n], .int .i64 i] [some ⟨List.map Value.string L, false, 1⟩] (.int .i64 x) [none] := by
  have H1 := ac_mcheck v sz pg pk L n hn hb c hc
  unfold pgE at hx
  by_cases h1 : c ≠ 0
  · rw [if_pos h1] at hx
    subst hx
    refine acalls_law Tryz.func76 rfl rfl rfl ?_
    repeat' first | refine st ?_ | refine stRW [0] H1 ?_ | refine stm ?_ | refine run_nil ?_ | refine Jz ?_ | refine Jw ?_ | refine aw_block ?_ | refine Js ?_ | refine aw_ret ?_ | refine pp_ret ?_
    all_goals first
      | rfl
      | (exfalso; omega)
      | (exfalso; simp only [Bool.not_eq_true', Bool.not_eq_false', decide_eq_true_eq, decide_eq_false_iff_not, Bool.not_false, Bool.not_true] at *; omega)
      | (exfalso; simp_all; first | done | omega)
  · rw [if_neg h1] at hx
    obtain rfl : c = 0 := Decidable.not_not.1 h1
    by_cases h2 : i < 0 ∨ (n : Int) ≤ i
    · rw [if_pos h2] at hx
      subst hx
      refine acalls_law Tryz.func76 rfl rfl rfl ?_
      repeat' first | intro h1 | refine st ?_ | refine stRW [0] H1 ?_ | refine stm ?_ | refine Ja ?_ | refine Jb ?_ | refine Ji ?_ ?_ | refine run_nil ?_ | refine Jz ?_ | refine Jw ?_ | refine aw_block ?_ | refine Jq ?_ | refine Jr ?_ | refine Js ?_ | refine aw_ret ?_ | refine pp_ret ?_
      all_goals first
        | rfl
        | (exfalso; omega)
        | (exfalso; simp only [Bool.not_eq_true', Bool.not_eq_false', decide_eq_true_eq, decide_eq_false_iff_not, Bool.not_false, Bool.not_true] at *; omega)
        | (exfalso; simp_all; first | done | omega)
    · rw [if_neg h2] at hx
      subst hx
      refine acalls_law Tryz.func76 rfl rfl rfl ?_
      repeat' first | refine st ?_ | refine stRW [0] H1 ?_ | refine stm ?_ | refine Ja ?_ | refine Jf ?_ | refine run_nil ?_ | refine Jz ?_ | refine Jw ?_ | refine aw_block ?_ | refine Jr ?_ | refine Jt ?_ | refine Jy ?_ | refine aw_ret ?_ | refine pp_ret ?_
      all_goals first
        | rfl
        | (exfalso; omega)
        | (exfalso; simp only [Bool.not_eq_true', Bool.not_eq_false', decide_eq_true_eq, decide_eq_false_iff_not, Bool.not_false, Bool.not_true] at *; omega)
        | (exfalso; simp_all; first | done | omega)
set_option maxHeartbeats 4000000 in
theorem ac_packets (v sz pg pk i : Int) (L : List ByteArray) (n : Nat) (hn : L.length = n) (hb : n ≤ 9000000000000000000) (c : Int) (hc : chkM v sz pg pk L = c) (e : Int) (he : pgE c n i = e) (x : Int) (hx : pkM sz pg pk i e = x) : ACalls Tryz.prog 55 [.agg #[.int .i64 v, .int .i64 sz, .int .i64 pg, .int .i64 pk, .slice (some ⟨0, 0, none⟩) n n], .int .i64 i] [some ⟨List.map Value.string L, false, 1⟩] (.tuple #[.int .i64 x, .int .i64 e]) [none] := by
  have H1 := ac_page v sz pg pk i L n hn hb c hc e he
  unfold pkM at hx
  by_cases h1 : e ≠ 0
  · rw [if_pos h1] at hx
    subst hx
    skip
    all_goals refine acalls_law Tryz.func55 rfl rfl rfl ?_
    repeat' first | refine st ?_ | refine stRW [0] H1 ?_ | refine stm ?_ | refine run_nil ?_ | refine Jz ?_ | refine Jw ?_ | refine Js ?_ | refine aw_ret ?_ | refine pp_ret ?_
    all_goals first
      | rfl
      | (exfalso; omega)
      | (exfalso; simp only [Bool.not_eq_true', Bool.not_eq_false', decide_eq_true_eq, decide_eq_false_iff_not, Bool.not_false, Bool.not_true] at *; omega)
      | (exfalso; simp_all; first | done | omega)
  · rw [if_neg h1] at hx
    obtain rfl : e = 0 := Decidable.not_not.1 h1
    have h2 : c = 0 ∧ 0 ≤ i ∧ i < n := by
      unfold pgE at he
      split at he
      · omega
      · split at he
        · omega
        · omega
    obtain ⟨rfl, h3, h4⟩ := h2
    obtain ⟨k1, k2, k3, k4, k5⟩ := page_bd hc h3 (by rw [hn]; exact h4)
    obtain ⟨q1, q2, q3, q4, q5⟩ := chk_ok hc
    have q6 := siz_bd q1
    obtain ⟨l, hl⟩ : ∃ l, lenM sz pg i = l := ⟨_, rfl⟩
    rw [hl] at hx k3 k4 k5
    have H2 := ac_size v sz pg pk i n L (by omega) (by omega) (by omega) l hl
    have H3 := ac_count l pk x (by omega) (by omega) hx
    clear hx hl
    refine acalls_law Tryz.func55 rfl rfl rfl ?_
    repeat' first | refine st ?_ | refine stRW [0] H1 ?_ | refine sdRW [0] H2 ?_ | refine sd_call (H3) ?_ | refine stm ?_ | refine run_nil ?_ | refine sd ?_ | refine sdl ?_ | refine rund_nil ?_ | refine Jz ?_ | refine Jw ?_ | refine Jx (id := 4) [0,0,3,0,8,31,63,127] 8 ?_ | refine Jr ?_ | refine Jy ?_ | refine aw_ret ?_ | refine pp_ret ?_
    all_goals first
      | rfl
      | (exfalso; omega)
      | (exfalso; simp only [Bool.not_eq_true', Bool.not_eq_false', decide_eq_true_eq, decide_eq_false_iff_not, Bool.not_false, Bool.not_true] at *; omega)
      | (exfalso; simp_all; first | done | omega)
set_option maxHeartbeats 4000000 in
theorem ac_rpackets (v sz pg pk i : Int) (L : List ByteArray) (n : Nat) (hn : L.length = n) (hb : n ≤ 9000000000000000000) (c : Int) (hc : chkM v sz pg pk L = c) (e : Int) (he : pgE c n i = e) (x : Int) (hx : pkM sz pg pk i e = x) : ACalls Tryz.prog 70 [.agg #[.int .i64 v, .int .i64 sz, .int .i64 pg, .int .i64 pk, .slice (some ⟨0, 0, none⟩) n n], .int .i64 i] [some ⟨List.map Value.string L, false, 1⟩] (.tuple #[.int .i64 x, .int .i64 e]) [none] := by
  have H1 := ac_rmcheck v sz pg pk L n hn hb c hc
  unfold pkM at hx
  by_cases h1 : e ≠ 0
  · rw [if_pos h1] at hx
    subst hx
    unfold pgE at he
    split at he
    · subst he
      rename_i hcc
      refine acalls_law Tryz.func70 rfl rfl rfl ?_
      repeat' first | refine st ?_ | refine stRW [0] H1 ?_ | refine stm ?_ | refine run_nil ?_ | refine Jz ?_ | refine Jw ?_ | refine Js ?_ | refine aw_ret ?_ | refine pp_ret ?_
      all_goals first
        | rfl
        | (exfalso; omega)
        | (exfalso; simp only [Bool.not_eq_true', Bool.not_eq_false', decide_eq_true_eq, decide_eq_false_iff_not, Bool.not_false, Bool.not_true] at *; omega)
        | (exfalso; simp_all; first | done | omega)
    split at he
    rotate_left
    · omega
    rename_i hcc hii
    subst he
    obtain rfl : c = 0 := Decidable.not_not.1 hcc
    all_goals refine acalls_law Tryz.func70 rfl rfl rfl ?_
    repeat' first | intro h1 | refine st ?_ | refine stRW [0] H1 ?_ | refine stm ?_ | refine Ja ?_ | refine Jb ?_ | refine Ji ?_ ?_ | refine run_nil ?_ | refine Jz ?_ | refine Jw ?_ | refine Jq ?_ | refine Jr ?_ | refine Js ?_ | refine Jy ?_ | refine aw_ret ?_ | refine pp_ret ?_
    all_goals first
      | rfl
      | (exfalso; omega)
      | (exfalso; simp only [Bool.not_eq_true', Bool.not_eq_false', decide_eq_true_eq, decide_eq_false_iff_not, Bool.not_false, Bool.not_true] at *; omega)
      | (exfalso; simp_all; first | done | omega)
  · rw [if_neg h1] at hx
    obtain rfl : e = 0 := Decidable.not_not.1 h1
    have h2 : c = 0 ∧ 0 ≤ i ∧ i < n := by
      unfold pgE at he
      split at he
      · omega
      · split at he
        · omega
        · omega
    obtain ⟨rfl, h3, h4⟩ := h2
    obtain ⟨k1, k2, k3, k4, k5⟩ := page_bd hc h3 (by rw [hn]; exact h4)
    obtain ⟨q1, q2, q3, q4, q5⟩ := chk_ok hc
    have q6 := siz_bd q1
    obtain ⟨l, hl⟩ : ∃ l, lenM sz pg i = l := ⟨_, rfl⟩
    rw [hl] at hx k3 k4 k5
    have H2 := ac_length v sz pg pk i n L (by omega) (by omega) (by omega) l hl
    have H3 := ac_parts l pk x (by omega) (by omega) hx
    clear hx hl
    refine acalls_law Tryz.func70 rfl rfl rfl ?_
    repeat' first | refine st ?_ | refine stRW [0] H1 ?_ | refine sdRW [0] H2 ?_ | refine sd_call (H3) ?_ | refine stm ?_ | refine Ja ?_ | refine Jf ?_ | refine run_nil ?_ | refine sd ?_ | refine sdl ?_ | refine rund_nil ?_ | refine Jz ?_ | refine Jw ?_ | refine Jx (id := 5) [0,0,3,0,8,31,63,127] 8 ?_ | refine Jr ?_ | refine Jt ?_ | refine Jy ?_ | refine aw_ret ?_ | refine pp_ret ?_
    all_goals first
      | rfl
      | (exfalso; omega)
      | (exfalso; simp only [Bool.not_eq_true', Bool.not_eq_false', decide_eq_true_eq, decide_eq_false_iff_not, Bool.not_false, Bool.not_true] at *; omega)
      | (exfalso; simp_all; first | done | omega)
set_option maxHeartbeats 8000000 in
theorem ac_span (v sz pg pk i p : Int) (L : List ByteArray) (n : Nat) (hn : L.length = n) (hb : n ≤ 9000000000000000000) (c : Int) (hc : chkM v sz pg pk L = c) (e : Int) (he : pgE c n i = e) (x : Int) (hx : pkM sz pg pk i e = x) (e2 : Int) (he2 : spE e x p = e2) (fr to : Int) (hfr : spF pg pk i p e2 = fr) (hto : spT sz pg pk i p e2 = to) : ACalls Tryz.prog 56 [.agg #[.int .i64 v, .int .i64 sz, .int .i64 pg, .int .i64 pk, .slice (some ⟨0, 0, none⟩) n n], .int .i64 i, .int .i64 p] [some ⟨List.map Value.string L, false, 1⟩] (.tuple #[.int .i64 fr, .int .i64 to, .int .i64 e2]) [none] := by
  have H1 := ac_packets v sz pg pk i L n hn hb c hc e he x hx
  unfold spF at hfr
  unfold spT at hto
  by_cases h1 : e2 ≠ 0
  · rw [if_pos h1] at hfr hto
    subst hfr hto
    unfold spE at he2
    by_cases h2 : e ≠ 0
    · rw [if_pos h2] at he2
      subst he2
      clear hc he hx
      refine acalls_law Tryz.func56 rfl rfl rfl ?_
      repeat' first | refine st ?_ | refine stRW [0] H1 ?_ | refine stm ?_ | refine run_nil ?_ | refine Jz ?_ | refine Jw ?_ | refine aw_block ?_ | refine Js ?_ | refine aw_ret ?_ | refine pp_ret ?_
      all_goals first
        | rfl
        | (exfalso; omega)
        | (exfalso; simp only [Bool.not_eq_true', Bool.not_eq_false', decide_eq_true_eq, decide_eq_false_iff_not, Bool.not_false, Bool.not_true] at *; omega)
        | (exfalso; simp_all; first | done | omega)
    · rw [if_neg h2] at he2
      obtain rfl : e = 0 := Decidable.not_not.1 h2
      by_cases h3 : p < 0 ∨ x ≤ p
      · rw [if_pos h3] at he2
        subst he2
        clear hc he hx
        refine acalls_law Tryz.func56 rfl rfl rfl ?_
        repeat' first | intro h1 | refine st ?_ | refine stRW [0] H1 ?_ | refine stm ?_ | refine Ja ?_ | refine Jb ?_ | refine Ji ?_ ?_ | refine run_nil ?_ | refine Jz ?_ | refine Jw ?_ | refine aw_block ?_ | refine Jq ?_ | refine Jr ?_ | refine Js ?_ | refine aw_ret ?_ | refine pp_ret ?_
        all_goals first
          | rfl
          | (exfalso; omega)
          | (exfalso; simp only [Bool.not_eq_true', Bool.not_eq_false', decide_eq_true_eq, decide_eq_false_iff_not, Bool.not_false, Bool.not_true] at *; omega)
          | (exfalso; simp_all; first | done | omega)
      · rw [if_neg h3] at he2
        exact absurd he2.symm h1
  · rw [if_neg h1] at hfr hto
    obtain rfl : e2 = 0 := Decidable.not_not.1 h1
    have h2 : e = 0 ∧ 0 ≤ p ∧ p < x := by
      unfold spE at he2
      split at he2
      · omega
      · split at he2
        · omega
        · omega
    obtain ⟨rfl, hp0, hp1⟩ := h2
    have h2 : c = 0 ∧ 0 ≤ i ∧ i < n := by
      unfold pgE at he
      split at he
      · omega
      · split at he
        · omega
        · omega
    obtain ⟨rfl, h3, h4⟩ := h2
    obtain ⟨k1, k2, k3, k4, k5⟩ := page_bd hc h3 (by rw [hn]; exact h4)
    obtain ⟨q1, q2, q3, q4, q5⟩ := chk_ok hc
    have q6 := siz_bd q1
    obtain ⟨l, hl⟩ : ∃ l, lenM sz pg i = l := ⟨_, rfl⟩
    have H2 := ac_size v sz pg pk i n L (by omega) (by omega) (by omega) l hl
    unfold pkM at hx
    rw [if_neg (by simp)] at hx
    rw [hl] at hx k3 k4 k5 hto
    have hpp : p * pk < l := (parts_lt (by omega)).1 (by rw [hx]; exact hp1)
    have hpn : 0 ≤ p * pk := Int.mul_nonneg hp0 (by omega)
    obtain ⟨ip, hip⟩ : ∃ ip, i * pg = ip := ⟨_, rfl⟩
    obtain ⟨pp, hpk⟩ : ∃ pp, p * pk = pp := ⟨_, rfl⟩
    rw [hip, hpk] at hfr hto
    subst hfr hto
    clear hl hx hc he he2
    refine acalls_law Tryz.func56 rfl rfl rfl ?_
    repeat' first | refine st (v := .int .i64 ip) (h := by (rw [← hip]; apply ok_mul64; rfl; rfl; omega)) ?_ | refine sd (v := .int .i64 ip) (h := by (rw [← hip]; apply ok_mul64; rfl; rfl; omega)) ?_ | refine st (v := .int .i64 pp) (h := by (rw [← hpk]; apply ok_mul64; rfl; rfl; omega)) ?_ | refine st ?_ | refine stRW [0] H1 ?_ | refine sdRW [0] H2 ?_ | refine stm ?_ | refine Ja ?_ | refine Jf ?_ | refine run_nil ?_ | refine sd ?_ | refine sdl ?_ | refine rund_nil ?_ | refine Jz ?_ | refine Jw ?_ | refine Jx (id := 7) [0,0,0,4,14,0,0,64,224,0,0,1536,4064,8190,3585,32767,65535] 17 ?_ | refine aw_block ?_ | refine Jr ?_ | refine Jt ?_ | refine Jy ?_ | refine aw_ret ?_ | refine pp_ret ?_
    all_goals first
      | rfl
      | (exfalso; omega)
      | (exfalso; simp only [Bool.not_eq_true', Bool.not_eq_false', decide_eq_true_eq, decide_eq_false_iff_not, Bool.not_false, Bool.not_true] at *; omega)
      | (exfalso; simp_all; first | done | omega)
set_option maxHeartbeats 8000000 in
theorem ac_rspan (v sz pg pk i p : Int) (L : List ByteArray) (n : Nat) (hn : L.length = n) (hb : n ≤ 9000000000000000000) (c : Int) (hc : chkM v sz pg pk L = c) (e : Int) (he : pgE c n i = e) (x : Int) (hx : pkM sz pg pk i e = x) (e2 : Int) (he2 : spE e x p = e2) (fr to : Int) (hfr : spF pg pk i p e2 = fr) (hto : spT sz pg pk i p e2 = to) : ACalls Tryz.prog 92 [.agg #[.int .i64 v, .int .i64 sz, .int .i64 pg, .int .i64 pk, .slice (some ⟨0, 0, none⟩) n n], .int .i64 i, .int .i64 p] [some ⟨List.map Value.string L, false, 1⟩] (.tuple #[.int .i64 fr, .int .i64 to, .int .i64 e2]) [none] := by
  have H1 := ac_rpackets v sz pg pk i L n hn hb c hc e he x hx
  unfold spF at hfr
  unfold spT at hto
  by_cases h1 : e2 ≠ 0
  · rw [if_pos h1] at hfr hto
    subst hfr hto
    unfold spE at he2
    by_cases h2 : e ≠ 0
    · rw [if_pos h2] at he2
      subst he2
      clear hc he hx
      refine acalls_law Tryz.func92 rfl rfl rfl ?_
      repeat' first | refine st ?_ | refine stRW [0] H1 ?_ | refine stm ?_ | refine run_nil ?_ | refine Jz ?_ | refine Jw ?_ | refine Js ?_ | refine aw_ret ?_ | refine pp_ret ?_
      all_goals first
        | rfl
        | (exfalso; omega)
        | (exfalso; simp only [Bool.not_eq_true', Bool.not_eq_false', decide_eq_true_eq, decide_eq_false_iff_not, Bool.not_false, Bool.not_true] at *; omega)
        | (exfalso; simp_all; first | done | omega)
    · rw [if_neg h2] at he2
      obtain rfl : e = 0 := Decidable.not_not.1 h2
      by_cases h3 : p < 0 ∨ x ≤ p
      · rw [if_pos h3] at he2
        subst he2
        clear hc he hx
        refine acalls_law Tryz.func92 rfl rfl rfl ?_
        repeat' first | intro h1 | refine st ?_ | refine stRW [0] H1 ?_ | refine stm ?_ | refine Ja ?_ | refine Jb ?_ | refine Ji ?_ ?_ | refine run_nil ?_ | refine Jz ?_ | refine Jw ?_ | refine Jq ?_ | refine Jr ?_ | refine Js ?_ | refine Jy ?_ | refine aw_ret ?_ | refine pp_ret ?_
        all_goals first
          | rfl
          | (exfalso; omega)
          | (exfalso; simp only [Bool.not_eq_true', Bool.not_eq_false', decide_eq_true_eq, decide_eq_false_iff_not, Bool.not_false, Bool.not_true] at *; omega)
          | (exfalso; simp_all; first | done | omega)
      · rw [if_neg h3] at he2
        exact absurd he2.symm h1
  · rw [if_neg h1] at hfr hto
    obtain rfl : e2 = 0 := Decidable.not_not.1 h1
    have h2 : e = 0 ∧ 0 ≤ p ∧ p < x := by
      unfold spE at he2
      split at he2
      · omega
      · split at he2
        · omega
        · omega
    obtain ⟨rfl, hp0, hp1⟩ := h2
    have h2 : c = 0 ∧ 0 ≤ i ∧ i < n := by
      unfold pgE at he
      split at he
      · omega
      · split at he
        · omega
        · omega
    obtain ⟨rfl, h3, h4⟩ := h2
    obtain ⟨k1, k2, k3, k4, k5⟩ := page_bd hc h3 (by rw [hn]; exact h4)
    obtain ⟨q1, q2, q3, q4, q5⟩ := chk_ok hc
    have q6 := siz_bd q1
    obtain ⟨l, hl⟩ : ∃ l, lenM sz pg i = l := ⟨_, rfl⟩
    have H2 := ac_length v sz pg pk i n L (by omega) (by omega) (by omega) l hl
    unfold pkM at hx
    rw [if_neg (by simp)] at hx
    rw [hl] at hx k3 k4 k5 hto
    have hpp : p * pk < l := (parts_lt (by omega)).1 (by rw [hx]; exact hp1)
    have hpn : 0 ≤ p * pk := Int.mul_nonneg hp0 (by omega)
    obtain ⟨ip, hip⟩ : ∃ ip, i * pg = ip := ⟨_, rfl⟩
    obtain ⟨pp, hpk⟩ : ∃ pp, p * pk = pp := ⟨_, rfl⟩
    rw [hip, hpk] at hfr hto
    subst hfr hto
    clear hl hx hc he he2
    refine acalls_law Tryz.func92 rfl rfl rfl ?_
    repeat' first | refine st (v := .int .i64 ip) (h := by (rw [← hip]; apply ok_mul64; rfl; rfl; omega)) ?_ | refine sd (v := .int .i64 ip) (h := by (rw [← hip]; apply ok_mul64; rfl; rfl; omega)) ?_ | refine st (v := .int .i64 pp) (h := by (rw [← hpk]; apply ok_mul64; rfl; rfl; omega)) ?_ | refine st ?_ | refine stRW [0] H1 ?_ | refine sdRW [0] H2 ?_ | refine stm ?_ | refine Ja ?_ | refine Jf ?_ | refine run_nil ?_ | refine sd ?_ | refine sdl ?_ | refine rund_nil ?_ | refine Jz ?_ | refine Jw ?_ | refine Jx (id := 7) [0,0,0,4,14,0,0,64,224,0,0,1536,4064,8190,3585,32767,65535] 17 ?_ | refine Jr ?_ | refine Jt ?_ | refine Jy ?_ | refine aw_ret ?_ | refine pp_ret ?_
    all_goals first
      | rfl
      | (exfalso; omega)
      | (exfalso; simp only [Bool.not_eq_true', Bool.not_eq_false', decide_eq_true_eq, decide_eq_false_iff_not, Bool.not_false, Bool.not_true] at *; omega)
      | (exfalso; simp_all; first | done | omega)
end Go.Proofs.YtjofcjogbopkjaaGreat
