/- Spectrum: the layout. Spectrum: a transmitter is right. -/
import Derived.Test.YtdenooeaiicheaaGreatVL
import Derived.Test.YtdenooeaiicheaaGreatTE
import Derived.Test.YtdenooeaiicheaaGreatT2
set_option linter.unusedVariables false
set_option linter.unusedSimpArgs false
namespace Go.Proofs.YtdenooeaiicheaaGreat
open Go Av
set_option maxRecDepth 20000
/-- A transmitter. -/
structure Sr where
  x : Int
  y : Int
  pw : Int
  ch : List Int
  per : Int
  fr : Int
  to' : Int
/-- A slice of channels in the block j; without elements it is known by its length alone. -/
def chV (j : Nat) (ch : List Int) : Value := .slice (some ⟨j, 0, if ch.length = 0 then some 1 else none⟩) ch.length ch.length
theorem chV_pos (j : Nat) {ch : List Int} {n : Nat} (hn : ch.length = n) (h : n ≠ 0) : chV j ch = .slice (some ⟨j, 0, none⟩) n n := by
  unfold chV
  rw [hn, if_neg h]
def srC (i : Nat) (s : Sr) : List Value := [.int .i64 s.x, .int .i64 s.y, .int .i64 s.pw, chV (5 + i) s.ch, .int .i64 s.per, .int .i64 s.fr, .int .i64 s.to']
def srR (p : Sr × Nat) : List Value := srC p.2 p.1
def srcs (S : List Sr) : List Value := S.zipIdx.flatMap srR
def chB (S : List Sr) (i : Nat) : Option Blk := some ⟨((S[i]?.map Sr.ch).getD []).map (Value.int .i64), false, 1⟩
theorem ren_rows {g : Nat → Nat} : ∀ (l : List (Sr × Nat)), (∀ p ∈ l, g (5 + p.2) = 5 + p.2) → renL g (l.flatMap srR) = l.flatMap srR
  | [], _ => rfl
  | p :: l, h => by
    rw [List.flatMap_cons, renL_eq, List.map_append, ← renL_eq, ← renL_eq, ren_rows l fun q hq => h q (List.mem_cons_of_mem _ hq)]
    congr 1
    have e := h p (List.mem_cons_self ..)
    show [_, _, _, Value.slice (some ⟨g (5 + p.2), 0, _⟩) _ _, _, _, _] = _
    rw [e]
    rfl
theorem ren_srcs {g : Nat → Nat} {S : List Sr} (hS : S.length ≤ 8) (hg : ∀ i, i < 13 → g i = i) : renL g (srcs S) = srcs S := ren_rows _ fun p hp => by
  have := List.snd_lt_of_mem_zipIdx hp
  exact hg _ (by omega)
theorem gOf_id {gl : List Nat} {k n : Nat} (h : gl.take n = List.range n) : ∀ i, i < n → gOf gl k i = i := fun i hi => by
  have h2 : (gl.take n)[i]? = some i := by rw [h, List.getElem?_range hi]
  rw [List.getElem?_take, if_pos hi] at h2
  simp [gOf, h2]
theorem row_of {S : List Sr} {i : Nat} {s : Sr} (h : S[i]? = some s) : S.zipIdx[i]? = some (s, i) := by rw [List.getElem?_zipIdx, h]; simp
theorem chB_of {S : List Sr} {i : Nat} {s : Sr} (h : S[i]? = some s) : chB S i = some ⟨s.ch.map (Value.int .i64), false, 1⟩ := by unfold chB; rw [h]; rfl
end Go.Proofs.YtdenooeaiicheaaGreat
namespace Go.Proofs.YtdenooeaiicheaaGreat
open Go Av
set_option maxRecDepth 20000
/-- Channels in their order behind one. -/
def chsB : Int → List Int → Bool
  | _, [] => true
  | p, c :: l => chnB c && (decide (p < c) && chsB c l)
def sr1 (x y pw : Int) : Bool := decide ((0 ≤ x ∧ x ≤ 10000) ∧ (0 ≤ y ∧ y ≤ 10000) ∧ 0 ≤ pw ∧ pw ≤ 68719476736)
def sr3 (per fr to' : Int) : Bool := decide (0 ≤ fr ∧ fr ≤ to' ∧ to' ≤ per ∧ 1 ≤ per ∧ per ≤ 1000000000)
/-- A transmitter is right. -/
def srB (s : Sr) : Bool := sr1 s.x s.y s.pw && (chsB (-1) s.ch && sr3 s.per s.fr s.to')
def prv (ch : List Int) (i : Nat) : Int := if i = 0 then -1 else ch.getD (i - 1) 0
theorem prv_succ {ch : List Int} {i : Nat} {c : Int} (h : ch[i]? = some c) : prv ch (i + 1) = c := by
  unfold prv
  rw [if_neg (by omega), Nat.add_sub_cancel, List.getD_eq_getElem?_getD, h]
  rfl
theorem drop_one {α : Type} {l : List α} {i : Nat} {c : α} (h : l[i]? = some c) : l.drop i = c :: l.drop (i + 1) := by
  obtain ⟨h1, h2⟩ := List.getElem?_eq_some_iff.1 h
  rw [← h2, List.getElem_cons_drop]
set_option maxHeartbeats 16000000 in
theorem ac_src_n (x0 y0 pw : Int) (ch : List Int) (n : Nat) (hn : ch.length = n) (hb : n ≤ 1000000) (per fr to' : Int) (v : Bool) (hx : srB ⟨x0, y0, pw, ch, per, fr, to'⟩ = v) : ACalls Tryz.prog 47 [.agg #[.int .i64 x0, .int .i64 y0, .int .i64 pw, .slice (some ⟨0, 0, none⟩) n n, .int .i64 per, .int .i64 fr, .int .i64 to']] [some ⟨ch.map (Value.int .i64), false, 1⟩] (.bool v) [none] := by
  unfold srB at hx
  dsimp only at hx
  obtain ⟨z, hz⟩ : ∃ z, chsB (-1) ch = z := ⟨_, rfl⟩
  rw [hz] at hx
  by_cases h1 : (0 ≤ x0 ∧ x0 ≤ 10000) ∧ (0 ≤ y0 ∧ y0 ≤ 10000) ∧ 0 ≤ pw ∧ pw ≤ 68719476736
  rotate_left
  · rw [show sr1 x0 y0 pw = false from decide_eq_false h1, Bool.false_and] at hx
    subst hx
    clear hz
    refine acalls_law Tryz.func47 rfl rfl rfl ?_
    repeat' first | intro h1 | refine st ?_ | refine stm ?_ | refine Ja ?_ | refine Jb ?_ | refine Ji ?_ ?_ | refine run_nil ?_ | refine Jz ?_ | refine Jw ?_ | refine Jq ?_ | refine Js ?_ | refine aw_ret ?_ | refine pp_ret ?_
    all_goals first
      | rfl
      | (exfalso; omega)
      | (refine congrArg Value.bool ?_; first | exact decide_eq_true (by omega) | exact decide_eq_false (by omega) | exact (decide_eq_true (by omega)).symm | exact (decide_eq_false (by omega)).symm)
      | (show Value.bool _ = Value.bool _; congr 1; first | exact decide_eq_true (by omega) | exact decide_eq_false (by omega) | exact (decide_eq_true (by omega)).symm | exact (decide_eq_false (by omega)).symm)
      | (simp [retOf]; done)
  rw [show sr1 x0 y0 pw = true from decide_eq_true h1, Bool.true_and] at hx
  refine acalls_law Tryz.func47 rfl rfl rfl ?_
  repeat' first | refine st ?_ | refine stm ?_ | refine Ja ?_ | refine Jf ?_ | refine run_nil ?_ | refine Jz ?_ | refine Jw ?_ | refine aw_block ?_ | refine Jt ?_ | refine Jy ?_
  refine aw_loopg
    (S := fun y : Og => [(1, .pointer (some ⟨1, 0, none⟩)), (34, .slice (some ⟨0, 0, none⟩) n n), (35, .int .i64 n), (36, .int .i64 y.i)])
    (B := fun _ : Og => [some ⟨ch.map (Value.int .i64), false, 1⟩, some ⟨[.int .i64 x0, .int .i64 y0, .int .i64 pw, .slice (some ⟨0, 0, none⟩) n n, .int .i64 per, .int .i64 fr, .int .i64 to'], true, 1⟩])
    (R := fun y : Og => y.i ≤ n ∧ chsB (prv ch y.i) (ch.drop y.i) = z)
    (μ := fun y : Og => n - y.i) ⟨0⟩ (fitsD [0, 1]) ⟨Nat.zero_le _, hz⟩ ?_
  rintro ⟨i⟩ ⟨g1, g2⟩
  dsimp only at *
  clear h1 hz
  by_cases hi : i < n
  · obtain ⟨c, hq⟩ : ∃ q, ch[i]? = some q := ⟨_, List.getElem?_eq_getElem (by omega)⟩
    obtain ⟨y, hy⟩ : ∃ y, chnB c = y := ⟨_, rfl⟩
    have H := ac_chn c y hy
    rw [drop_one hq, chsB, hy] at g2
    cases y
    · obtain rfl : z = false := by rw [← g2]; rfl
      rw [Bool.false_and] at hx
      subst hx
      clear g2
      repeat' first | refine st (h := ok_load_mapE (f := Value.int .i64) i hq rfl rfl rfl (by omega)) ?_ | refine st ?_ | refine st_call (H) ?_ | refine Jb ?_ | refine Jc ?_ | refine run_nil ?_ | refine Jz ?_ | refine Jw ?_ | refine aw_block ?_ | refine Jq ?_ | refine Js ?_ | refine Jy ?_ | refine aw_ret ?_ | refine pp_ret ?_
      all_goals first
        | rfl
        | (exfalso; omega)
        | (refine congrArg Value.bool ?_; first | exact decide_eq_true (by omega) | exact decide_eq_false (by omega) | exact (decide_eq_true (by omega)).symm | exact (decide_eq_false (by omega)).symm)
        | (show Value.bool _ = Value.bool _; congr 1; first | exact decide_eq_true (by omega) | exact decide_eq_false (by omega) | exact (decide_eq_true (by omega)).symm | exact (decide_eq_false (by omega)).symm)
        | (simp [retOf]; done)
    · rw [Bool.true_and] at g2
      by_cases h0 : i = 0
      · subst h0
        have hc : 0 ≤ c := by unfold chnB at hy; simp at hy; omega
        rw [show decide (prv ch 0 < c) = true from decide_eq_true (by show (-1 : Int) < c; omega), Bool.true_and] at g2
        clear hx
        repeat' first | refine st (h := ok_load_mapE (f := Value.int .i64) 0 hq rfl rfl rfl (by omega)) ?_ | refine st ?_ | refine st_call (H) ?_ | refine Ja ?_ | refine Jb ?_ | refine run_nil ?_ | refine Jz ?_ | refine Jw ?_ | refine aw_block ?_ | refine Jr ?_ | refine Js ?_ | refine Jy ?_
        all_goals first | exact Exists.intro ⟨0 + 1⟩ ⟨fitsD [0, 1], ⟨hi, by rw [prv_succ hq]; exact g2⟩, by dsimp only; omega⟩
      · obtain ⟨k, rfl⟩ : ∃ k, i = k + 1 := ⟨i - 1, by omega⟩
        obtain ⟨p, hp⟩ : ∃ q, ch[k]? = some q := ⟨_, List.getElem?_eq_getElem (by omega)⟩
        rw [prv_succ hp] at g2
        by_cases hpc : p < c
        · rw [decide_eq_true hpc, Bool.true_and] at g2
          clear hx
          repeat' first | refine st (h := ok_load_mapE (f := Value.int .i64) (k + 1) hq rfl rfl rfl (by omega)) ?_ | refine st (h := ok_load_mapE (f := Value.int .i64) k hp rfl rfl rfl (by omega)) ?_ | refine st ?_ | refine st_call (H) ?_ | refine Ja ?_ | refine Jd ?_ | refine run_nil ?_ | refine Jz ?_ | refine Jw ?_ | refine aw_block ?_ | refine Js ?_ | refine Jt ?_ | refine Jy ?_
          all_goals first | exact Exists.intro ⟨k + 1 + 1⟩ ⟨fitsD [0, 1], ⟨hi, by rw [prv_succ hq]; exact g2⟩, by dsimp only; omega⟩
        · rw [decide_eq_false hpc, Bool.false_and] at g2
          subst g2
          rw [Bool.false_and] at hx
          subst hx
          repeat' first | refine st (h := ok_load_mapE (f := Value.int .i64) (k + 1) hq rfl rfl rfl (by omega)) ?_ | refine st (h := ok_load_mapE (f := Value.int .i64) k hp rfl rfl rfl (by omega)) ?_ | refine st ?_ | refine st_call (H) ?_ | refine Ja ?_ | refine Jd ?_ | refine run_nil ?_ | refine Jz ?_ | refine Jw ?_ | refine aw_block ?_ | refine Js ?_ | refine Jy ?_ | refine aw_ret ?_ | refine pp_ret ?_
          all_goals first
            | rfl
            | (exfalso; omega)
            | (refine congrArg Value.bool ?_; first | exact decide_eq_true (by omega) | exact decide_eq_false (by omega) | exact (decide_eq_true (by omega)).symm | exact (decide_eq_false (by omega)).symm)
            | (show Value.bool _ = Value.bool _; congr 1; first | exact decide_eq_true (by omega) | exact decide_eq_false (by omega) | exact (decide_eq_true (by omega)).symm | exact (decide_eq_false (by omega)).symm)
            | (simp [retOf]; done)
  · obtain rfl : i = n := by omega
    rw [← hn, List.drop_length] at g2
    obtain rfl : z = true := g2.symm
    rw [Bool.true_and] at hx
    unfold sr3 at hx
    clear g1
    repeat' first | intro h1 | refine st ?_ | refine Ja ?_ | refine Jb ?_ | refine Jh ?_ ?_ | refine run_nil ?_ | refine Jz ?_ | refine Jw ?_ | refine Jt ?_ | refine aw_exit ?_ | refine aw_ret ?_ | refine pp_ret ?_
    all_goals first
      | rfl
      | (exfalso; omega)
      | (rw [← hx]; refine congrArg Value.bool ?_; first | exact (decide_eq_true (by omega)).symm | exact (decide_eq_false (by omega)).symm | exact decide_eq_decide.2 (by omega))
      | (rw [← hx]; show Value.bool _ = Value.bool _; congr 1; first | exact (decide_eq_true (by omega)).symm | exact (decide_eq_false (by omega)).symm | exact decide_eq_decide.2 (by omega))
      | (exfalso; simp only [Bool.not_eq_true', Bool.not_eq_false', decide_eq_true_eq, decide_eq_false_iff_not, Bool.not_false, Bool.not_true] at *; omega)
      | (simp [retOf]; done)
set_option maxHeartbeats 8000000 in
theorem ac_src_0 (x0 y0 pw : Int) (per fr to' : Int) (v : Bool) (hx : srB ⟨x0, y0, pw, [], per, fr, to'⟩ = v) : ACalls Tryz.prog 47 [.agg #[.int .i64 x0, .int .i64 y0, .int .i64 pw, .slice (some ⟨0, 0, some 1⟩) 0 0, .int .i64 per, .int .i64 fr, .int .i64 to']] [some ⟨[], false, 1⟩] (.bool v) [none] := by
  unfold srB at hx
  dsimp only at hx
  rw [show chsB (-1) [] = true from rfl, Bool.true_and] at hx
  by_cases h1 : (0 ≤ x0 ∧ x0 ≤ 10000) ∧ (0 ≤ y0 ∧ y0 ≤ 10000) ∧ 0 ≤ pw ∧ pw ≤ 68719476736
  rotate_left
  · rw [show sr1 x0 y0 pw = false from decide_eq_false h1, Bool.false_and] at hx
    subst hx
    refine acalls_law Tryz.func47 rfl rfl rfl ?_
    repeat' first | intro h1 | refine st ?_ | refine stm ?_ | refine Ja ?_ | refine Jb ?_ | refine Ji ?_ ?_ | refine run_nil ?_ | refine Jz ?_ | refine Jw ?_ | refine Jq ?_ | refine Js ?_ | refine aw_ret ?_ | refine pp_ret ?_
    all_goals first
      | rfl
      | (exfalso; omega)
      | (refine congrArg Value.bool ?_; first | exact decide_eq_true (by omega) | exact decide_eq_false (by omega) | exact (decide_eq_true (by omega)).symm | exact (decide_eq_false (by omega)).symm)
      | (show Value.bool _ = Value.bool _; congr 1; first | exact decide_eq_true (by omega) | exact decide_eq_false (by omega) | exact (decide_eq_true (by omega)).symm | exact (decide_eq_false (by omega)).symm)
      | (simp [retOf]; done)
  rw [show sr1 x0 y0 pw = true from decide_eq_true h1, Bool.true_and] at hx
  unfold sr3 at hx
  refine acalls_law Tryz.func47 rfl rfl rfl ?_
  repeat' first | refine st ?_ | refine stm ?_ | refine Ja ?_ | refine Jf ?_ | refine run_nil ?_ | refine Jz ?_ | refine Jw ?_ | refine aw_block ?_ | refine Jt ?_ | refine Jy ?_
  refine aw_loopg
    (S := fun y : Og => [(1, .pointer (some ⟨1, 0, none⟩)), (34, .slice (some ⟨0, 0, some 1⟩) 0 0), (35, .int .i64 (0 : Nat)), (36, .int .i64 (0 : Nat))])
    (B := fun _ : Og => [some ⟨[], false, 1⟩, some ⟨[.int .i64 x0, .int .i64 y0, .int .i64 pw, .slice (some ⟨0, 0, some 1⟩) 0 0, .int .i64 per, .int .i64 fr, .int .i64 to'], true, 1⟩])
    (R := fun y : Og => True)
    (μ := fun y : Og => 0) ⟨0⟩ (fitsD [0, 1]) trivial ?_
  rintro ⟨i⟩ -
  clear h1
  repeat' first | intro h1 | refine st ?_ | refine Ja ?_ | refine Jb ?_ | refine Jh ?_ ?_ | refine run_nil ?_ | refine Jz ?_ | refine Jw ?_ | refine Jr ?_ | refine aw_exit ?_ | refine aw_ret ?_ | refine pp_ret ?_
  all_goals first
    | rfl
    | (exfalso; omega)
    | (rw [← hx]; refine congrArg Value.bool ?_; first | exact (decide_eq_true (by omega)).symm | exact (decide_eq_false (by omega)).symm | exact decide_eq_decide.2 (by omega))
    | (rw [← hx]; show Value.bool _ = Value.bool _; congr 1; first | exact (decide_eq_true (by omega)).symm | exact (decide_eq_false (by omega)).symm | exact decide_eq_decide.2 (by omega))
    | (exfalso; simp only [Bool.not_eq_true', Bool.not_eq_false', decide_eq_true_eq, decide_eq_false_iff_not, Bool.not_false, Bool.not_true] at *; omega)
    | (simp [retOf]; done)
theorem ac_src (x0 y0 pw : Int) (ch : List Int) (hb : ch.length ≤ 1000000) (per fr to' : Int) (v : Bool) (hx : srB ⟨x0, y0, pw, ch, per, fr, to'⟩ = v) : ACalls Tryz.prog 47 [.agg #[.int .i64 x0, .int .i64 y0, .int .i64 pw, chV 0 ch, .int .i64 per, .int .i64 fr, .int .i64 to']] [some ⟨ch.map (Value.int .i64), false, 1⟩] (.bool v) [none] := by
  by_cases h0 : ch.length = 0
  · obtain rfl := List.eq_nil_of_length_eq_zero h0
    exact ac_src_0 x0 y0 pw per fr to' v hx
  · rw [chV_pos 0 rfl h0]
    exact ac_src_n x0 y0 pw ch _ rfl hb per fr to' v hx
def badS (s : Sr) : Bool := !srB s
theorem ac_ck1 (x0 y0 pw : Int) (ch : List Int) (hb : ch.length ≤ 1000000) (per fr to' : Int) (v : Bool) (hx : badS ⟨x0, y0, pw, ch, per, fr, to'⟩ = v) : ACalls Tryz.prog 46 [.agg #[.int .i64 x0, .int .i64 y0, .int .i64 pw, chV 0 ch, .int .i64 per, .int .i64 fr, .int .i64 to']] [some ⟨ch.map (Value.int .i64), false, 1⟩] (.bool v) [none] := by
  obtain ⟨y, hy⟩ : ∃ y, srB ⟨x0, y0, pw, ch, per, fr, to'⟩ = y := ⟨_, rfl⟩
  have H := ac_src x0 y0 pw ch hb per fr to' y hy
  unfold badS at hx
  rw [hy] at hx
  subst hx
  clear hy
  cases y
  all_goals refine acalls_law Tryz.func46 rfl rfl rfl ?_
  repeat' first | refine st ?_ | refine stRW [0] H ?_ | refine stm ?_ | refine run_nil ?_ | refine Jz ?_ | refine Jw ?_ | refine aw_ret ?_ | refine pp_ret ?_
  all_goals first
    | rfl
    | (exfalso; omega)
    | (refine congrArg Value.bool ?_; first | exact decide_eq_true (by omega) | exact decide_eq_false (by omega) | exact (decide_eq_true (by omega)).symm | exact (decide_eq_false (by omega)).symm)
    | (show Value.bool _ = Value.bool _; congr 1; first | exact decide_eq_true (by omega) | exact decide_eq_false (by omega) | exact (decide_eq_true (by omega)).symm | exact (decide_eq_false (by omega)).symm)
    | (simp [retOf]; done)
end Go.Proofs.YtdenooeaiicheaaGreat
