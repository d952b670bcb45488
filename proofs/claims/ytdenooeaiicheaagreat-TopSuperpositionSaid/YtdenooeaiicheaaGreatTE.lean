/- The least factor. The factor. A transmitter is on. A fading is right. The fadings are right. A hopping list is right. A list, going round. -/
import Derived.Test.YtdenooeaiicheaaGreatVL
import Derived.Test.YtdenooeaiicheaaGreatT7
import Derived.Test.YtdenooeaiicheaaGreatA3
import Derived.Test.YtdenooeaiicheaaGreatH2
import Derived.Test.YtdenooeaiicheaaGreatT2
set_option linter.unusedVariables false
set_option linter.unusedSimpArgs false
namespace Go.Proofs.YtdenooeaiicheaaGreat
open Go Av
set_option maxRecDepth 20000
structure Fd where
  fr : Int
  to' : Int
  ch : Int
  f1 : Int
  f2 : Int
  fc : Int
def fdC (f : Fd) : List Value := [.int .i64 f.fr, .int .i64 f.to', .int .i64 f.ch, .int .i64 f.f1, .int .i64 f.f2, .int .i64 f.fc]
instance : RenF fdC := ⟨fun _ _ => rfl⟩
def fdQ (a b c t : Int) (f : Fd) : Bool := fdB a b c t f.fr f.to' f.ch f.f1 f.f2
/-- The least factor of the fadings that count. -/
def lsI (a b c t : Int) (L : List Fd) : Int := L.foldl (fun m f => if fdQ a b c t f then min m f.fc else m) 1000
structure Om where
  i : Nat
  m : Int
set_option maxHeartbeats 8000000 in
theorem ac_least (a b c t : Int) (L : List Fd) (n : Nat) (hn : L.length = n) (hb : n ≤ 1000000) (v : Int) (hv : lsI a b c t L = v) : ACalls Tryz.prog 112 [.agg #[.func (.func 110) #[] #[.pointer (some ⟨0, 0, none⟩), .pointer (some ⟨1, 0, none⟩), .pointer (some ⟨2, 0, none⟩), .pointer (some ⟨3, 0, none⟩)]], .slice (some ⟨4, 0, none⟩) n n] [some ⟨[.int .i64 a], false, 1⟩, some ⟨[.int .i64 b], false, 1⟩, some ⟨[.int .i64 c], false, 1⟩, some ⟨[.int .i64 t], false, 1⟩, some ⟨L.flatMap fdC, false, 1⟩] (.int .i64 v) [none, none, none, none, none] := by
  refine acalls_law Tryz.func112 rfl rfl rfl ?_
  repeat' first | refine st ?_ | refine stm ?_ | refine run_nil ?_ | refine Jz ?_ | refine Jw ?_ | refine aw_block ?_
  refine aw_loopg
    (S := fun y : Om => [(2, .pointer (some ⟨5, 0, none⟩)), (5, .int .i64 y.m), (8, .slice (some ⟨4, 0, none⟩) n n), (9, .int .i64 n), (10, .int .i64 y.i)])
    (B := fun _ : Om => [some ⟨[.int .i64 a], false, 1⟩, some ⟨[.int .i64 b], false, 1⟩, some ⟨[.int .i64 c], false, 1⟩, some ⟨[.int .i64 t], false, 1⟩, some ⟨L.flatMap fdC, false, 1⟩, some ⟨[.func (.func 110) #[] #[.pointer (some ⟨0, 0, none⟩), .pointer (some ⟨1, 0, none⟩), .pointer (some ⟨2, 0, none⟩), .pointer (some ⟨3, 0, none⟩)]], true, 1⟩])
    (R := fun y : Om => y.i ≤ n ∧ y.m = (L.take y.i).foldl (fun m f => if fdQ a b c t f then min m f.fc else m) 1000)
    (μ := fun y : Om => n - y.i) ⟨0, 1000⟩ (fitsD [0, 1, 2, 3, 4, 5]) ⟨Nat.zero_le _, rfl⟩ ?_
  rintro ⟨i, m⟩ ⟨g1, g2⟩
  dsimp only at *
  by_cases hi : i < n
  · obtain ⟨⟨fr, to', ch, f1, f2, fc⟩, hq⟩ : ∃ q, L[i]? = some q := ⟨_, List.getElem?_eq_getElem (by omega)⟩
    obtain ⟨y, hy⟩ : ∃ y, fdB a b c t fr to' ch f1 f2 = y := ⟨_, rfl⟩
    have H := ac_fac1 fr to' ch f1 f2 fc a b c t y hy
    have hst : (L.take (i + 1)).foldl (fun m f => if fdQ a b c t f then min m f.fc else m) 1000 = if y then min m fc else m := by
      rw [take_one hq, List.foldl_append, ← g2, ← hy]
      rfl
    cases y
    · skip
      repeat' first | refine st (h := ok_load_rowsE (f := fdC) (cs := [.int .i64 fr, .int .i64 to', .int .i64 ch, .int .i64 f1, .int .i64 f2, .int .i64 fc]) i (fun _ => rfl) hq rfl rfl rfl rfl (by omega)) ?_ | refine st ?_ | refine stRW [0, 1, 2, 3] H ?_ | refine stm ?_ | refine run_nil ?_ | refine Jz ?_ | refine Jw ?_ | refine aw_block ?_ | refine Jr ?_ | refine Js ?_ | refine Jy ?_
      all_goals first | exact Exists.intro ⟨i + 1, m⟩ ⟨fitsD [0, 1, 2, 3, 4, 5], ⟨hi, hst.symm⟩, by dsimp only; omega⟩
    · skip
      repeat' first | refine st (h := ok_load_rowsE (f := fdC) (cs := [.int .i64 fr, .int .i64 to', .int .i64 ch, .int .i64 f1, .int .i64 f2, .int .i64 fc]) i (fun _ => rfl) hq rfl rfl rfl rfl (by omega)) ?_ | refine st ?_ | refine stRW [0, 1, 2, 3] H ?_ | refine stm ?_ | refine run_nil ?_ | refine Jz ?_ | refine Jw ?_ | refine aw_block ?_ | refine Jq ?_ | refine Js ?_ | refine Jy ?_
      all_goals first | exact Exists.intro ⟨i + 1, min m fc⟩ ⟨fitsD [0, 1, 2, 3, 4, 5], ⟨hi, hst.symm⟩, by dsimp only; omega⟩
  · obtain rfl : i = n := by omega
    obtain rfl : m = v := by rw [g2, ← hv, ← hn, List.take_length]; rfl
    repeat' first | refine st ?_ | refine run_nil ?_ | refine Jz ?_ | refine Jw ?_ | refine Jt ?_ | refine aw_exit ?_ | refine aw_ret ?_ | refine pp_ret ?_
    all_goals first
      | rfl
      | (exfalso; omega)
      | (refine congrArg Value.bool ?_; first | exact decide_eq_true (by omega) | exact decide_eq_false (by omega) | exact (decide_eq_true (by omega)).symm | exact (decide_eq_false (by omega)).symm)
      | (show Value.bool _ = Value.bool _; congr 1; first | exact decide_eq_true (by omega) | exact decide_eq_false (by omega) | exact (decide_eq_true (by omega)).symm | exact (decide_eq_false (by omega)).symm)
      | (simp [retOf]; done)
end Go.Proofs.YtdenooeaiicheaaGreat
namespace Go.Proofs.YtdenooeaiicheaaGreat
open Go Av
set_option maxRecDepth 20000
set_option maxHeartbeats 8000000 in
theorem ac_factor (a b c t : Int) (ns : Nat) (L : List Fd) (n : Nat) (hn : L.length = n) (hb : n ≤ 1000000) (v : Int) (hv : lsI a b c t L = v) : ACalls Tryz.prog 96 [.agg #[.slice (some ⟨0, 0, none⟩) ns ns, .slice (some ⟨1, 0, none⟩) n n], .int .i64 a, .int .i64 b, .int .i64 c, .int .i64 t] [none, some ⟨L.flatMap fdC, false, 1⟩] (.int .i64 v) [none, none] := by
  have H := ac_least a b c t L n hn hb v hv
  refine acalls_law Tryz.func96 rfl rfl rfl ?_
  repeat' first | refine st ?_ | refine stRW [3, 4, 5, 6, 1] H ?_ | refine st (h := ok_makeFunc (by ((repeat (apply ArgsR.cons; rfl)); exact ArgsR.nil)) (by ((repeat (apply ArgsR.cons; rfl)); exact ArgsR.nil))) ?_ | refine stm ?_ | refine run_nil ?_ | refine Jz ?_ | refine Jw ?_ | refine aw_ret ?_ | refine pp_ret ?_
  all_goals first
    | rfl
    | (exfalso; omega)
    | (refine congrArg Value.bool ?_; first | exact decide_eq_true (by omega) | exact decide_eq_false (by omega) | exact (decide_eq_true (by omega)).symm | exact (decide_eq_false (by omega)).symm)
    | (show Value.bool _ = Value.bool _; congr 1; first | exact decide_eq_true (by omega) | exact decide_eq_false (by omega) | exact (decide_eq_true (by omega)).symm | exact (decide_eq_false (by omega)).symm)
    | (simp [retOf]; done)
end Go.Proofs.YtdenooeaiicheaaGreat
namespace Go.Proofs.YtdenooeaiicheaaGreat
open Go Av
set_option maxRecDepth 20000
/-- A transmitter is on at some time of an interval. -/
def onS (per fr to' f t : Int) : Bool := if f = t ∨ fr = to' then false else decide ((f.tmod per < to' ∧ fr < f.tmod per + t - f) ∨ fr + per < f.tmod per + t - f)
end Go.Proofs.YtdenooeaiicheaaGreat
namespace Go.Proofs.YtdenooeaiicheaaGreat
open Go Av
set_option maxRecDepth 20000
def feB (a : Int) : Bool := decide (a = -1) || nodB a
/-- A fading is right. -/
def faB (fr to' ch f1 f2 fc : Int) : Bool := feB fr && (feB to' && ((decide (ch = -1) || chnB ch) && (itvB f1 f2 && decide (0 ≤ fc ∧ fc ≤ 1000))))
theorem ac_fend (a : Int) (x : Bool) (hx : feB a = x) : ACalls Tryz.prog 76 [.int .i64 a] [] (.bool x) [] := by
  obtain ⟨y, hy⟩ : ∃ y, nodB a = y := ⟨_, rfl⟩
  have H := ac_nod a y hy
  unfold feB at hx
  rw [hy] at hx
  clear hy
  by_cases h1 : a = -1
  · rw [decide_eq_true h1, Bool.true_or] at hx
    subst hx
    refine acalls_pure Tryz.func76 rfl rfl rfl ?_
    repeat' first | refine st ?_ | refine Jb ?_ | refine Jg ?_ | refine run_nil ?_ | refine Jz ?_ | refine Jw ?_ | refine aw_ret ?_ | refine pp_ret ?_
    all_goals first
      | rfl
      | (exfalso; omega)
      | (refine congrArg Value.bool ?_; first | exact decide_eq_true (by omega) | exact decide_eq_false (by omega) | exact (decide_eq_true (by omega)).symm | exact (decide_eq_false (by omega)).symm)
      | (show Value.bool _ = Value.bool _; congr 1; first | exact decide_eq_true (by omega) | exact decide_eq_false (by omega) | exact (decide_eq_true (by omega)).symm | exact (decide_eq_false (by omega)).symm)
      | (simp [retOf]; done)
  · rw [decide_eq_false h1, Bool.false_or] at hx
    subst hx
    refine acalls_pure Tryz.func76 rfl rfl rfl ?_
    repeat' first | refine st ?_ | refine st_call (H) ?_ | refine Ja ?_ | refine Jf ?_ | refine run_nil ?_ | refine Jz ?_ | refine Jw ?_ | refine aw_ret ?_ | refine pp_ret ?_
    all_goals first
      | rfl
      | (exfalso; omega)
      | (refine congrArg Value.bool ?_; first | exact decide_eq_true (by omega) | exact decide_eq_false (by omega) | exact (decide_eq_true (by omega)).symm | exact (decide_eq_false (by omega)).symm)
      | (show Value.bool _ = Value.bool _; congr 1; first | exact decide_eq_true (by omega) | exact decide_eq_false (by omega) | exact (decide_eq_true (by omega)).symm | exact (decide_eq_false (by omega)).symm)
      | (simp [retOf]; done)
set_option maxHeartbeats 16000000 in
theorem ac_fade (fr to' ch f1 f2 fc : Int) (x : Bool) (hx : faB fr to' ch f1 f2 fc = x) : ACalls Tryz.prog 50 [.agg #[.int .i64 fr, .int .i64 to', .int .i64 ch, .int .i64 f1, .int .i64 f2, .int .i64 fc]] [] (.bool x) [] := by
  obtain ⟨y1, k1⟩ : ∃ y, feB fr = y := ⟨_, rfl⟩
  obtain ⟨y2, k2⟩ : ∃ y, feB to' = y := ⟨_, rfl⟩
  obtain ⟨y3, k3⟩ : ∃ y, chnB ch = y := ⟨_, rfl⟩
  obtain ⟨y4, k4⟩ : ∃ y, itvB f1 f2 = y := ⟨_, rfl⟩
  have H1 := ac_fend fr y1 k1
  have H2 := ac_fend to' y2 k2
  have H3 := ac_chn ch y3 k3
  have H4 := ac_itv f1 f2 y4 k4
  unfold faB at hx
  rw [k1, k2, k3, k4] at hx
  clear k1 k2 k3 k4
  cases y1
  · subst hx
    refine acalls_pure Tryz.func50 rfl rfl rfl ?_
    repeat' first | refine st ?_ | refine st_call (H1) ?_ | refine stm ?_ | refine Jb ?_ | refine Jc ?_ | refine run_nil ?_ | refine Jz ?_ | refine Jw ?_ | refine aw_ret ?_ | refine pp_ret ?_
    all_goals first
      | rfl
      | (exfalso; omega)
      | (refine congrArg Value.bool ?_; first | exact decide_eq_true (by omega) | exact decide_eq_false (by omega) | exact (decide_eq_true (by omega)).symm | exact (decide_eq_false (by omega)).symm)
      | (show Value.bool _ = Value.bool _; congr 1; first | exact decide_eq_true (by omega) | exact decide_eq_false (by omega) | exact (decide_eq_true (by omega)).symm | exact (decide_eq_false (by omega)).symm)
      | (simp [retOf]; done)
  cases y2
  · subst hx
    refine acalls_pure Tryz.func50 rfl rfl rfl ?_
    repeat' first | refine st ?_ | refine st_call (H1) ?_ | refine st_call (H2) ?_ | refine stm ?_ | refine Ja ?_ | refine Jb ?_ | refine Jc ?_ | refine run_nil ?_ | refine Jz ?_ | refine Jw ?_ | refine aw_ret ?_ | refine pp_ret ?_
    all_goals first
      | rfl
      | (exfalso; omega)
      | (refine congrArg Value.bool ?_; first | exact decide_eq_true (by omega) | exact decide_eq_false (by omega) | exact (decide_eq_true (by omega)).symm | exact (decide_eq_false (by omega)).symm)
      | (show Value.bool _ = Value.bool _; congr 1; first | exact decide_eq_true (by omega) | exact decide_eq_false (by omega) | exact (decide_eq_true (by omega)).symm | exact (decide_eq_false (by omega)).symm)
      | (simp [retOf]; done)
  by_cases h1 : ch = -1
  · rw [decide_eq_true h1] at hx
    simp only [Bool.true_or, Bool.true_and] at hx
    cases y4
    · subst hx
      refine acalls_pure Tryz.func50 rfl rfl rfl ?_
      repeat' first | refine st ?_ | refine st_call (H1) ?_ | refine st_call (H2) ?_ | refine st_call (H4) ?_ | refine stm ?_ | refine Ja ?_ | refine Jb ?_ | refine Jg ?_ | refine run_nil ?_ | refine Jz ?_ | refine Jw ?_ | refine aw_ret ?_ | refine pp_ret ?_
      all_goals first
        | rfl
        | (exfalso; omega)
        | (refine congrArg Value.bool ?_; first | exact decide_eq_true (by omega) | exact decide_eq_false (by omega) | exact (decide_eq_true (by omega)).symm | exact (decide_eq_false (by omega)).symm)
        | (show Value.bool _ = Value.bool _; congr 1; first | exact decide_eq_true (by omega) | exact decide_eq_false (by omega) | exact (decide_eq_true (by omega)).symm | exact (decide_eq_false (by omega)).symm)
        | (simp [retOf]; done)
    · rw [Bool.true_and] at hx
      refine acalls_pure Tryz.func50 rfl rfl rfl ?_
      repeat' first | intro h1 | refine st ?_ | refine st_call (H1) ?_ | refine st_call (H2) ?_ | refine st_call (H4) ?_ | refine stm ?_ | refine Ja ?_ | refine Jb ?_ | refine Jg ?_ | refine Jh ?_ ?_ | refine run_nil ?_ | refine Jz ?_ | refine Jw ?_ | refine aw_ret ?_ | refine pp_ret ?_
      all_goals first
        | rfl
        | (exfalso; omega)
        | (rw [← hx]; refine congrArg Value.bool ?_; first | exact (decide_eq_true (by omega)).symm | exact (decide_eq_false (by omega)).symm | exact decide_eq_decide.2 (by omega))
        | (rw [← hx]; show Value.bool _ = Value.bool _; congr 1; first | exact (decide_eq_true (by omega)).symm | exact (decide_eq_false (by omega)).symm | exact decide_eq_decide.2 (by omega))
        | (exfalso; simp only [Bool.not_eq_true', Bool.not_eq_false', decide_eq_true_eq, decide_eq_false_iff_not, Bool.not_false, Bool.not_true] at *; omega)
        | (simp [retOf]; done)
  · rw [decide_eq_false h1] at hx
    simp only [Bool.false_or, Bool.true_and] at hx
    cases y3
    · subst hx
      refine acalls_pure Tryz.func50 rfl rfl rfl ?_
      repeat' first | refine st ?_ | refine st_call (H1) ?_ | refine st_call (H2) ?_ | refine st_call (H3) ?_ | refine stm ?_ | refine Ja ?_ | refine Jb ?_ | refine Jf ?_ | refine run_nil ?_ | refine Jz ?_ | refine Jw ?_ | refine aw_ret ?_ | refine pp_ret ?_
      all_goals first
        | rfl
        | (exfalso; omega)
        | (refine congrArg Value.bool ?_; first | exact decide_eq_true (by omega) | exact decide_eq_false (by omega) | exact (decide_eq_true (by omega)).symm | exact (decide_eq_false (by omega)).symm)
        | (show Value.bool _ = Value.bool _; congr 1; first | exact decide_eq_true (by omega) | exact decide_eq_false (by omega) | exact (decide_eq_true (by omega)).symm | exact (decide_eq_false (by omega)).symm)
        | (simp [retOf]; done)
    cases y4
    · subst hx
      refine acalls_pure Tryz.func50 rfl rfl rfl ?_
      repeat' first | refine st ?_ | refine st_call (H1) ?_ | refine st_call (H2) ?_ | refine st_call (H3) ?_ | refine st_call (H4) ?_ | refine stm ?_ | refine Ja ?_ | refine Jb ?_ | refine Jf ?_ | refine run_nil ?_ | refine Jz ?_ | refine Jw ?_ | refine aw_ret ?_ | refine pp_ret ?_
      all_goals first
        | rfl
        | (exfalso; omega)
        | (refine congrArg Value.bool ?_; first | exact decide_eq_true (by omega) | exact decide_eq_false (by omega) | exact (decide_eq_true (by omega)).symm | exact (decide_eq_false (by omega)).symm)
        | (show Value.bool _ = Value.bool _; congr 1; first | exact decide_eq_true (by omega) | exact decide_eq_false (by omega) | exact (decide_eq_true (by omega)).symm | exact (decide_eq_false (by omega)).symm)
        | (simp [retOf]; done)
    · rw [Bool.true_and, Bool.true_and] at hx
      refine acalls_pure Tryz.func50 rfl rfl rfl ?_
      repeat' first | intro h1 | refine st ?_ | refine st_call (H1) ?_ | refine st_call (H2) ?_ | refine st_call (H3) ?_ | refine st_call (H4) ?_ | refine stm ?_ | refine Ja ?_ | refine Jb ?_ | refine Jf ?_ | refine Jh ?_ ?_ | refine run_nil ?_ | refine Jz ?_ | refine Jw ?_ | refine aw_ret ?_ | refine pp_ret ?_
      all_goals first
        | rfl
        | (exfalso; omega)
        | (rw [← hx]; refine congrArg Value.bool ?_; first | exact (decide_eq_true (by omega)).symm | exact (decide_eq_false (by omega)).symm | exact decide_eq_decide.2 (by omega))
        | (rw [← hx]; show Value.bool _ = Value.bool _; congr 1; first | exact (decide_eq_true (by omega)).symm | exact (decide_eq_false (by omega)).symm | exact decide_eq_decide.2 (by omega))
        | (exfalso; simp only [Bool.not_eq_true', Bool.not_eq_false', decide_eq_true_eq, decide_eq_false_iff_not, Bool.not_false, Bool.not_true] at *; omega)
        | (simp [retOf]; done)
end Go.Proofs.YtdenooeaiicheaaGreat
namespace Go.Proofs.YtdenooeaiicheaaGreat
open Go Av
set_option maxRecDepth 20000
def badF (f : Fd) : Bool := !faB f.fr f.to' f.ch f.f1 f.f2 f.fc
theorem ac_ck2 (fr to' ch f1 f2 fc : Int) (x : Bool) (hx : badF ⟨fr, to', ch, f1, f2, fc⟩ = x) : ACalls Tryz.prog 49 [.agg #[.int .i64 fr, .int .i64 to', .int .i64 ch, .int .i64 f1, .int .i64 f2, .int .i64 fc]] [] (.bool x) [] := by
  obtain ⟨y, hy⟩ : ∃ y, faB fr to' ch f1 f2 fc = y := ⟨_, rfl⟩
  have H := ac_fade fr to' ch f1 f2 fc y hy
  unfold badF at hx
  dsimp only at hx
  rw [hy] at hx
  subst hx
  clear hy
  cases y
  all_goals refine acalls_pure Tryz.func49 rfl rfl rfl ?_
  repeat' first | refine st ?_ | refine st_call (H) ?_ | refine stm ?_ | refine run_nil ?_ | refine Jz ?_ | refine Jw ?_ | refine aw_ret ?_ | refine pp_ret ?_
  all_goals first
    | rfl
    | (exfalso; omega)
    | (refine congrArg Value.bool ?_; first | exact decide_eq_true (by omega) | exact decide_eq_false (by omega) | exact (decide_eq_true (by omega)).symm | exact (decide_eq_false (by omega)).symm)
    | (show Value.bool _ = Value.bool _; congr 1; first | exact decide_eq_true (by omega) | exact decide_eq_false (by omega) | exact (decide_eq_true (by omega)).symm | exact (decide_eq_false (by omega)).symm)
    | (simp [retOf]; done)
set_option maxHeartbeats 4000000 in
theorem ac_if_F (L : List Fd) (n : Nat) (hn : L.length = n) (hb : n ≤ 9000000000000000000)  (x : Int) (hx : fidx badF L = x) : ACalls Tryz.prog 75 [.slice (some ⟨0, 0, none⟩) n n, .func (.func 49) #[] #[]] [some ⟨L.flatMap fdC, false, 1⟩] (.int .i64 x) [none] := by
  refine acalls_law Tryz.func75 rfl rfl rfl ?_
  repeat' first | refine st ?_ | refine run_nil ?_ | refine Jz ?_ | refine Jw ?_ | refine aw_block ?_
  refine aw_loopg
    (S := fun y : Og => [(0, .slice (some ⟨0, 0, none⟩) n n), (1, .func (.func 49) #[] #[]), (7, .int .i64 n), (8, .int .i64 y.i)])
    (B := fun _ : Og => [some ⟨L.flatMap fdC, false, 1⟩])
    (R := fun y : Og => y.i ≤ n ∧ ∀ (j : Nat), j < y.i → ∀ q, L[j]? = some q → badF q = false)
    (μ := fun y : Og => n - y.i) ⟨0⟩ (fitsD [0]) ⟨Nat.zero_le _, fun j hj => absurd hj (Nat.not_lt_zero _)⟩ ?_
  rintro ⟨i⟩ ⟨g1, g2⟩
  dsimp only at *
  by_cases hi : i < n
  · obtain ⟨⟨fr, to', ch, f1, f2, fc⟩, hq⟩ : ∃ q, L[i]? = some q := ⟨_, List.getElem?_eq_getElem (by omega)⟩
    obtain ⟨y, hy⟩ : ∃ y, badF ⟨fr, to', ch, f1, f2, fc⟩ = y := ⟨_, rfl⟩
    have H := ac_ck2 fr to' ch f1 f2 fc y hy
    cases y
    · have hst := no_step (q := badF) g2 hq hy
      clear hx g2
      repeat' first | refine st (h := ok_load_rowsE (f := fdC) (cs := [.int .i64 fr, .int .i64 to', .int .i64 ch, .int .i64 f1, .int .i64 f2, .int .i64 fc]) i (fun _ => rfl) hq rfl rfl rfl rfl (by omega)) ?_ | refine st ?_ | refine st_call (H) ?_ | refine run_nil ?_ | refine Jz ?_ | refine Jw ?_ | refine aw_block ?_ | refine Jr ?_ | refine Js ?_ | refine Jy ?_
      all_goals first | exact Exists.intro ⟨i + 1⟩ ⟨fitsD [0], ⟨hi, hst⟩, by dsimp only; omega⟩
    · obtain rfl : x = i := by rw [← hx]; exact fidx_at (q := badF) hq hy g2
      clear hx g2
      repeat' first | refine st (h := ok_load_rowsE (f := fdC) (cs := [.int .i64 fr, .int .i64 to', .int .i64 ch, .int .i64 f1, .int .i64 f2, .int .i64 fc]) i (fun _ => rfl) hq rfl rfl rfl rfl (by omega)) ?_ | refine st ?_ | refine st_call (H) ?_ | refine run_nil ?_ | refine Jz ?_ | refine Jw ?_ | refine aw_block ?_ | refine Jq ?_ | refine Js ?_ | refine Jy ?_ | refine aw_ret ?_ | refine pp_ret ?_
      all_goals first
        | rfl
        | (exfalso; omega)
        | (refine congrArg Value.bool ?_; first | exact decide_eq_true (by omega) | exact decide_eq_false (by omega) | exact (decide_eq_true (by omega)).symm | exact (decide_eq_false (by omega)).symm)
        | (show Value.bool _ = Value.bool _; congr 1; first | exact decide_eq_true (by omega) | exact decide_eq_false (by omega) | exact (decide_eq_true (by omega)).symm | exact (decide_eq_false (by omega)).symm)
        | (simp [retOf]; done)
  · obtain rfl : i = n := by omega
    obtain rfl : x = -1 := by rw [← hx]; exact fidx_no (by rw [hn]; exact g2)
    repeat' first | refine st ?_ | refine run_nil ?_ | refine Jz ?_ | refine Jw ?_ | refine Jt ?_ | refine aw_exit ?_ | refine aw_ret ?_ | refine pp_ret ?_
    all_goals first
      | rfl
      | (exfalso; omega)
      | (refine congrArg Value.bool ?_; first | exact decide_eq_true (by omega) | exact decide_eq_false (by omega) | exact (decide_eq_true (by omega)).symm | exact (decide_eq_false (by omega)).symm)
      | (show Value.bool _ = Value.bool _; congr 1; first | exact decide_eq_true (by omega) | exact decide_eq_false (by omega) | exact (decide_eq_true (by omega)).symm | exact (decide_eq_false (by omega)).symm)
      | (simp [retOf]; done)
set_option maxHeartbeats 1000000 in
theorem ac_cf_F (L : List Fd) (n : Nat) (hn : L.length = n) (hb : n ≤ 9000000000000000000)  (x : Bool) (hx : decide (fidx badF L ≠ -1) = x) : ACalls Tryz.prog 48 [.slice (some ⟨0, 0, none⟩) n n, .func (.func 49) #[] #[]] [some ⟨L.flatMap fdC, false, 1⟩] (.bool x) [none] := by
  obtain ⟨z, hz⟩ : ∃ z, fidx badF L = z := ⟨_, rfl⟩
  have H := ac_if_F L n hn hb  z hz
  have hge := (fidx_ge (q := badF) (l := L)).1
  rw [hz] at hx hge
  refine acalls_law Tryz.func48 rfl rfl rfl ?_
  repeat' first | refine st ?_ | refine stRW [0] H ?_ | refine run_nil ?_ | refine Jz ?_ | refine Jw ?_ | refine aw_ret ?_ | refine pp_ret ?_
  all_goals first | (rw [← hx]; exact congrArg Value.bool (decide_eq_decide.2 (by omega)))
end Go.Proofs.YtdenooeaiicheaaGreat
namespace Go.Proofs.YtdenooeaiicheaaGreat
open Go Av
set_option maxRecDepth 20000
/-- The error of a hopping list. -/
def hpB (ve fi un : Int) (C : List Int) : Bool := decide (0 ≤ ve ∧ ve < 256 ∧ 0 ≤ fi ∧ fi < un ∧ un ≤ 109951163) && chOK C
set_option maxHeartbeats 8000000 in
theorem ac_hpCheck (ve fi un : Int) (C : List Int) (n : Nat) (hn : C.length = n) (hb : n ≤ 9000000000000000000) (x : Bool) (hx : hpB ve fi un C = x) : ACalls Tryz.prog 33 [.agg #[.int .i64 ve, .int .i64 fi, .int .i64 un, .slice (some ⟨0, 0, none⟩) n n]] [some ⟨List.map (Value.int .i64) C, false, 1⟩] (.int .i64 (if x then 0 else 1)) [none] := by
  obtain ⟨y, hy⟩ : ∃ y, chOK C = y := ⟨_, rfl⟩
  have H := ac_channels C n hn hb y hy
  unfold hpB at hx
  rw [hy] at hx
  clear hy
  by_cases h0 : 0 ≤ ve ∧ ve < 256 ∧ 0 ≤ fi ∧ fi < un ∧ un ≤ 109951163
  · rw [decide_eq_true h0, Bool.true_and] at hx
    subst hx
    cases y
    · skip
      refine acalls_law Tryz.func33 rfl rfl rfl ?_
      repeat' first | refine st ?_ | refine stRW [0] H ?_ | refine stm ?_ | refine Ja ?_ | refine Jf ?_ | refine run_nil ?_ | refine Jz ?_ | refine Jw ?_ | refine Jq ?_ | refine aw_ret ?_ | refine pp_ret ?_
      all_goals first
        | rfl
        | (exfalso; omega)
        | (refine congrArg Value.bool ?_; first | exact decide_eq_true (by omega) | exact decide_eq_false (by omega) | exact (decide_eq_true (by omega)).symm | exact (decide_eq_false (by omega)).symm)
        | (show Value.bool _ = Value.bool _; congr 1; first | exact decide_eq_true (by omega) | exact decide_eq_false (by omega) | exact (decide_eq_true (by omega)).symm | exact (decide_eq_false (by omega)).symm)
        | (simp [retOf]; done)
    · skip
      refine acalls_law Tryz.func33 rfl rfl rfl ?_
      repeat' first | refine st ?_ | refine stRW [0] H ?_ | refine stm ?_ | refine Ja ?_ | refine Jf ?_ | refine run_nil ?_ | refine Jz ?_ | refine Jw ?_ | refine Jr ?_ | refine Jy ?_ | refine aw_ret ?_ | refine pp_ret ?_
      all_goals first
        | rfl
        | (exfalso; omega)
        | (refine congrArg Value.bool ?_; first | exact decide_eq_true (by omega) | exact decide_eq_false (by omega) | exact (decide_eq_true (by omega)).symm | exact (decide_eq_false (by omega)).symm)
        | (show Value.bool _ = Value.bool _; congr 1; first | exact decide_eq_true (by omega) | exact decide_eq_false (by omega) | exact (decide_eq_true (by omega)).symm | exact (decide_eq_false (by omega)).symm)
        | (simp [retOf]; done)
  · rw [decide_eq_false h0, Bool.false_and] at hx
    subst hx
    refine acalls_law Tryz.func33 rfl rfl rfl ?_
    repeat' first | intro h1 | refine st ?_ | refine stm ?_ | refine Ja ?_ | refine Jb ?_ | refine Jg ?_ | refine Ji ?_ ?_ | refine run_nil ?_ | refine Jz ?_ | refine Jw ?_ | refine Jq ?_ | refine aw_ret ?_ | refine pp_ret ?_
    all_goals first
      | rfl
      | (exfalso; omega)
      | (refine congrArg Value.bool ?_; first | exact decide_eq_true (by omega) | exact decide_eq_false (by omega) | exact (decide_eq_true (by omega)).symm | exact (decide_eq_false (by omega)).symm)
      | (show Value.bool _ = Value.bool _; congr 1; first | exact decide_eq_true (by omega) | exact decide_eq_false (by omega) | exact (decide_eq_true (by omega)).symm | exact (decide_eq_false (by omega)).symm)
      | (simp [retOf]; done)
end Go.Proofs.YtdenooeaiicheaaGreat
namespace Go.Proofs.YtdenooeaiicheaaGreat
open Go Av
set_option maxRecDepth 20000
theorem ac_round (n : Nat) (t : Int) : ACalls Tryz.prog 34 [.slice (some ⟨0, 0, none⟩) n n, .int .i64 t] [none] (.func (.func 65) #[] #[.pointer (some ⟨1, 0, none⟩), .pointer (some ⟨2, 0, none⟩)]) [none, some ⟨[.slice (some ⟨0, 0, none⟩) n n], true, 1⟩, some ⟨[.int .i64 t], true, 1⟩] := by
  refine acalls_of_aw Tryz.func34 rfl rfl ?_
  repeat' first | refine st ?_ | refine st (h := ok_makeFunc (by ((repeat (apply ArgsR.cons; rfl)); exact ArgsR.nil)) (by ((repeat (apply ArgsR.cons; rfl)); exact ArgsR.nil))) ?_ | refine stm ?_ | refine run_nil ?_ | refine Jz ?_ | refine Jw ?_ | refine aw_ret ?_
  all_goals exact pm_ret _ (renumD [0, 1, 2]) rfl
end Go.Proofs.YtdenooeaiicheaaGreat
