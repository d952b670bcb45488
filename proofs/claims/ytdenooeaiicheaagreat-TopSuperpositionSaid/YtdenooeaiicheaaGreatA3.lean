/- Geometry: sites checked. -/
import Derived.Test.YtdenooeaiicheaaGreatVL
import Derived.Test.YtdenooeaiicheaaGreatA2
set_option linter.unusedVariables false
set_option linter.unusedSimpArgs false
namespace Go.Proofs.YtdenooeaiicheaaGreat
open Go Av
set_option maxRecDepth 20000
structure P2 where
  x : Int
  y : Int
structure Wl where
  ax : Int
  ay : Int
  bx : Int
  by' : Int
  fc : Int
def ptC (p : P2) : List Value := [.int .i64 p.x, .int .i64 p.y]
def inC (n : Int) : List Value := [.int .i64 n]
def wlC (w : Wl) : List Value := [.int .i64 w.ax, .int .i64 w.ay, .int .i64 w.bx, .int .i64 w.by', .int .i64 w.fc]
instance : RenF ptC := ⟨fun _ _ => rfl⟩
instance : RenF inC := ⟨fun _ _ => rfl⟩
instance : RenF wlC := ⟨fun _ _ => rfl⟩
def badP (p : P2) : Bool := !ptB p.x p.y
def badN (n : Int) : Bool := !powB n
def badW (w : Wl) : Bool := (!ptB w.ax w.ay) || ((!ptB w.bx w.by') || decide (w.fc < 0 ∨ 1000 < w.fc))
/-- A site is right. -/
def siteB (N : List P2) (Pw : List Int) (W : List Wl) (ex no th : Int) : Bool := decide (2 ≤ N.length ∧ N.length ≤ 32 ∧ Pw.length = N.length ∧ W.length ≤ 32 ∧ (ex = 2 ∨ ex = 4) ∧ (1000 ≤ th ∧ th ≤ 100000) ∧ 1 ≤ no ∧ no ≤ 68719476736) && (!decide (fidx badP N ≠ -1) && (!decide (fidx badN Pw ≠ -1) && !decide (fidx badW W ≠ -1)))
theorem ac_gc1 (x0 y0 : Int) (x : Bool) (hx : (!ptB x0 y0) = x) : ACalls Tryz.prog 38 [.agg #[.int .i64 x0, .int .i64 y0]] [] (.bool x) [] := by
  obtain ⟨y, hy⟩ : ∃ y, ptB x0 y0 = y := ⟨_, rfl⟩
  have H := ac_point x0 y0 y hy
  rw [hy] at hx
  subst hx
  clear hy
  cases y
  all_goals refine acalls_pure Tryz.func38 rfl rfl rfl ?_
  repeat' first | refine st ?_ | refine st_call (H) ?_ | refine stm ?_ | refine run_nil ?_ | refine Jz ?_ | refine Jw ?_ | refine aw_ret ?_ | refine pp_ret ?_
  all_goals first
    | rfl
    | (exfalso; omega)
    | (refine congrArg Value.bool ?_; first | exact decide_eq_true (by omega) | exact decide_eq_false (by omega) | exact (decide_eq_true (by omega)).symm | exact (decide_eq_false (by omega)).symm)
    | (show Value.bool _ = Value.bool _; congr 1; first | exact decide_eq_true (by omega) | exact decide_eq_false (by omega) | exact (decide_eq_true (by omega)).symm | exact (decide_eq_false (by omega)).symm)
    | (simp [retOf]; done)
theorem ac_gc2 (n : Int) (x : Bool) (hx : (!powB n) = x) : ACalls Tryz.prog 41 [.int .i64 n] [] (.bool x) [] := by
  obtain ⟨y, hy⟩ : ∃ y, powB n = y := ⟨_, rfl⟩
  have H := ac_isPower n y hy
  rw [hy] at hx
  subst hx
  clear hy
  cases y
  all_goals refine acalls_pure Tryz.func41 rfl rfl rfl ?_
  repeat' first | refine st ?_ | refine st_call (H) ?_ | refine run_nil ?_ | refine Jz ?_ | refine Jw ?_ | refine aw_ret ?_ | refine pp_ret ?_
  all_goals first
    | rfl
    | (exfalso; omega)
    | (refine congrArg Value.bool ?_; first | exact decide_eq_true (by omega) | exact decide_eq_false (by omega) | exact (decide_eq_true (by omega)).symm | exact (decide_eq_false (by omega)).symm)
    | (show Value.bool _ = Value.bool _; congr 1; first | exact decide_eq_true (by omega) | exact decide_eq_false (by omega) | exact (decide_eq_true (by omega)).symm | exact (decide_eq_false (by omega)).symm)
    | (simp [retOf]; done)
set_option maxHeartbeats 4000000 in
theorem ac_gc3 (ax ay bx by' fc : Int) (x : Bool) (hx : badW ⟨ax, ay, bx, by', fc⟩ = x) : ACalls Tryz.prog 44 [.agg #[.int .i64 ax, .int .i64 ay, .int .i64 bx, .int .i64 by', .int .i64 fc], .pointer (some ⟨0, 0, none⟩)] [some ⟨[.func (.func 38) #[] #[]], false, 1⟩] (.bool x) [none] := by
  obtain ⟨y, hy⟩ : ∃ y, (!ptB ax ay) = y := ⟨_, rfl⟩
  obtain ⟨z, hz⟩ : ∃ y, (!ptB bx by') = y := ⟨_, rfl⟩
  have H := ac_gc1 ax ay y hy
  have H2 := ac_gc1 bx by' z hz
  unfold badW at hx
  dsimp only at hx
  rw [hy, hz] at hx
  clear hy hz
  cases y
  · cases z
    · rw [Bool.false_or, Bool.false_or] at hx
      refine acalls_law Tryz.func44 rfl rfl rfl ?_
      repeat' first | intro h1 | refine st ?_ | refine st_call (H) ?_ | refine st_call (H2) ?_ | refine stm ?_ | refine Ja ?_ | refine Jb ?_ | refine Ji ?_ ?_ | refine run_nil ?_ | refine Jz ?_ | refine Jw ?_ | refine aw_ret ?_ | refine pp_ret ?_
      all_goals first
        | rfl
        | (exfalso; omega)
        | (rw [← hx]; refine congrArg Value.bool ?_; first | exact (decide_eq_true (by omega)).symm | exact (decide_eq_false (by omega)).symm | exact decide_eq_decide.2 (by omega))
        | (rw [← hx]; show Value.bool _ = Value.bool _; congr 1; first | exact (decide_eq_true (by omega)).symm | exact (decide_eq_false (by omega)).symm | exact decide_eq_decide.2 (by omega))
        | (exfalso; simp only [Bool.not_eq_true', Bool.not_eq_false', decide_eq_true_eq, decide_eq_false_iff_not, Bool.not_false, Bool.not_true] at *; omega)
        | (simp [retOf]; done)
    · rw [Bool.true_or, Bool.false_or] at hx
      subst hx
      refine acalls_law Tryz.func44 rfl rfl rfl ?_
      repeat' first | refine st ?_ | refine st_call (H) ?_ | refine st_call (H2) ?_ | refine stm ?_ | refine Ja ?_ | refine Jb ?_ | refine run_nil ?_ | refine Jz ?_ | refine Jw ?_ | refine aw_ret ?_ | refine pp_ret ?_
      all_goals first
        | rfl
        | (exfalso; omega)
        | (refine congrArg Value.bool ?_; first | exact decide_eq_true (by omega) | exact decide_eq_false (by omega) | exact (decide_eq_true (by omega)).symm | exact (decide_eq_false (by omega)).symm)
        | (show Value.bool _ = Value.bool _; congr 1; first | exact decide_eq_true (by omega) | exact decide_eq_false (by omega) | exact (decide_eq_true (by omega)).symm | exact (decide_eq_false (by omega)).symm)
        | (simp [retOf]; done)
  · rw [Bool.true_or] at hx
    subst hx
    refine acalls_law Tryz.func44 rfl rfl rfl ?_
    repeat' first | refine st ?_ | refine st_call (H) ?_ | refine stm ?_ | refine Jb ?_ | refine run_nil ?_ | refine Jz ?_ | refine Jw ?_ | refine aw_ret ?_ | refine pp_ret ?_
    all_goals first
      | rfl
      | (exfalso; omega)
      | (refine congrArg Value.bool ?_; first | exact decide_eq_true (by omega) | exact decide_eq_false (by omega) | exact (decide_eq_true (by omega)).symm | exact (decide_eq_false (by omega)).symm)
      | (show Value.bool _ = Value.bool _; congr 1; first | exact decide_eq_true (by omega) | exact decide_eq_false (by omega) | exact (decide_eq_true (by omega)).symm | exact (decide_eq_false (by omega)).symm)
      | (simp [retOf]; done)
set_option maxHeartbeats 4000000 in
theorem ac_if_P (L : List P2) (n : Nat) (hn : L.length = n) (hb : n ≤ 9000000000000000000)  (x : Int) (hx : fidx badP L = x) : ACalls Tryz.prog 71 [.slice (some ⟨0, 0, none⟩) n n, .func (.func 38) #[] #[]] [some ⟨L.flatMap ptC, false, 1⟩] (.int .i64 x) [none] := by
  refine acalls_law Tryz.func71 rfl rfl rfl ?_
  repeat' first | refine st ?_ | refine run_nil ?_ | refine Jz ?_ | refine Jw ?_ | refine aw_block ?_
  refine aw_loopg
    (S := fun y : Og => [(0, .slice (some ⟨0, 0, none⟩) n n), (1, .func (.func 38) #[] #[]), (7, .int .i64 n), (8, .int .i64 y.i)])
    (B := fun _ : Og => [some ⟨L.flatMap ptC, false, 1⟩])
    (R := fun y : Og => y.i ≤ n ∧ ∀ (j : Nat), j < y.i → ∀ q, L[j]? = some q → badP q = false)
    (μ := fun y : Og => n - y.i) ⟨0⟩ (fitsD [0]) ⟨Nat.zero_le _, fun j hj => absurd hj (Nat.not_lt_zero _)⟩ ?_
  rintro ⟨i⟩ ⟨g1, g2⟩
  dsimp only at *
  by_cases hi : i < n
  · obtain ⟨⟨x0, y0⟩, hq⟩ : ∃ q, L[i]? = some q := ⟨_, List.getElem?_eq_getElem (by omega)⟩
    obtain ⟨y, hy⟩ : ∃ y, badP ⟨x0, y0⟩ = y := ⟨_, rfl⟩
    have H := ac_gc1 x0 y0 y hy
    cases y
    · have hst := no_step (q := badP) g2 hq hy
      clear hx g2
      repeat' first | refine st (h := ok_load_rowsE (f := ptC) (cs := [.int .i64 x0, .int .i64 y0]) i (fun _ => rfl) hq rfl rfl rfl rfl (by omega)) ?_ | refine st ?_ | refine st_call (H) ?_ | refine run_nil ?_ | refine Jz ?_ | refine Jw ?_ | refine aw_block ?_ | refine Jr ?_ | refine Js ?_ | refine Jy ?_
      all_goals first | exact Exists.intro ⟨i + 1⟩ ⟨fitsD [0], ⟨hi, hst⟩, by dsimp only; omega⟩
    · obtain rfl : x = i := by rw [← hx]; exact fidx_at (q := badP) hq hy g2
      clear hx g2
      repeat' first | refine st (h := ok_load_rowsE (f := ptC) (cs := [.int .i64 x0, .int .i64 y0]) i (fun _ => rfl) hq rfl rfl rfl rfl (by omega)) ?_ | refine st ?_ | refine st_call (H) ?_ | refine run_nil ?_ | refine Jz ?_ | refine Jw ?_ | refine aw_block ?_ | refine Jq ?_ | refine Js ?_ | refine Jy ?_ | refine aw_ret ?_ | refine pp_ret ?_
      all_goals first
        | rfl
        | (exfalso; omega)
        | (refine congrArg Value.bool ?_; first | exact decide_eq_true (by omega) | exact decide_eq_false (by omega) | exact (decide_eq_true (by omega)).symm | exact (decide_eq_false (by omega)).symm)
        | (show Value.bool _ = Value.bool _; congr 1; first | exact decide_eq_true (by omega) | exact decide_eq_false (by omega) | exact (decide_eq_true (by omega)).symm | exact (decide_eq_false (by omega)).symm)
        | (simp [retOf]; done)
  · obtain rfl : i = n := by omega
    obtain rfl : x = -1 := by rw [← hx]; exact fidx_no (by rw [hn]; exact g2)
    repeat' first | refine st ?_ | refine run_nil ?_ | refine Jz ?_ | refine Jw ?_ | refine Jt ?_ | refine aw_exit ?_ | refine aw_ret ?_ | refine pp_ret ?_
    all_goals first
      | rfl
      | (exfalso; omega)
      | (refine congrArg Value.bool ?_; first | exact decide_eq_true (by omega) | exact decide_eq_false (by omega) | exact (decide_eq_true (by omega)).symm | exact (decide_eq_false (by omega)).symm)
      | (show Value.bool _ = Value.bool _; congr 1; first | exact decide_eq_true (by omega) | exact decide_eq_false (by omega) | exact (decide_eq_true (by omega)).symm | exact (decide_eq_false (by omega)).symm)
      | (simp [retOf]; done)
set_option maxHeartbeats 1000000 in
theorem ac_cf_P (L : List P2) (n : Nat) (hn : L.length = n) (hb : n ≤ 9000000000000000000)  (x : Bool) (hx : decide (fidx badP L ≠ -1) = x) : ACalls Tryz.prog 40 [.slice (some ⟨0, 0, none⟩) n n, .func (.func 38) #[] #[]] [some ⟨L.flatMap ptC, false, 1⟩] (.bool x) [none] := by
  obtain ⟨z, hz⟩ : ∃ z, fidx badP L = z := ⟨_, rfl⟩
  have H := ac_if_P L n hn hb  z hz
  have hge := (fidx_ge (q := badP) (l := L)).1
  rw [hz] at hx hge
  refine acalls_law Tryz.func40 rfl rfl rfl ?_
  repeat' first | refine st ?_ | refine stRW [0] H ?_ | refine run_nil ?_ | refine Jz ?_ | refine Jw ?_ | refine aw_ret ?_ | refine pp_ret ?_
  all_goals first | (rw [← hx]; exact congrArg Value.bool (decide_eq_decide.2 (by omega)))
set_option maxHeartbeats 4000000 in
theorem ac_if_N (L : List Int) (n : Nat) (hn : L.length = n) (hb : n ≤ 9000000000000000000)  (x : Int) (hx : fidx badN L = x) : ACalls Tryz.prog 27 [.slice (some ⟨0, 0, none⟩) n n, .func (.func 41) #[] #[]] [some ⟨List.map (Value.int .i64) L, false, 1⟩] (.int .i64 x) [none] := by
  refine acalls_law Tryz.func27 rfl rfl rfl ?_
  repeat' first | refine st ?_ | refine run_nil ?_ | refine Jz ?_ | refine Jw ?_ | refine aw_block ?_
  refine aw_loopg
    (S := fun y : Og => [(0, .slice (some ⟨0, 0, none⟩) n n), (1, .func (.func 41) #[] #[]), (7, .int .i64 n), (8, .int .i64 y.i)])
    (B := fun _ : Og => [some ⟨List.map (Value.int .i64) L, false, 1⟩])
    (R := fun y : Og => y.i ≤ n ∧ ∀ (j : Nat), j < y.i → ∀ q, L[j]? = some q → badN q = false)
    (μ := fun y : Og => n - y.i) ⟨0⟩ (fitsD [0]) ⟨Nat.zero_le _, fun j hj => absurd hj (Nat.not_lt_zero _)⟩ ?_
  rintro ⟨i⟩ ⟨g1, g2⟩
  dsimp only at *
  by_cases hi : i < n
  · obtain ⟨k0, hq⟩ : ∃ q, L[i]? = some q := ⟨_, List.getElem?_eq_getElem (by omega)⟩
    obtain ⟨y, hy⟩ : ∃ y, badN k0 = y := ⟨_, rfl⟩
    have H := ac_gc2 k0 y hy
    cases y
    · have hst := no_step (q := badN) g2 hq hy
      clear hx g2
      repeat' first | refine st (h := ok_load_mapE (f := Value.int .i64) i hq rfl rfl rfl (by omega)) ?_ | refine st ?_ | refine st_call (H) ?_ | refine run_nil ?_ | refine Jz ?_ | refine Jw ?_ | refine aw_block ?_ | refine Jr ?_ | refine Js ?_ | refine Jy ?_
      all_goals first | exact Exists.intro ⟨i + 1⟩ ⟨fitsD [0], ⟨hi, hst⟩, by dsimp only; omega⟩
    · obtain rfl : x = i := by rw [← hx]; exact fidx_at (q := badN) hq hy g2
      clear hx g2
      repeat' first | refine st (h := ok_load_mapE (f := Value.int .i64) i hq rfl rfl rfl (by omega)) ?_ | refine st ?_ | refine st_call (H) ?_ | refine run_nil ?_ | refine Jz ?_ | refine Jw ?_ | refine aw_block ?_ | refine Jq ?_ | refine Js ?_ | refine Jy ?_ | refine aw_ret ?_ | refine pp_ret ?_
      all_goals first
        | rfl
        | (exfalso; omega)
        | (refine congrArg Value.bool ?_; first | exact decide_eq_true (by omega) | exact decide_eq_false (by omega) | exact (decide_eq_true (by omega)).symm | exact (decide_eq_false (by omega)).symm)
        | (show Value.bool _ = Value.bool _; congr 1; first | exact decide_eq_true (by omega) | exact decide_eq_false (by omega) | exact (decide_eq_true (by omega)).symm | exact (decide_eq_false (by omega)).symm)
        | (simp [retOf]; done)
  · obtain rfl : i = n := by omega
    obtain rfl : x = -1 := by rw [← hx]; exact fidx_no (by rw [hn]; exact g2)
    repeat' first | refine st ?_ | refine run_nil ?_ | refine Jz ?_ | refine Jw ?_ | refine Jt ?_ | refine aw_exit ?_ | refine aw_ret ?_ | refine pp_ret ?_
    all_goals first
      | rfl
      | (exfalso; omega)
      | (refine congrArg Value.bool ?_; first | exact decide_eq_true (by omega) | exact decide_eq_false (by omega) | exact (decide_eq_true (by omega)).symm | exact (decide_eq_false (by omega)).symm)
      | (show Value.bool _ = Value.bool _; congr 1; first | exact decide_eq_true (by omega) | exact decide_eq_false (by omega) | exact (decide_eq_true (by omega)).symm | exact (decide_eq_false (by omega)).symm)
      | (simp [retOf]; done)
set_option maxHeartbeats 1000000 in
theorem ac_cf_N (L : List Int) (n : Nat) (hn : L.length = n) (hb : n ≤ 9000000000000000000)  (x : Bool) (hx : decide (fidx badN L ≠ -1) = x) : ACalls Tryz.prog 10 [.slice (some ⟨0, 0, none⟩) n n, .func (.func 41) #[] #[]] [some ⟨List.map (Value.int .i64) L, false, 1⟩] (.bool x) [none] := by
  obtain ⟨z, hz⟩ : ∃ z, fidx badN L = z := ⟨_, rfl⟩
  have H := ac_if_N L n hn hb  z hz
  have hge := (fidx_ge (q := badN) (l := L)).1
  rw [hz] at hx hge
  refine acalls_law Tryz.func10 rfl rfl rfl ?_
  repeat' first | refine st ?_ | refine stRW [0] H ?_ | refine run_nil ?_ | refine Jz ?_ | refine Jw ?_ | refine aw_ret ?_ | refine pp_ret ?_
  all_goals first | (rw [← hx]; exact congrArg Value.bool (decide_eq_decide.2 (by omega)))
set_option maxHeartbeats 4000000 in
theorem ac_if_W (L : List Wl) (n : Nat) (hn : L.length = n) (hb : n ≤ 9000000000000000000)  (x : Int) (hx : fidx badW L = x) : ACalls Tryz.prog 72 [.slice (some ⟨0, 0, none⟩) n n, .func (.func 44) #[] #[.pointer (some ⟨1, 0, none⟩)]] [some ⟨L.flatMap wlC, false, 1⟩, some ⟨[.func (.func 38) #[] #[]], false, 1⟩] (.int .i64 x) [none, none] := by
  refine acalls_law Tryz.func72 rfl rfl rfl ?_
  repeat' first | refine st ?_ | refine run_nil ?_ | refine Jz ?_ | refine Jw ?_ | refine aw_block ?_
  refine aw_loopg
    (S := fun y : Og => [(0, .slice (some ⟨0, 0, none⟩) n n), (1, .func (.func 44) #[] #[.pointer (some ⟨1, 0, none⟩)]), (7, .int .i64 n), (8, .int .i64 y.i)])
    (B := fun _ : Og => [some ⟨L.flatMap wlC, false, 1⟩, some ⟨[.func (.func 38) #[] #[]], false, 1⟩])
    (R := fun y : Og => y.i ≤ n ∧ ∀ (j : Nat), j < y.i → ∀ q, L[j]? = some q → badW q = false)
    (μ := fun y : Og => n - y.i) ⟨0⟩ (fitsD [0, 1]) ⟨Nat.zero_le _, fun j hj => absurd hj (Nat.not_lt_zero _)⟩ ?_
  rintro ⟨i⟩ ⟨g1, g2⟩
  dsimp only at *
  by_cases hi : i < n
  · obtain ⟨⟨ax, ay, bx, by', fc⟩, hq⟩ : ∃ q, L[i]? = some q := ⟨_, List.getElem?_eq_getElem (by omega)⟩
    obtain ⟨y, hy⟩ : ∃ y, badW ⟨ax, ay, bx, by', fc⟩ = y := ⟨_, rfl⟩
    have H := ac_gc3 ax ay bx by' fc y hy
    cases y
    · have hst := no_step (q := badW) g2 hq hy
      clear hx g2
      repeat' first | refine st (h := ok_load_rowsE (f := wlC) (cs := [.int .i64 ax, .int .i64 ay, .int .i64 bx, .int .i64 by', .int .i64 fc]) i (fun _ => rfl) hq rfl rfl rfl rfl (by omega)) ?_ | refine st ?_ | refine stRW [1] H ?_ | refine run_nil ?_ | refine Jz ?_ | refine Jw ?_ | refine aw_block ?_ | refine Jr ?_ | refine Js ?_ | refine Jy ?_
      all_goals first | exact Exists.intro ⟨i + 1⟩ ⟨fitsD [0, 1], ⟨hi, hst⟩, by dsimp only; omega⟩
    · obtain rfl : x = i := by rw [← hx]; exact fidx_at (q := badW) hq hy g2
      clear hx g2
      repeat' first | refine st (h := ok_load_rowsE (f := wlC) (cs := [.int .i64 ax, .int .i64 ay, .int .i64 bx, .int .i64 by', .int .i64 fc]) i (fun _ => rfl) hq rfl rfl rfl rfl (by omega)) ?_ | refine st ?_ | refine stRW [1] H ?_ | refine run_nil ?_ | refine Jz ?_ | refine Jw ?_ | refine aw_block ?_ | refine Jq ?_ | refine Js ?_ | refine Jy ?_ | refine aw_ret ?_ | refine pp_ret ?_
      all_goals first
        | rfl
        | (exfalso; omega)
        | (refine congrArg Value.bool ?_; first | exact decide_eq_true (by omega) | exact decide_eq_false (by omega) | exact (decide_eq_true (by omega)).symm | exact (decide_eq_false (by omega)).symm)
        | (show Value.bool _ = Value.bool _; congr 1; first | exact decide_eq_true (by omega) | exact decide_eq_false (by omega) | exact (decide_eq_true (by omega)).symm | exact (decide_eq_false (by omega)).symm)
        | (simp [retOf]; done)
  · obtain rfl : i = n := by omega
    obtain rfl : x = -1 := by rw [← hx]; exact fidx_no (by rw [hn]; exact g2)
    repeat' first | refine st ?_ | refine run_nil ?_ | refine Jz ?_ | refine Jw ?_ | refine Jt ?_ | refine aw_exit ?_ | refine aw_ret ?_ | refine pp_ret ?_
    all_goals first
      | rfl
      | (exfalso; omega)
      | (refine congrArg Value.bool ?_; first | exact decide_eq_true (by omega) | exact decide_eq_false (by omega) | exact (decide_eq_true (by omega)).symm | exact (decide_eq_false (by omega)).symm)
      | (show Value.bool _ = Value.bool _; congr 1; first | exact decide_eq_true (by omega) | exact decide_eq_false (by omega) | exact (decide_eq_true (by omega)).symm | exact (decide_eq_false (by omega)).symm)
      | (simp [retOf]; done)
set_option maxHeartbeats 1000000 in
theorem ac_cf_W (L : List Wl) (n : Nat) (hn : L.length = n) (hb : n ≤ 9000000000000000000)  (x : Bool) (hx : decide (fidx badW L ≠ -1) = x) : ACalls Tryz.prog 43 [.slice (some ⟨0, 0, none⟩) n n, .func (.func 44) #[] #[.pointer (some ⟨1, 0, none⟩)]] [some ⟨L.flatMap wlC, false, 1⟩, some ⟨[.func (.func 38) #[] #[]], false, 1⟩] (.bool x) [none, none] := by
  obtain ⟨z, hz⟩ : ∃ z, fidx badW L = z := ⟨_, rfl⟩
  have H := ac_if_W L n hn hb  z hz
  have hge := (fidx_ge (q := badW) (l := L)).1
  rw [hz] at hx hge
  refine acalls_law Tryz.func43 rfl rfl rfl ?_
  repeat' first | refine st ?_ | refine stRW [0, 1] H ?_ | refine run_nil ?_ | refine Jz ?_ | refine Jw ?_ | refine aw_ret ?_ | refine pp_ret ?_
  all_goals first | (rw [← hx]; exact congrArg Value.bool (decide_eq_decide.2 (by omega)))
set_option maxHeartbeats 16000000 in
theorem ac_site (N : List P2) (Pw : List Int) (W : List Wl) (n p w : Nat) (hn : N.length = n) (hp : Pw.length = p) (hw : W.length = w) (hb : n ≤ 1000000 ∧ p ≤ 1000000 ∧ w ≤ 1000000) (ex no th : Int) (x : Bool) (hx : siteB N Pw W ex no th = x) : ACalls Tryz.prog 22 [.agg #[.slice (some ⟨0, 0, none⟩) n n, .slice (some ⟨1, 0, none⟩) p p, .slice (some ⟨2, 0, none⟩) w w, .int .i64 ex, .int .i64 no, .int .i64 th]] [some ⟨N.flatMap ptC, false, 1⟩, some ⟨List.map (Value.int .i64) Pw, false, 1⟩, some ⟨W.flatMap wlC, false, 1⟩] (.int .i64 (if x then 0 else 1)) [none, none, none] := by
  obtain ⟨z1, h1⟩ : ∃ z, decide (fidx badP N ≠ -1) = z := ⟨_, rfl⟩
  obtain ⟨z2, h2⟩ : ∃ z, decide (fidx badN Pw ≠ -1) = z := ⟨_, rfl⟩
  obtain ⟨z3, h3⟩ : ∃ z, decide (fidx badW W ≠ -1) = z := ⟨_, rfl⟩
  have H1 := ac_cf_P N n hn (by omega) z1 h1
  have H2 := ac_cf_N Pw p hp (by omega) z2 h2
  have H3 := ac_cf_W W w hw (by omega) z3 h3
  unfold siteB at hx
  rw [h1, h2, h3, hn, hp, hw] at hx
  clear h1 h2 h3
  cases z1
  · cases z2
    · cases z3
      · simp only [Bool.not_false, Bool.and_true] at hx
        by_cases hnum : 2 ≤ n ∧ n ≤ 32 ∧ p = n ∧ w ≤ 32 ∧ (ex = 2 ∨ ex = 4) ∧ (1000 ≤ th ∧ th ≤ 100000) ∧ 1 ≤ no ∧ no ≤ 68719476736
        · obtain rfl : x = true := by rw [← hx]; exact decide_eq_true hnum
          clear hx
          refine acalls_law Tryz.func22 rfl rfl rfl ?_
          repeat' first | intro h1 | refine st ?_ | refine stRW [0] H1 ?_ | refine stRW [1] H2 ?_ | refine stRW [2, 4] H3 ?_ | refine st (h := ok_makeFunc (by ((repeat (apply ArgsR.cons; rfl)); exact ArgsR.nil)) (by ((repeat (apply ArgsR.cons; rfl)); exact ArgsR.nil))) ?_ | refine stm ?_ | refine Ja ?_ | refine Jb ?_ | refine Jf ?_ | refine Jh ?_ ?_ | refine run_nil ?_ | refine Jz ?_ | refine Jw ?_ | refine Jr ?_ | refine Jt ?_ | refine Jy ?_ | refine aw_ret ?_ | refine pp_ret ?_
          all_goals first
            | rfl
            | (exfalso; omega)
            | (refine congrArg Value.bool ?_; first | exact decide_eq_true (by omega) | exact decide_eq_false (by omega) | exact (decide_eq_true (by omega)).symm | exact (decide_eq_false (by omega)).symm)
            | (show Value.bool _ = Value.bool _; congr 1; first | exact decide_eq_true (by omega) | exact decide_eq_false (by omega) | exact (decide_eq_true (by omega)).symm | exact (decide_eq_false (by omega)).symm)
            | (simp [retOf]; done)
        · obtain rfl : x = false := by rw [← hx]; exact decide_eq_false hnum
          clear hx
          refine acalls_law Tryz.func22 rfl rfl rfl ?_
          repeat' first | intro h1 | refine st ?_ | refine stRW [0] H1 ?_ | refine stRW [1] H2 ?_ | refine stRW [2, 4] H3 ?_ | refine st (h := ok_makeFunc (by ((repeat (apply ArgsR.cons; rfl)); exact ArgsR.nil)) (by ((repeat (apply ArgsR.cons; rfl)); exact ArgsR.nil))) ?_ | refine stm ?_ | refine Ja ?_ | refine Jb ?_ | refine Jh ?_ ?_ | refine Ji ?_ ?_ | refine run_nil ?_ | refine Jz ?_ | refine Jw ?_ | refine Jq ?_ | refine Jr ?_ | refine Js ?_ | refine Jy ?_ | refine aw_ret ?_ | refine pp_ret ?_
          all_goals first
            | rfl
            | (exfalso; omega)
            | (refine congrArg Value.bool ?_; first | exact decide_eq_true (by omega) | exact decide_eq_false (by omega) | exact (decide_eq_true (by omega)).symm | exact (decide_eq_false (by omega)).symm)
            | (show Value.bool _ = Value.bool _; congr 1; first | exact decide_eq_true (by omega) | exact decide_eq_false (by omega) | exact (decide_eq_true (by omega)).symm | exact (decide_eq_false (by omega)).symm)
            | (simp [retOf]; done)
      · simp only [Bool.not_true, Bool.and_false] at hx
        subst hx
        refine acalls_law Tryz.func22 rfl rfl rfl ?_
        repeat' first | intro h1 | refine st ?_ | refine stRW [0] H1 ?_ | refine stRW [1] H2 ?_ | refine stRW [2, 4] H3 ?_ | refine st (h := ok_makeFunc (by ((repeat (apply ArgsR.cons; rfl)); exact ArgsR.nil)) (by ((repeat (apply ArgsR.cons; rfl)); exact ArgsR.nil))) ?_ | refine stm ?_ | refine Ja ?_ | refine Jb ?_ | refine Ji ?_ ?_ | refine run_nil ?_ | refine Jz ?_ | refine Jw ?_ | refine Jq ?_ | refine Jr ?_ | refine Jy ?_ | refine aw_ret ?_ | refine pp_ret ?_
        all_goals first
          | rfl
          | (exfalso; omega)
          | (refine congrArg Value.bool ?_; first | exact decide_eq_true (by omega) | exact decide_eq_false (by omega) | exact (decide_eq_true (by omega)).symm | exact (decide_eq_false (by omega)).symm)
          | (show Value.bool _ = Value.bool _; congr 1; first | exact decide_eq_true (by omega) | exact decide_eq_false (by omega) | exact (decide_eq_true (by omega)).symm | exact (decide_eq_false (by omega)).symm)
          | (simp [retOf]; done)
    · simp only [Bool.not_true, Bool.and_false, Bool.false_and] at hx
      subst hx
      refine acalls_law Tryz.func22 rfl rfl rfl ?_
      repeat' first | intro h1 | refine st ?_ | refine stRW [0] H1 ?_ | refine stRW [1] H2 ?_ | refine stm ?_ | refine Ja ?_ | refine Jb ?_ | refine Ji ?_ ?_ | refine run_nil ?_ | refine Jz ?_ | refine Jw ?_ | refine Jq ?_ | refine Jr ?_ | refine Jy ?_ | refine aw_ret ?_ | refine pp_ret ?_
      all_goals first
        | rfl
        | (exfalso; omega)
        | (refine congrArg Value.bool ?_; first | exact decide_eq_true (by omega) | exact decide_eq_false (by omega) | exact (decide_eq_true (by omega)).symm | exact (decide_eq_false (by omega)).symm)
        | (show Value.bool _ = Value.bool _; congr 1; first | exact decide_eq_true (by omega) | exact decide_eq_false (by omega) | exact (decide_eq_true (by omega)).symm | exact (decide_eq_false (by omega)).symm)
        | (simp [retOf]; done)
  · simp only [Bool.not_true, Bool.and_false, Bool.false_and] at hx
    subst hx
    refine acalls_law Tryz.func22 rfl rfl rfl ?_
    repeat' first | intro h1 | refine st ?_ | refine stRW [0] H1 ?_ | refine stm ?_ | refine Ja ?_ | refine Jb ?_ | refine Ji ?_ ?_ | refine run_nil ?_ | refine Jz ?_ | refine Jw ?_ | refine Jq ?_ | refine aw_ret ?_ | refine pp_ret ?_
    all_goals first
      | rfl
      | (exfalso; omega)
      | (refine congrArg Value.bool ?_; first | exact decide_eq_true (by omega) | exact decide_eq_false (by omega) | exact (decide_eq_true (by omega)).symm | exact (decide_eq_false (by omega)).symm)
      | (show Value.bool _ = Value.bool _; congr 1; first | exact decide_eq_true (by omega) | exact decide_eq_false (by omega) | exact (decide_eq_true (by omega)).symm | exact (decide_eq_false (by omega)).symm)
      | (simp [retOf]; done)
end Go.Proofs.YtdenooeaiicheaaGreat
