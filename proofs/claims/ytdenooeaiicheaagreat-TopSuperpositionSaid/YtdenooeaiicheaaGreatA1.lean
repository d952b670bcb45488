/- Geometry: points, turns, walls that are crossed. -/
import Derived.Test.YtdenooeaiicheaaGreatVL
import Derived.Test.YtdenooeaiicheaaGreatJ
import Derived.Test.YtdenooeaiicheaaGreatH2
set_option linter.unusedVariables false
set_option linter.unusedSimpArgs false
namespace Go.Proofs.YtdenooeaiicheaaGreat
open Go Av
set_option maxRecDepth 20000
theorem ok_agg_eqlD {P : Program} {ρ : Operand → Option Value} {m : Mem} {d : Option Tmp} {t : TypeId} {pp : String} {af : Array Edge} {g : Option (Nat × Bool)} {xt yt : TypeId} {x y : Operand} {xs ys : Array Value} {fs : List (TypeId × Nat)} (p : Prop) [Decidable p] {c : Bool} [hE : TyE P xt] [hF : TyF P xt fs] (hx : ρ x = some (.agg xs)) (hy : ρ y = some (.agg ys)) (h : EqFs P (EqL P 3) xs.toList ys.toList fs p) (hc : decide p = c) :
    OpOK P ⟨d, .binOp .eql xt x y yt, t, pp, af, g⟩ ρ m (.bool c) m := by
  have := ok_agg_eql (m := m) (d := d) (t := t) (pp := pp) (af := af) (g := g) (xt := xt) (yt := yt) hx hy h
  have e : @decide p (Classical.propDecidable p) = c := by rw [← hc]; by_cases h : p <;> simp [h]
  rw [← e]
  exact this
theorem mul_bd {a b M : Int} (ha : -M ≤ a ∧ a ≤ M) (hb : -M ≤ b ∧ b ≤ M) : -(M * M) ≤ a * b ∧ a * b ≤ M * M := by
  have h : (a * b).natAbs ≤ M.natAbs * M.natAbs := by rw [Int.natAbs_mul]; exact Nat.mul_le_mul (by omega) (by omega)
  have e : ((M.natAbs * M.natAbs : Nat) : Int) = M * M := by
    rw [Int.natCast_mul]
    have : ((M.natAbs : Nat) : Int) = M := by omega
    rw [this]
  omega
def cmpI (a b : Int) : Int := if a < b then -1 else if b < a then 1 else 0
theorem cmp_bd (a b : Int) : -1 ≤ cmpI a b ∧ cmpI a b ≤ 1 := by unfold cmpI; split <;> (try split) <;> omega
def sqI (ax ay bx by' : Int) : Int := (ax - bx) * (ax - bx) + (ay - by') * (ay - by')
def turnI (ax ay bx by' cx cy : Int) : Int := cmpI ((bx - ax) * (cy - ay)) ((by' - ay) * (cx - ax))
def withinB (px py ax ay bx by' : Int) : Bool := decide (min ax bx ≤ px ∧ px ≤ max ax bx ∧ min ay by' ≤ py ∧ py ≤ max ay by')
def onB (px py ax ay bx by' : Int) : Bool := decide (px = ax ∧ py = ay ∧ True) || (decide (px = bx ∧ py = by' ∧ True) || (decide (turnI ax ay bx by' px py = 0) && withinB px py ax ay bx by'))
def crB (ax ay bx by' ux uy vx vy : Int) : Bool := (onB ux uy ax ay bx by' || (onB vx vy ax ay bx by' || (onB ax ay ux uy vx vy || onB bx by' ux uy vx vy))) || (decide (turnI ax ay bx by' ux uy * turnI ax ay bx by' vx vy < 0) && decide (turnI ux uy vx vy ax ay * turnI ux uy vx vy bx by' < 0))
def ptB (x y : Int) : Bool := decide (0 ≤ min x y ∧ max x y ≤ 10000)
def powB (n : Int) : Bool := decide (0 ≤ n ∧ n ≤ 68719476736)
def condB (t n : Int) : Bool := decide (1000 ≤ t ∧ t ≤ 100000 ∧ 1 ≤ n ∧ n ≤ 68719476736)
def chnB (c : Int) : Bool := decide (0 ≤ c ∧ c < 16)
def nodB (a : Int) : Bool := decide (0 ≤ a ∧ a < 32)
def itvB (a b : Int) : Bool := decide (0 ≤ a ∧ a ≤ b ∧ b ≤ 1099511627776)
def ovB (af at' bf bt : Int) : Bool := decide (max af bf < min at' bt)
set_option maxHeartbeats 4000000 in
theorem ac_isNaN (x : Int)  : ACalls Tryz.prog 143 [.int .i64 x] [] (.bool false) [] := by
  refine acalls_pure Tryz.func143 rfl rfl rfl ?_
  repeat' first | refine st ?_ | refine run_nil ?_ | refine Jz ?_ | refine Jw ?_ | refine aw_ret ?_ | refine pp_ret ?_
  all_goals first
    | rfl
    | (exfalso; omega)
    | (refine congrArg Value.bool ?_; first | exact decide_eq_true (by omega) | exact decide_eq_false (by omega) | exact (decide_eq_true (by omega)).symm | exact (decide_eq_false (by omega)).symm)
    | (show Value.bool _ = Value.bool _; congr 1; first | exact decide_eq_true (by omega) | exact decide_eq_false (by omega) | exact (decide_eq_true (by omega)).symm | exact (decide_eq_false (by omega)).symm)
    | (simp [retOf]; done)
set_option maxHeartbeats 4000000 in
theorem ac_cmp (x y t : Int) (ht : cmpI x y = t) : ACalls Tryz.prog 142 [.int .i64 x, .int .i64 y] [] (.int .i64 t) [] := by
  have H := fun x => ac_isNaN x
  have ht2 : (x < y ∧ t = -1) ∨ (y < x ∧ t = 1) ∨ (x = y ∧ t = 0) := by
    unfold cmpI at ht
    split at ht
    · omega
    · split at ht <;> omega
  clear ht
  refine acalls_pure Tryz.func142 rfl rfl rfl ?_
  repeat' first | intro h1 | refine st ?_ | refine st_call (H _) ?_ | refine run_nil ?_ | refine Jz ?_ | refine Jw ?_ | refine Jr ?_ | refine Ju ?_ ?_ | refine Jy ?_ | refine aw_ret ?_ | refine pp_ret ?_
  all_goals first | (obtain rfl : t = -1 := by omega); rfl | (obtain rfl : t = 1 := by omega); rfl | (obtain rfl : t = 0 := by omega); rfl
set_option maxHeartbeats 4000000 in
theorem ac_sq (ax ay bx by' s : Int) (hb : (0 ≤ ax ∧ ax ≤ 10000) ∧ (0 ≤ ay ∧ ay ≤ 10000) ∧ (0 ≤ bx ∧ bx ≤ 10000) ∧ (0 ≤ by' ∧ by' ≤ 10000)) (hs : sqI ax ay bx by' = s) : ACalls Tryz.prog 135 [.agg #[.int .i64 ax, .int .i64 ay], .agg #[.int .i64 bx, .int .i64 by']] [] (.int .i64 s) [] := by
  unfold sqI at hs
  obtain ⟨p, hp⟩ : ∃ p, (ax - bx) * (ax - bx) = p := ⟨_, rfl⟩
  obtain ⟨q, hq⟩ : ∃ p, (ay - by') * (ay - by') = p := ⟨_, rfl⟩
  have h1 := mul_bd (a := ax - bx) (b := ax - bx) (M := 10000) (by omega) (by omega)
  have h2 := mul_bd (a := ay - by') (b := ay - by') (M := 10000) (by omega) (by omega)
  rw [hp] at h1 hs
  rw [hq] at h2 hs
  subst hs
  refine acalls_pure Tryz.func135 rfl rfl rfl ?_
  repeat' first | refine st (v := .int .i64 p) (h := by (rw [← hp]; exact ok_mul64 rfl rfl (by omega))) ?_ | refine st (v := .int .i64 q) (h := by (rw [← hq]; exact ok_mul64 rfl rfl (by omega))) ?_ | refine st ?_ | refine stm ?_ | refine run_nil ?_ | refine sd ?_ | refine sdl ?_ | refine rund_nil ?_ | refine Jz ?_ | refine Jw ?_ | refine Jx (id := 1) [0,1,0,4,15,0,32,0,128,480,31,2047] 12 ?_ | refine aw_ret ?_ | refine pp_ret ?_
  all_goals first
    | rfl
    | (exfalso; omega)
    | (refine congrArg Value.bool ?_; first | exact decide_eq_true (by omega) | exact decide_eq_false (by omega) | exact (decide_eq_true (by omega)).symm | exact (decide_eq_false (by omega)).symm)
    | (show Value.bool _ = Value.bool _; congr 1; first | exact decide_eq_true (by omega) | exact decide_eq_false (by omega) | exact (decide_eq_true (by omega)).symm | exact (decide_eq_false (by omega)).symm)
    | (simp [retOf]; done)
set_option maxHeartbeats 4000000 in
theorem ac_turn (ax ay bx by' cx cy t : Int) (hb : (0 ≤ ax ∧ ax ≤ 10000) ∧ (0 ≤ ay ∧ ay ≤ 10000) ∧ (0 ≤ bx ∧ bx ≤ 10000) ∧ (0 ≤ by' ∧ by' ≤ 10000) ∧ (0 ≤ cx ∧ cx ≤ 10000) ∧ (0 ≤ cy ∧ cy ≤ 10000)) (ht : turnI ax ay bx by' cx cy = t) : ACalls Tryz.prog 140 [.agg #[.int .i64 ax, .int .i64 ay], .agg #[.int .i64 bx, .int .i64 by'], .agg #[.int .i64 cx, .int .i64 cy]] [] (.int .i64 t) [] := by
  unfold turnI at ht
  obtain ⟨p, hp⟩ : ∃ p, (bx - ax) * (cy - ay) = p := ⟨_, rfl⟩
  obtain ⟨q, hq⟩ : ∃ p, (by' - ay) * (cx - ax) = p := ⟨_, rfl⟩
  have h1 := mul_bd (a := bx - ax) (b := cy - ay) (M := 10000) (by omega) (by omega)
  have h2 := mul_bd (a := by' - ay) (b := cx - ax) (M := 10000) (by omega) (by omega)
  rw [hp] at h1 ht
  rw [hq] at h2 ht
  have H := ac_cmp p q t ht
  clear ht
  refine acalls_pure Tryz.func140 rfl rfl rfl ?_
  repeat' first | refine st (v := .int .i64 p) (h := by (rw [← hp]; exact ok_mul64 rfl rfl (by omega))) ?_ | refine st (v := .int .i64 q) (h := by (rw [← hq]; exact ok_mul64 rfl rfl (by omega))) ?_ | refine st ?_ | refine st_call (H) ?_ | refine stm ?_ | refine run_nil ?_ | refine Jz ?_ | refine Jw ?_ | refine aw_ret ?_ | refine pp_ret ?_
  all_goals first
    | rfl
    | (exfalso; omega)
    | (refine congrArg Value.bool ?_; first | exact decide_eq_true (by omega) | exact decide_eq_false (by omega) | exact (decide_eq_true (by omega)).symm | exact (decide_eq_false (by omega)).symm)
    | (show Value.bool _ = Value.bool _; congr 1; first | exact decide_eq_true (by omega) | exact decide_eq_false (by omega) | exact (decide_eq_true (by omega)).symm | exact (decide_eq_false (by omega)).symm)
    | (simp [retOf]; done)
set_option maxHeartbeats 4000000 in
theorem ac_within (px py ax ay bx by' : Int) (x : Bool) (hx : withinB px py ax ay bx by' = x) : ACalls Tryz.prog 141 [.agg #[.int .i64 px, .int .i64 py], .agg #[.int .i64 ax, .int .i64 ay], .agg #[.int .i64 bx, .int .i64 by']] [] (.bool x) [] := by
  unfold withinB at hx
  refine acalls_pure Tryz.func141 rfl rfl rfl ?_
  repeat' first | intro h1 | refine st ?_ | refine stm ?_ | refine Ja ?_ | refine Jb ?_ | refine Jh ?_ ?_ | refine run_nil ?_ | refine Jz ?_ | refine Jw ?_ | refine aw_ret ?_ | refine pp_ret ?_
  all_goals first
    | rfl
    | (exfalso; omega)
    | (rw [← hx]; refine congrArg Value.bool ?_; first | exact (decide_eq_true (by omega)).symm | exact (decide_eq_false (by omega)).symm | exact decide_eq_decide.2 (by omega))
    | (rw [← hx]; show Value.bool _ = Value.bool _; congr 1; first | exact (decide_eq_true (by omega)).symm | exact (decide_eq_false (by omega)).symm | exact decide_eq_decide.2 (by omega))
    | (exfalso; simp only [Bool.not_eq_true', Bool.not_eq_false', decide_eq_true_eq, decide_eq_false_iff_not, Bool.not_false, Bool.not_true] at *; omega)
    | (simp [retOf]; done)
set_option maxHeartbeats 8000000 in
theorem ac_on (px py ax ay bx by' : Int) (x : Bool) (hb : (0 ≤ px ∧ px ≤ 10000) ∧ (0 ≤ py ∧ py ≤ 10000) ∧ (0 ≤ ax ∧ ax ≤ 10000) ∧ (0 ≤ ay ∧ ay ≤ 10000) ∧ (0 ≤ bx ∧ bx ≤ 10000) ∧ (0 ≤ by' ∧ by' ≤ 10000)) (hx : onB px py ax ay bx by' = x) : ACalls Tryz.prog 139 [.agg #[.int .i64 px, .int .i64 py], .agg #[.int .i64 ax, .int .i64 ay], .agg #[.int .i64 bx, .int .i64 by']] [] (.bool x) [] := by
  unfold onB at hx
  obtain ⟨c1, h1⟩ : ∃ c, decide (px = ax ∧ py = ay ∧ True) = c := ⟨_, rfl⟩
  obtain ⟨c2, h2⟩ : ∃ c, decide (px = bx ∧ py = by' ∧ True) = c := ⟨_, rfl⟩
  obtain ⟨t, ht⟩ : ∃ t, turnI ax ay bx by' px py = t := ⟨_, rfl⟩
  obtain ⟨w, hw⟩ : ∃ w, withinB px py ax ay bx by' = w := ⟨_, rfl⟩
  have H1 := ac_turn ax ay bx by' px py t (by omega) ht
  have H2 := ac_within px py ax ay bx by' w hw
  rw [h1, h2, ht, hw] at hx
  clear ht hw hb
  cases c1
  · cases c2
    · by_cases h0 : t = 0
      · subst h0
        cases w <;> simp only [decide_true, Bool.true_and, Bool.false_or] at hx <;> subst hx
        all_goals refine acalls_pure Tryz.func139 rfl rfl rfl ?_
        repeat' first | refine st (h := ok_agg_eqlD (px = ax ∧ py = ay ∧ True) rfl rfl (by ((repeat constructor); first | done | fail)) h1) ?_ | refine st (h := ok_agg_eqlD (px = bx ∧ py = by' ∧ True) rfl rfl (by ((repeat constructor); first | done | fail)) h2) ?_ | refine st ?_ | refine st_call (H1) ?_ | refine st_call (H2) ?_ | refine stm ?_ | refine Ja ?_ | refine run_nil ?_ | refine Jz ?_ | refine Jw ?_ | refine aw_ret ?_ | refine pp_ret ?_
        all_goals first
          | rfl
          | (exfalso; omega)
          | (refine congrArg Value.bool ?_; first | exact decide_eq_true (by omega) | exact decide_eq_false (by omega) | exact (decide_eq_true (by omega)).symm | exact (decide_eq_false (by omega)).symm)
          | (show Value.bool _ = Value.bool _; congr 1; first | exact decide_eq_true (by omega) | exact decide_eq_false (by omega) | exact (decide_eq_true (by omega)).symm | exact (decide_eq_false (by omega)).symm)
          | (simp [retOf]; done)
      · rw [decide_eq_false h0] at hx
        simp only [Bool.false_and, Bool.false_or] at hx
        subst hx
        refine acalls_pure Tryz.func139 rfl rfl rfl ?_
        repeat' first | refine st (h := ok_agg_eqlD (px = ax ∧ py = ay ∧ True) rfl rfl (by ((repeat constructor); first | done | fail)) h1) ?_ | refine st (h := ok_agg_eqlD (px = bx ∧ py = by' ∧ True) rfl rfl (by ((repeat constructor); first | done | fail)) h2) ?_ | refine st ?_ | refine st_call (H1) ?_ | refine stm ?_ | refine Ja ?_ | refine Jb ?_ | refine Je ?_ | refine run_nil ?_ | refine Jz ?_ | refine Jw ?_ | refine aw_ret ?_ | refine pp_ret ?_
        all_goals first
          | rfl
          | (exfalso; omega)
          | (refine congrArg Value.bool ?_; first | exact decide_eq_true (by omega) | exact decide_eq_false (by omega) | exact (decide_eq_true (by omega)).symm | exact (decide_eq_false (by omega)).symm)
          | (show Value.bool _ = Value.bool _; congr 1; first | exact decide_eq_true (by omega) | exact decide_eq_false (by omega) | exact (decide_eq_true (by omega)).symm | exact (decide_eq_false (by omega)).symm)
          | (simp [retOf]; done)
    · simp only [Bool.true_or, Bool.or_true] at hx
      subst hx
      refine acalls_pure Tryz.func139 rfl rfl rfl ?_
      repeat' first | refine st (h := ok_agg_eqlD (px = ax ∧ py = ay ∧ True) rfl rfl (by ((repeat constructor); first | done | fail)) h1) ?_ | refine st (h := ok_agg_eqlD (px = bx ∧ py = by' ∧ True) rfl rfl (by ((repeat constructor); first | done | fail)) h2) ?_ | refine st ?_ | refine stm ?_ | refine Ja ?_ | refine Jb ?_ | refine Jc ?_ | refine run_nil ?_ | refine Jz ?_ | refine Jw ?_ | refine aw_ret ?_ | refine pp_ret ?_
      all_goals first
        | rfl
        | (exfalso; omega)
        | (refine congrArg Value.bool ?_; first | exact decide_eq_true (by omega) | exact decide_eq_false (by omega) | exact (decide_eq_true (by omega)).symm | exact (decide_eq_false (by omega)).symm)
        | (show Value.bool _ = Value.bool _; congr 1; first | exact decide_eq_true (by omega) | exact decide_eq_false (by omega) | exact (decide_eq_true (by omega)).symm | exact (decide_eq_false (by omega)).symm)
        | (simp [retOf]; done)
  · simp only [Bool.true_or] at hx
    subst hx
    refine acalls_pure Tryz.func139 rfl rfl rfl ?_
    repeat' first | refine st (h := ok_agg_eqlD (px = ax ∧ py = ay ∧ True) rfl rfl (by ((repeat constructor); first | done | fail)) h1) ?_ | refine st ?_ | refine stm ?_ | refine Jb ?_ | refine Jc ?_ | refine run_nil ?_ | refine Jz ?_ | refine Jw ?_ | refine aw_ret ?_ | refine pp_ret ?_
    all_goals first
      | rfl
      | (exfalso; omega)
      | (refine congrArg Value.bool ?_; first | exact decide_eq_true (by omega) | exact decide_eq_false (by omega) | exact (decide_eq_true (by omega)).symm | exact (decide_eq_false (by omega)).symm)
      | (show Value.bool _ = Value.bool _; congr 1; first | exact decide_eq_true (by omega) | exact decide_eq_false (by omega) | exact (decide_eq_true (by omega)).symm | exact (decide_eq_false (by omega)).symm)
      | (simp [retOf]; done)
set_option maxHeartbeats 16000000 in
theorem ac_crosses (ax ay bx by' ux uy vx vy fc : Int) (x : Bool) (hb : (0 ≤ ax ∧ ax ≤ 10000) ∧ (0 ≤ ay ∧ ay ≤ 10000) ∧ (0 ≤ bx ∧ bx ≤ 10000) ∧ (0 ≤ by' ∧ by' ≤ 10000) ∧ (0 ≤ ux ∧ ux ≤ 10000) ∧ (0 ≤ uy ∧ uy ≤ 10000) ∧ (0 ≤ vx ∧ vx ≤ 10000) ∧ (0 ≤ vy ∧ vy ≤ 10000)) (hx : crB ax ay bx by' ux uy vx vy = x) : ACalls Tryz.prog 138 [.agg #[.int .i64 ax, .int .i64 ay], .agg #[.int .i64 bx, .int .i64 by'], .agg #[.int .i64 ux, .int .i64 uy, .int .i64 vx, .int .i64 vy, .int .i64 fc]] [] (.bool x) [] := by
  obtain ⟨o1, k1⟩ : ∃ c, onB ux uy ax ay bx by' = c := ⟨_, rfl⟩
  have O1 := ac_on ux uy ax ay bx by' o1 (by omega) k1
  obtain ⟨o2, k2⟩ : ∃ c, onB vx vy ax ay bx by' = c := ⟨_, rfl⟩
  have O2 := ac_on vx vy ax ay bx by' o2 (by omega) k2
  obtain ⟨o3, k3⟩ : ∃ c, onB ax ay ux uy vx vy = c := ⟨_, rfl⟩
  have O3 := ac_on ax ay ux uy vx vy o3 (by omega) k3
  obtain ⟨o4, k4⟩ : ∃ c, onB bx by' ux uy vx vy = c := ⟨_, rfl⟩
  have O4 := ac_on bx by' ux uy vx vy o4 (by omega) k4
  obtain ⟨t1, r1⟩ : ∃ t, turnI ax ay bx by' ux uy = t := ⟨_, rfl⟩
  have T1 := ac_turn ax ay bx by' ux uy t1 (by omega) r1
  have e1 := cmp_bd ((bx - ax) * (uy - ay)) ((by' - ay) * (ux - ax))
  rw [show cmpI ((bx - ax) * (uy - ay)) ((by' - ay) * (ux - ax)) = t1 from r1] at e1
  obtain ⟨t2, r2⟩ : ∃ t, turnI ax ay bx by' vx vy = t := ⟨_, rfl⟩
  have T2 := ac_turn ax ay bx by' vx vy t2 (by omega) r2
  have e2 := cmp_bd ((bx - ax) * (vy - ay)) ((by' - ay) * (vx - ax))
  rw [show cmpI ((bx - ax) * (vy - ay)) ((by' - ay) * (vx - ax)) = t2 from r2] at e2
  obtain ⟨t3, r3⟩ : ∃ t, turnI ux uy vx vy ax ay = t := ⟨_, rfl⟩
  have T3 := ac_turn ux uy vx vy ax ay t3 (by omega) r3
  have e3 := cmp_bd ((vx - ux) * (ay - uy)) ((vy - uy) * (ax - ux))
  rw [show cmpI ((vx - ux) * (ay - uy)) ((vy - uy) * (ax - ux)) = t3 from r3] at e3
  obtain ⟨t4, r4⟩ : ∃ t, turnI ux uy vx vy bx by' = t := ⟨_, rfl⟩
  have T4 := ac_turn ux uy vx vy bx by' t4 (by omega) r4
  have e4 := cmp_bd ((vx - ux) * (by' - uy)) ((vy - uy) * (bx - ux))
  rw [show cmpI ((vx - ux) * (by' - uy)) ((vy - uy) * (bx - ux)) = t4 from r4] at e4
  unfold crB at hx
  rw [k1, k2, k3, k4, r1, r2, r3, r4] at hx
  clear k1 k2 k3 k4 r1 r2 r3 r4 hb
  obtain ⟨p, hp⟩ : ∃ p, t1 * t2 = p := ⟨_, rfl⟩
  obtain ⟨q, hq⟩ : ∃ p, t3 * t4 = p := ⟨_, rfl⟩
  have h1 := mul_bd (a := t1) (b := t2) (M := 1) (by omega) (by omega)
  have h2 := mul_bd (a := t3) (b := t4) (M := 1) (by omega) (by omega)
  rw [hp] at h1 hx
  rw [hq] at h2 hx
  by_cases ho : (o1 || (o2 || (o3 || o4))) = true
  · rw [ho, Bool.true_or] at hx
    subst hx
    cases o1
    · cases o2
      · cases o3
        · cases o4
          · exact absurd ho (by decide)
          · clear ho
            refine acalls_pure Tryz.func138 rfl rfl rfl ?_
            repeat' first | refine st ?_ | refine st_call (O1) ?_ | refine st_call (O2) ?_ | refine st_call (O3) ?_ | refine st_call (O4) ?_ | refine stm ?_ | refine Ja ?_ | refine run_nil ?_ | refine Jz ?_ | refine Jw ?_ | refine Jq ?_ | refine aw_ret ?_ | refine pp_ret ?_
            all_goals first
              | rfl
              | (exfalso; omega)
              | (refine congrArg Value.bool ?_; first | exact decide_eq_true (by omega) | exact decide_eq_false (by omega) | exact (decide_eq_true (by omega)).symm | exact (decide_eq_false (by omega)).symm)
              | (show Value.bool _ = Value.bool _; congr 1; first | exact decide_eq_true (by omega) | exact decide_eq_false (by omega) | exact (decide_eq_true (by omega)).symm | exact (decide_eq_false (by omega)).symm)
              | (simp [retOf]; done)
        · clear ho
          refine acalls_pure Tryz.func138 rfl rfl rfl ?_
          repeat' first | refine st ?_ | refine st_call (O1) ?_ | refine st_call (O2) ?_ | refine st_call (O3) ?_ | refine stm ?_ | refine Ja ?_ | refine Jb ?_ | refine run_nil ?_ | refine Jz ?_ | refine Jw ?_ | refine Jq ?_ | refine aw_ret ?_ | refine pp_ret ?_
          all_goals first
            | rfl
            | (exfalso; omega)
            | (refine congrArg Value.bool ?_; first | exact decide_eq_true (by omega) | exact decide_eq_false (by omega) | exact (decide_eq_true (by omega)).symm | exact (decide_eq_false (by omega)).symm)
            | (show Value.bool _ = Value.bool _; congr 1; first | exact decide_eq_true (by omega) | exact decide_eq_false (by omega) | exact (decide_eq_true (by omega)).symm | exact (decide_eq_false (by omega)).symm)
            | (simp [retOf]; done)
      · clear ho
        refine acalls_pure Tryz.func138 rfl rfl rfl ?_
        repeat' first | refine st ?_ | refine st_call (O1) ?_ | refine st_call (O2) ?_ | refine stm ?_ | refine Ja ?_ | refine Jb ?_ | refine run_nil ?_ | refine Jz ?_ | refine Jw ?_ | refine Jq ?_ | refine aw_ret ?_ | refine pp_ret ?_
        all_goals first
          | rfl
          | (exfalso; omega)
          | (refine congrArg Value.bool ?_; first | exact decide_eq_true (by omega) | exact decide_eq_false (by omega) | exact (decide_eq_true (by omega)).symm | exact (decide_eq_false (by omega)).symm)
          | (show Value.bool _ = Value.bool _; congr 1; first | exact decide_eq_true (by omega) | exact decide_eq_false (by omega) | exact (decide_eq_true (by omega)).symm | exact (decide_eq_false (by omega)).symm)
          | (simp [retOf]; done)
    · clear ho
      refine acalls_pure Tryz.func138 rfl rfl rfl ?_
      repeat' first | refine st ?_ | refine st_call (O1) ?_ | refine stm ?_ | refine Jb ?_ | refine run_nil ?_ | refine Jz ?_ | refine Jw ?_ | refine Jq ?_ | refine aw_ret ?_ | refine pp_ret ?_
      all_goals first
        | rfl
        | (exfalso; omega)
        | (refine congrArg Value.bool ?_; first | exact decide_eq_true (by omega) | exact decide_eq_false (by omega) | exact (decide_eq_true (by omega)).symm | exact (decide_eq_false (by omega)).symm)
        | (show Value.bool _ = Value.bool _; congr 1; first | exact decide_eq_true (by omega) | exact decide_eq_false (by omega) | exact (decide_eq_true (by omega)).symm | exact (decide_eq_false (by omega)).symm)
        | (simp [retOf]; done)
  · simp only [Bool.or_eq_true, not_or, Bool.not_eq_true] at ho
    obtain ⟨rfl, rfl, rfl, rfl⟩ := ho
    simp only [Bool.false_or, Bool.or_false] at hx
    by_cases hp0 : p < 0
    · rw [decide_eq_true hp0, Bool.true_and] at hx
      by_cases hq0 : q < 0
      · obtain rfl : x = true := by rw [← hx]; exact decide_eq_true hq0
        clear hx
        refine acalls_pure Tryz.func138 rfl rfl rfl ?_
        repeat' first | intro h1 | refine sd (v := .int .i64 p) (h := by (rw [← hp]; exact ok_mul64 rfl rfl (by omega))) ?_ | refine sd (v := .int .i64 q) (h := by (rw [← hq]; exact ok_mul64 rfl rfl (by omega))) ?_ | refine st ?_ | refine st_call (O1) ?_ | refine st_call (O2) ?_ | refine st_call (O3) ?_ | refine st_call (O4) ?_ | refine sd_call (T1) ?_ | refine sd_call (T2) ?_ | refine sd_call (T3) ?_ | refine sd_call (T4) ?_ | refine stm ?_ | refine Ja ?_ | refine run_nil ?_ | refine sd ?_ | refine sdl ?_ | refine Jk ?_ | refine Jl ?_ | refine Jn ?_ ?_ | refine rund_nil ?_ | refine Jz ?_ | refine Jw ?_ | refine Jx (id := 3) [0,0,0,4,15,0,0,0,128,511,1023,2047,4095,8191,16383,8191,40959,8191,262143,8191,532479,8191,2105343,8191,16777215,33554431,67108863,134217727,268435455] 29 ?_ | refine Jr ?_ | refine Jy ?_ | refine aw_ret ?_ | refine pp_ret ?_
        all_goals first
          | rfl
          | (exfalso; omega)
          | (refine congrArg Value.bool ?_; first | exact decide_eq_true (by omega) | exact decide_eq_false (by omega) | exact (decide_eq_true (by omega)).symm | exact (decide_eq_false (by omega)).symm)
          | (show Value.bool _ = Value.bool _; congr 1; first | exact decide_eq_true (by omega) | exact decide_eq_false (by omega) | exact (decide_eq_true (by omega)).symm | exact (decide_eq_false (by omega)).symm)
          | (simp [retOf]; done)
      · obtain rfl : x = false := by rw [← hx]; exact decide_eq_false hq0
        clear hx
        refine acalls_pure Tryz.func138 rfl rfl rfl ?_
        repeat' first | intro h1 | refine sd (v := .int .i64 p) (h := by (rw [← hp]; exact ok_mul64 rfl rfl (by omega))) ?_ | refine sd (v := .int .i64 q) (h := by (rw [← hq]; exact ok_mul64 rfl rfl (by omega))) ?_ | refine st ?_ | refine st_call (O1) ?_ | refine st_call (O2) ?_ | refine st_call (O3) ?_ | refine st_call (O4) ?_ | refine sd_call (T1) ?_ | refine sd_call (T2) ?_ | refine sd_call (T3) ?_ | refine sd_call (T4) ?_ | refine stm ?_ | refine Ja ?_ | refine run_nil ?_ | refine sd ?_ | refine sdl ?_ | refine Jk ?_ | refine Jl ?_ | refine Jn ?_ ?_ | refine rund_nil ?_ | refine Jz ?_ | refine Jw ?_ | refine Jx (id := 3) [0,0,0,4,15,0,0,0,128,511,1023,2047,4095,8191,16383,8191,40959,8191,262143,8191,532479,8191,2105343,8191,16777215,33554431,67108863,134217727,268435455] 29 ?_ | refine Jr ?_ | refine Jy ?_ | refine aw_ret ?_ | refine pp_ret ?_
        all_goals first
          | rfl
          | (exfalso; omega)
          | (refine congrArg Value.bool ?_; first | exact decide_eq_true (by omega) | exact decide_eq_false (by omega) | exact (decide_eq_true (by omega)).symm | exact (decide_eq_false (by omega)).symm)
          | (show Value.bool _ = Value.bool _; congr 1; first | exact decide_eq_true (by omega) | exact decide_eq_false (by omega) | exact (decide_eq_true (by omega)).symm | exact (decide_eq_false (by omega)).symm)
          | (simp [retOf]; done)
    · obtain rfl : x = false := by rw [← hx, decide_eq_false hp0]; rfl
      clear hx
      refine acalls_pure Tryz.func138 rfl rfl rfl ?_
      repeat' first | intro h1 | refine sd (v := .int .i64 p) (h := by (rw [← hp]; exact ok_mul64 rfl rfl (by omega))) ?_ | refine sd (v := .int .i64 q) (h := by (rw [← hq]; exact ok_mul64 rfl rfl (by omega))) ?_ | refine st ?_ | refine st_call (O1) ?_ | refine st_call (O2) ?_ | refine st_call (O3) ?_ | refine st_call (O4) ?_ | refine sd_call (T1) ?_ | refine sd_call (T2) ?_ | refine sd_call (T3) ?_ | refine sd_call (T4) ?_ | refine stm ?_ | refine Ja ?_ | refine run_nil ?_ | refine sd ?_ | refine sdl ?_ | refine Jk ?_ | refine Jl ?_ | refine Jn ?_ ?_ | refine rund_nil ?_ | refine Jz ?_ | refine Jw ?_ | refine Jx (id := 3) [0,0,0,4,15,0,0,0,128,511,1023,2047,4095,8191,16383,8191,40959,8191,262143,8191,532479,8191,2105343,8191,16777215,33554431,67108863,134217727,268435455] 29 ?_ | refine Jr ?_ | refine Jy ?_ | refine aw_ret ?_ | refine pp_ret ?_
      all_goals first
        | rfl
        | (exfalso; omega)
        | (refine congrArg Value.bool ?_; first | exact decide_eq_true (by omega) | exact decide_eq_false (by omega) | exact (decide_eq_true (by omega)).symm | exact (decide_eq_false (by omega)).symm)
        | (show Value.bool _ = Value.bool _; congr 1; first | exact decide_eq_true (by omega) | exact decide_eq_false (by omega) | exact (decide_eq_true (by omega)).symm | exact (decide_eq_false (by omega)).symm)
        | (simp [retOf]; done)
end Go.Proofs.YtdenooeaiicheaaGreat
