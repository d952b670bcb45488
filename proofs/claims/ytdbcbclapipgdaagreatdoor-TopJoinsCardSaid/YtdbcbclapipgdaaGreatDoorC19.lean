/- Join: Request and Take (both). -/
import Derived.Test.YtdbcbclapipgdaaGreatDoorVO
import Derived.Test.YtdbcbclapipgdaaGreatDoorJ
import Derived.Test.YtdbcbclapipgdaaGreatDoorC11
import Derived.Test.YtdbcbclapipgdaaGreatDoorC18
set_option linter.unusedVariables false
set_option linter.unusedSimpArgs false
namespace Go.Proofs.YtdbcbclapipgdaaGreatDoor
open Go Av
set_option maxRecDepth 20000
theorem ok_str_eqlD {P : Program} {ρ : Operand → Option Value} {m : Mem} {d : Option Tmp} {t : TypeId} {pp : String} {af : Array Edge} {g : Option (Nat × Bool)} {xt yt : TypeId} {x y : Operand} {s u : ByteArray} {c : Bool} (hx : ρ x = some (.string s)) (hy : ρ y = some (.string u)) (h : decide (s = u) = c) : OpOK P ⟨d, .binOp .eql xt x y yt, t, pp, af, g⟩ ρ m (.bool c) m := by
  subst h
  exact ok_str_eql hx hy
theorem ok_str_neqD {P : Program} {ρ : Operand → Option Value} {m : Mem} {d : Option Tmp} {t : TypeId} {pp : String} {af : Array Edge} {g : Option (Nat × Bool)} {xt yt : TypeId} {x y : Operand} {s u : ByteArray} {c : Bool} (hx : ρ x = some (.string s)) (hy : ρ y = some (.string u)) (h : decide (s = u) = c) : OpOK P ⟨d, .binOp .neq xt x y yt, t, pp, af, g⟩ ρ m (.bool (!c)) m := by
  subst h
  simpa only [decide_not] using ok_str_neq (P := P) (m := m) (d := d) (t := t) (pp := pp) (af := af) (g := g) (xt := xt) (yt := yt) hx hy
set_option maxHeartbeats 2000000 in
theorem ac_jReq1 (nm sec : ByteArray) (sj pa ep nd no tr si : Int) (slot : Int) (hx : chJ nm sec sj pa ep nd no tr si = true) (h1 : 0 ≤ slot ∧ slot ≤ 109951162) (h2 : sj = 1) (h3 : no ≠ 2147483647) : ACalls Tryz.prog 14 [.agg #[.string nm, .string sec, .int .i64 sj, .int .i64 pa, .int .i64 ep, .int .i64 nd, .int .i64 no, .int .i64 tr, .int .i64 si], .int .i64 slot] [] (.tuple #[.agg #[.string nm, .string sec, .int .i64 2, .int .i64 pa, .int .i64 ep, .int .i64 nd, .int .i64 (no + 1), .int .i64 (tr + 1), .int .i64 slot], .agg #[.string nm, .int .i64 (no + 1), .string (acS sec nm (no + 1))], .int .i64 0]) [] := by
  have HC := ac_jCheck nm sec sj pa ep nd no tr si true hx
  have HW := ac_jwithin slot 0 109951162
  obtain ⟨hn, hs, ⟨_, hno, _, htr, htr2⟩, _⟩ := chJ_t hx
  have hn := nmB_t hn
  have hs := scB_t hs
  have HD := ac_code1 sec askW nm (no + 1) (by omega) (by decide) (by omega) (by omega) (by omega)
  have e1 : cdS sec (tx1 askW nm (no + 1)) = acS sec nm (no + 1) := rfl
  try rw [e1] at HD
  obtain ⟨C, hC⟩ : ∃ C, acS sec nm (no + 1) = C := ⟨_, rfl⟩
  rw [hC] at HD ⊢
  clear hx hC e1
  refine acalls_law Tryz.func14 rfl rfl rfl ?_
  repeat' first | refine st (h := ok_not_dec2 rfl) ?_ | refine st ?_ | refine st_call (HC) ?_ | refine st_call (HW) ?_ | refine Own.soRW [3] HD ?_ | refine stm ?_ | refine run_nil ?_ | refine Own.so ?_ | refine Own.sol ?_ | refine Own.som (n := 1) ?_ | refine Own.sow ?_ | refine Own.sob ?_ | refine Own.runo_nil ?_ | refine Jz ?_ | refine Jw ?_ | refine aw_region_oC (id := 10) [0, 0, 2, 0, 8, 0, 32, 0, 128, 0, 512, 1536, 4064, 8190, 8161, 32767, 65535] 15 [[], [], [], [], [], [], [], [], [], [], [], [], [], [], [1], [], []] (by (repeat constructor)) (by kernel_rfl) (by kernel_rfl) (by kernel_rfl) (by rfl) (by rfl) ?_ | refine aw_block ?_ | refine Jr ?_ | refine Jt ?_ | refine Jy ?_ | refine aw_ret ?_ | refine pp_ret ?_
  all_goals first
    | rfl
    | (exfalso; omega)
    | (simp [retOf]; done)
    | (exfalso; simp_all; done)
    | (exfalso; simp only [Bool.not_eq_true', Bool.not_eq_false', decide_eq_true_eq, decide_eq_false_iff_not, Bool.not_false, Bool.not_true] at *; omega)
set_option maxHeartbeats 4000000 in
theorem ac_jTake0 (nm sec : ByteArray) (sj pa ep nd no tr si : Int) (anm : ByteArray) (ano ant : Int) (acd : ByteArray) (e : Int) (h : (if chJ nm sec sj pa ep nd no tr si = false then 1 else if sj ≠ 2 then 12 else if ¬ (anB anm ano ant acd = true ∧ anm = nm ∧ ano = no) then 11 else if acd ≠ nsS sec anm ano ant then 20 else 0) = e) : ACalls Tryz.prog 16 [.agg #[.string nm, .string sec, .int .i64 sj, .int .i64 pa, .int .i64 ep, .int .i64 nd, .int .i64 no, .int .i64 tr, .int .i64 si], .agg #[.string anm, .int .i64 ano, .int .i64 ant, .string acd]] [] (.tuple #[if e = 0 then (.agg #[.string nm, .string sec, .int .i64 3, .int .i64 pa, .int .i64 ep, .int .i64 ant, .int .i64 no, .int .i64 tr, .int .i64 si] : Value) else .agg #[.string ⟨#[]⟩, .string ⟨#[]⟩, .int .i64 0, .int .i64 0, .int .i64 0, .int .i64 0, .int .i64 0, .int .i64 0, .int .i64 0], .int .i64 e]) [] := by
  obtain ⟨x, hx⟩ : ∃ x, chJ nm sec sj pa ep nd no tr si = x := ⟨_, rfl⟩
  obtain ⟨y, hy⟩ : ∃ y, decide (sj = 2) = y := ⟨_, rfl⟩
  have HC := ac_jin nm sec sj pa ep nd no tr si 2 x y hx hy
  rw [hx] at h
  cases x
  · rw [if_pos rfl] at h
    subst h
    rw [if_neg (by decide)]
    clear hx
    cases y
    · have hy := of_decide_eq_false hy
      refine acalls_law Tryz.func16 rfl rfl rfl ?_
      repeat' first | refine st ?_ | refine st_call (HC) ?_ | refine stm ?_ | refine run_nil ?_ | refine Jz ?_ | refine Jw ?_ | refine Jq ?_ | refine aw_ret ?_ | refine pp_ret ?_
      all_goals first
        | rfl
        | (exfalso; omega)
        | (simp [retOf]; done)
        | (exfalso; simp_all; done)
        | (exfalso; simp only [Bool.not_eq_true', Bool.not_eq_false', decide_eq_true_eq, decide_eq_false_iff_not, Bool.not_false, Bool.not_true] at *; omega)
    · have hy := of_decide_eq_true hy
      refine acalls_law Tryz.func16 rfl rfl rfl ?_
      repeat' first | refine st ?_ | refine st_call (HC) ?_ | refine stm ?_ | refine run_nil ?_ | refine Jz ?_ | refine Jw ?_ | refine Jq ?_ | refine aw_ret ?_ | refine pp_ret ?_
      all_goals first
        | rfl
        | (exfalso; omega)
        | (simp [retOf]; done)
        | (exfalso; simp_all; done)
        | (exfalso; simp only [Bool.not_eq_true', Bool.not_eq_false', decide_eq_true_eq, decide_eq_false_iff_not, Bool.not_false, Bool.not_true] at *; omega)
  rw [if_neg (by decide)] at h
  obtain ⟨hn, hs, ⟨_, hno, _, htr, htr2⟩, _⟩ := chJ_t hx
  have hn := nmB_t hn
  have hs := scB_t hs
  clear hx
  cases y
  · have hy := of_decide_eq_false hy
    rw [if_pos hy] at h
    subst h
    rw [if_neg (by decide)]
    refine acalls_law Tryz.func16 rfl rfl rfl ?_
    repeat' first | refine st ?_ | refine st_call (HC) ?_ | refine stm ?_ | refine run_nil ?_ | refine Jz ?_ | refine Jw ?_ | refine Jq ?_ | refine aw_ret ?_ | refine pp_ret ?_
    all_goals first
      | rfl
      | (exfalso; omega)
      | (simp [retOf]; done)
      | (exfalso; simp_all; done)
      | (exfalso; simp only [Bool.not_eq_true', Bool.not_eq_false', decide_eq_true_eq, decide_eq_false_iff_not, Bool.not_false, Bool.not_true] at *; omega)
  have hy := of_decide_eq_true hy
  rw [if_neg (by omega)] at h
  obtain ⟨z, hz⟩ : ∃ z, anB anm ano ant acd = z := ⟨_, rfl⟩
  have HF := ac_ansF anm ano ant acd z hz
  rw [hz] at h
  cases z
  · rw [if_pos (by simp)] at h
    subst h
    rw [if_neg (by decide)]
    clear hz
    refine acalls_law Tryz.func16 rfl rfl rfl ?_
    repeat' first | refine st ?_ | refine st_call (HC) ?_ | refine st_call (HF) ?_ | refine stm ?_ | refine Jb ?_ | refine run_nil ?_ | refine Jz ?_ | refine Jw ?_ | refine Jq ?_ | refine Jr ?_ | refine Jy ?_ | refine aw_ret ?_ | refine pp_ret ?_
    all_goals first
      | rfl
      | (exfalso; omega)
      | (simp [retOf]; done)
      | (exfalso; simp_all; done)
      | (exfalso; simp only [Bool.not_eq_true', Bool.not_eq_false', decide_eq_true_eq, decide_eq_false_iff_not, Bool.not_false, Bool.not_true] at *; omega)
  obtain ⟨hz1, hz2⟩ := anB_t hz
  obtain ⟨hz3, hz4, hz5⟩ := akB_t hz1
  have hz6 := nmB_t hz3
  clear hz hz1 hz3
  by_cases hw0 : anm = nm
  case neg =>
    rw [if_pos (fun q => hw0 q.2.1)] at h
    have hw : decide (anm = nm) = false := decide_eq_false hw0
    subst h
    rw [if_neg (by decide)]
    refine acalls_law Tryz.func16 rfl rfl rfl ?_
    repeat' first | refine st (h := ok_str_neqD rfl rfl hw) ?_ | refine st ?_ | refine st_call (HC) ?_ | refine st_call (HF) ?_ | refine stm ?_ | refine Ja ?_ | refine Jb ?_ | refine run_nil ?_ | refine Jz ?_ | refine Jw ?_ | refine Jq ?_ | refine Jr ?_ | refine Jy ?_ | refine aw_ret ?_ | refine pp_ret ?_
    all_goals first
      | rfl
      | (exfalso; omega)
      | (simp [retOf]; done)
      | (exfalso; simp_all; done)
      | (exfalso; simp only [Bool.not_eq_true', Bool.not_eq_false', decide_eq_true_eq, decide_eq_false_iff_not, Bool.not_false, Bool.not_true] at *; omega)
  by_cases hw2 : ano = no
  case neg =>
    rw [if_pos (fun q => hw2 q.2.2)] at h
    have hw : decide (anm = nm) = true := decide_eq_true hw0
    subst h
    rw [if_neg (by decide)]
    refine acalls_law Tryz.func16 rfl rfl rfl ?_
    repeat' first | refine st (h := ok_str_neqD rfl rfl hw) ?_ | refine st ?_ | refine st_call (HC) ?_ | refine st_call (HF) ?_ | refine stm ?_ | refine Ja ?_ | refine run_nil ?_ | refine Jz ?_ | refine Jw ?_ | refine Jr ?_ | refine Js ?_ | refine Jy ?_ | refine aw_ret ?_ | refine pp_ret ?_
    all_goals first
      | rfl
      | (exfalso; omega)
      | (simp [retOf]; done)
      | (exfalso; simp_all; done)
      | (exfalso; simp only [Bool.not_eq_true', Bool.not_eq_false', decide_eq_true_eq, decide_eq_false_iff_not, Bool.not_false, Bool.not_true] at *; omega)
  rw [if_neg (fun q => q ⟨rfl, hw0, hw2⟩)] at h
  have HD := ac_code2 sec ansW anm ano ant (by omega) (by decide) (by omega) (by omega) (by omega) (by omega) (by omega)
  have e1 : cdS sec (tx2 ansW anm ano ant) = nsS sec anm ano ant := rfl
  try rw [e1] at HD
  obtain ⟨C, hC⟩ : ∃ C, nsS sec anm ano ant = C := ⟨_, rfl⟩
  rw [hC] at HD h
  clear hC e1
  have hw : decide (anm = nm) = true := decide_eq_true hw0
  by_cases hw3 : acd = C
  · have hv : decide (acd = C) = true := decide_eq_true hw3
    rw [if_neg (fun q => q hw3)] at h
    subst h
    rw [if_pos rfl]
    refine acalls_law Tryz.func16 rfl rfl rfl ?_
    repeat' first | refine st (h := ok_str_neqD rfl rfl hw) ?_ | refine sd (h := ok_str_neqD rfl rfl hv) ?_ | refine st ?_ | refine st_call (HC) ?_ | refine st_call (HF) ?_ | refine sdRW [3] HD ?_ | refine stm ?_ | refine Ja ?_ | refine run_nil ?_ | refine Own.so ?_ | refine Own.sol ?_ | refine Own.sow ?_ | refine Own.sob ?_ | refine Own.runo_nil ?_ | refine sd ?_ | refine sdl ?_ | refine sdm (n := 1) ?_ | refine rund_nil ?_ | refine Jz ?_ | refine Jw ?_ | refine Jx (id := 6) [0,1,0,4,0,16,0,64,0,256,960,2044,4095] 13 ?_ | refine aw_region_oC (id := 8) [0, 1, 0, 4, 15, 31] 4 [[], [], [], [0], [], []] (by (repeat constructor)) (by kernel_rfl) (by kernel_rfl) (by kernel_rfl) (by rfl) (by rfl) ?_ | refine Jr ?_ | refine Jt ?_ | refine Jy ?_ | refine aw_ret ?_ | refine pp_ret ?_
    all_goals first
      | rfl
      | (exfalso; omega)
      | (simp [retOf]; done)
      | (exfalso; simp_all; done)
      | (exfalso; simp only [Bool.not_eq_true', Bool.not_eq_false', decide_eq_true_eq, decide_eq_false_iff_not, Bool.not_false, Bool.not_true] at *; omega)
  · have hv : decide (acd = C) = false := decide_eq_false hw3
    rw [if_pos hw3] at h
    subst h
    rw [if_neg (by decide)]
    refine acalls_law Tryz.func16 rfl rfl rfl ?_
    repeat' first | refine st (h := ok_str_neqD rfl rfl hw) ?_ | refine sd (h := ok_str_neqD rfl rfl hv) ?_ | refine st ?_ | refine st_call (HC) ?_ | refine st_call (HF) ?_ | refine sdRW [3] HD ?_ | refine stm ?_ | refine Ja ?_ | refine run_nil ?_ | refine sd ?_ | refine sdl ?_ | refine sdm (n := 1) ?_ | refine rund_nil ?_ | refine Jz ?_ | refine Jw ?_ | refine Jx (id := 6) [0,1,0,4,0,16,0,64,0,256,960,2044,4095] 13 ?_ | refine Jq ?_ | refine Jr ?_ | refine Jt ?_ | refine Jy ?_ | refine aw_ret ?_ | refine pp_ret ?_
    all_goals first
      | rfl
      | (exfalso; omega)
      | (simp [retOf]; done)
      | (exfalso; simp_all; done)
      | (exfalso; simp only [Bool.not_eq_true', Bool.not_eq_false', decide_eq_true_eq, decide_eq_false_iff_not, Bool.not_false, Bool.not_true] at *; omega)
end Go.Proofs.YtdbcbclapipgdaaGreatDoor
