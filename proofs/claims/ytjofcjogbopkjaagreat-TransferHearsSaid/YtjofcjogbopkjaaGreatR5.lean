/- Transfer, the reference: Valid (packets). Transfer, the reference: Valid (other kinds). Transfer, the reference: Valid. -/
import Derived.Test.YtjofcjogbopkjaaGreatVL
import Derived.Test.YtjofcjogbopkjaaGreatR4
import Derived.Test.YtjofcjogbopkjaaGreatTP
import Derived.Test.YtjofcjogbopkjaaGreatJ
import Derived.Test.YtjofcjogbopkjaaGreatR3
set_option linter.unusedVariables false
set_option linter.unusedSimpArgs false
namespace Go.Proofs.YtjofcjogbopkjaaGreat
open Go Av
set_option maxRecDepth 20000
set_option maxHeartbeats 16000000 in
theorem ac_rVal4 (ver : Int) (id : ByteArray) (page pkt : Int) (bits : Nat) (data : ByteArray) (x : Bool) (hx : valU 4 ver id page pkt bits data = x) : ACalls Tryz.prog 17 [.agg #[.int .i64 4, .int .i64 ver, .string id, .int .i64 page, .int .i64 pkt, .int .u64 bits, .string data]] [] (.int .i64 (if x then 0 else 1)) [] := by
  by_cases v1 : 1 ≤ ver
  case neg =>
    obtain rfl : x = false := by rw [← hx]; exact val_ver2 (fun h => v1 h.1)
    clear hx
    refine acalls_pure Tryz.func17 rfl rfl rfl ?_
    repeat' first | intro h1 | intro h1 | refine st ?_ | refine stm ?_ | refine Ja ?_ | refine Jb ?_ | refine Je ?_ | refine Jh ?_ ?_ | refine run_nil ?_ | refine Own.so ?_ | refine Own.sol ?_ | refine Own.sow ?_ | refine Own.sob ?_ | refine Own.runo_nil ?_ | refine Jz ?_ | refine Jw ?_ | refine aw_region_oC (id := 16) [0, 1, 0, 4, 3, 19, 63, 127] 6 [[], [], [], [], [], [1], [], []] (by (repeat constructor)) (by kernel_rfl) (by kernel_rfl) (by kernel_rfl) (by rfl) (by rfl) ?_ | refine aw_block ?_ | refine Jq ?_ | refine Jr ?_ | refine aw_ret ?_ | refine pp_ret ?_
    all_goals first
      | rfl
      | (exfalso; omega)
      | (refine congrArg Value.bool ?_; first | exact decide_eq_true (by omega) | exact decide_eq_false (by omega) | exact (decide_eq_true (by omega)).symm | exact (decide_eq_false (by omega)).symm)
      | (show Value.bool _ = Value.bool _; congr 1; first | exact decide_eq_true (by omega) | exact decide_eq_false (by omega) | exact (decide_eq_true (by omega)).symm | exact (decide_eq_false (by omega)).symm)
      | (simp [retOf]; done)
  by_cases v2 : ver ≤ 65535
  case neg =>
    obtain rfl : x = false := by rw [← hx]; exact val_ver2 (fun h => v2 h.2.1)
    clear hx
    refine acalls_pure Tryz.func17 rfl rfl rfl ?_
    repeat' first | intro h1 | intro h1 | refine st ?_ | refine stm ?_ | refine Ja ?_ | refine Jb ?_ | refine Jd ?_ | refine Je ?_ | refine Jh ?_ ?_ | refine run_nil ?_ | refine Own.so ?_ | refine Own.sol ?_ | refine Own.sow ?_ | refine Own.sob ?_ | refine Own.runo_nil ?_ | refine Jz ?_ | refine Jw ?_ | refine aw_region_oC (id := 16) [0, 1, 0, 4, 3, 19, 63, 127] 6 [[], [], [], [], [], [1], [], []] (by (repeat constructor)) (by kernel_rfl) (by kernel_rfl) (by kernel_rfl) (by rfl) (by rfl) ?_ | refine aw_block ?_ | refine Jq ?_ | refine Jr ?_ | refine aw_ret ?_ | refine pp_ret ?_
    all_goals first
      | rfl
      | (exfalso; omega)
      | (refine congrArg Value.bool ?_; first | exact decide_eq_true (by omega) | exact decide_eq_false (by omega) | exact (decide_eq_true (by omega)).symm | exact (decide_eq_false (by omega)).symm)
      | (show Value.bool _ = Value.bool _; congr 1; first | exact decide_eq_true (by omega) | exact decide_eq_false (by omega) | exact (decide_eq_true (by omega)).symm | exact (decide_eq_false (by omega)).symm)
      | (simp [retOf]; done)
  by_cases v3 : id.size = 32
  case neg =>
    obtain rfl : x = false := by rw [← hx]; exact val_ver2 (fun h => v3 h.2.2)
    clear hx
    refine acalls_pure Tryz.func17 rfl rfl rfl ?_
    repeat' first | intro h1 | intro h1 | refine st ?_ | refine stm ?_ | refine Ja ?_ | refine Jb ?_ | refine Jd ?_ | refine Je ?_ | refine Jh ?_ ?_ | refine run_nil ?_ | refine Own.so ?_ | refine Own.sol ?_ | refine Own.sow ?_ | refine Own.sob ?_ | refine Own.runo_nil ?_ | refine Jz ?_ | refine Jw ?_ | refine aw_region_oC (id := 16) [0, 1, 0, 4, 3, 19, 63, 127] 6 [[], [], [], [], [], [1], [], []] (by (repeat constructor)) (by kernel_rfl) (by kernel_rfl) (by kernel_rfl) (by rfl) (by rfl) ?_ | refine aw_block ?_ | refine Jq ?_ | refine Jr ?_ | refine aw_ret ?_ | refine pp_ret ?_
    all_goals first
      | rfl
      | (exfalso; omega)
      | (refine congrArg Value.bool ?_; first | exact decide_eq_true (by omega) | exact decide_eq_false (by omega) | exact (decide_eq_true (by omega)).symm | exact (decide_eq_false (by omega)).symm)
      | (show Value.bool _ = Value.bool _; congr 1; first | exact decide_eq_true (by omega) | exact decide_eq_false (by omega) | exact (decide_eq_true (by omega)).symm | exact (decide_eq_false (by omega)).symm)
      | (simp [retOf]; done)
  unfold valU at hx
  rw [decide_eq_true ⟨v1, v2, v3⟩, Bool.true_and] at hx
  rw [if_neg (by decide), if_neg (by decide), if_neg (by decide), if_pos rfl] at hx
  by_cases w0 : 0 ≤ page
  case neg =>
    obtain rfl : x = false := by rw [← hx]; exact decide_eq_false (by omega)
    clear hx
    refine acalls_pure Tryz.func17 rfl rfl rfl ?_
    repeat' first | refine st ?_ | refine stm ?_ | refine Ja ?_ | refine Jb ?_ | refine Jd ?_ | refine Je ?_ | refine run_nil ?_ | refine Own.so ?_ | refine Own.sol ?_ | refine Own.sow ?_ | refine Own.sob ?_ | refine Own.runo_nil ?_ | refine Jz ?_ | refine Jw ?_ | refine aw_region_oC (id := 16) [0, 1, 0, 4, 3, 19, 63, 127] 6 [[], [], [], [], [], [1], [], []] (by (repeat constructor)) (by kernel_rfl) (by kernel_rfl) (by kernel_rfl) (by rfl) (by rfl) ?_ | refine aw_block ?_ | refine Jq ?_ | refine Jr ?_ | refine aw_ret ?_ | refine pp_ret ?_
    all_goals first
      | rfl
      | (exfalso; omega)
      | (refine congrArg Value.bool ?_; first | exact decide_eq_true (by omega) | exact decide_eq_false (by omega) | exact (decide_eq_true (by omega)).symm | exact (decide_eq_false (by omega)).symm)
      | (show Value.bool _ = Value.bool _; congr 1; first | exact decide_eq_true (by omega) | exact decide_eq_false (by omega) | exact (decide_eq_true (by omega)).symm | exact (decide_eq_false (by omega)).symm)
      | (simp [retOf]; done)
  by_cases w1 : page < 64
  case neg =>
    obtain rfl : x = false := by rw [← hx]; exact decide_eq_false (by omega)
    clear hx
    refine acalls_pure Tryz.func17 rfl rfl rfl ?_
    repeat' first | refine st ?_ | refine stm ?_ | refine Ja ?_ | refine Jb ?_ | refine Jd ?_ | refine Je ?_ | refine run_nil ?_ | refine Own.so ?_ | refine Own.sol ?_ | refine Own.sow ?_ | refine Own.sob ?_ | refine Own.runo_nil ?_ | refine Jz ?_ | refine Jw ?_ | refine aw_region_oC (id := 16) [0, 1, 0, 4, 3, 19, 63, 127] 6 [[], [], [], [], [], [1], [], []] (by (repeat constructor)) (by kernel_rfl) (by kernel_rfl) (by kernel_rfl) (by rfl) (by rfl) ?_ | refine aw_block ?_ | refine Jq ?_ | refine Jr ?_ | refine aw_ret ?_ | refine pp_ret ?_
    all_goals first
      | rfl
      | (exfalso; omega)
      | (refine congrArg Value.bool ?_; first | exact decide_eq_true (by omega) | exact decide_eq_false (by omega) | exact (decide_eq_true (by omega)).symm | exact (decide_eq_false (by omega)).symm)
      | (show Value.bool _ = Value.bool _; congr 1; first | exact decide_eq_true (by omega) | exact decide_eq_false (by omega) | exact (decide_eq_true (by omega)).symm | exact (decide_eq_false (by omega)).symm)
      | (simp [retOf]; done)
  by_cases w2 : 0 ≤ pkt
  case neg =>
    obtain rfl : x = false := by rw [← hx]; exact decide_eq_false (by omega)
    clear hx
    refine acalls_pure Tryz.func17 rfl rfl rfl ?_
    repeat' first | refine st ?_ | refine stm ?_ | refine Ja ?_ | refine Jb ?_ | refine Jd ?_ | refine Je ?_ | refine run_nil ?_ | refine Own.so ?_ | refine Own.sol ?_ | refine Own.sow ?_ | refine Own.sob ?_ | refine Own.runo_nil ?_ | refine Jz ?_ | refine Jw ?_ | refine aw_region_oC (id := 16) [0, 1, 0, 4, 3, 19, 63, 127] 6 [[], [], [], [], [], [1], [], []] (by (repeat constructor)) (by kernel_rfl) (by kernel_rfl) (by kernel_rfl) (by rfl) (by rfl) ?_ | refine aw_block ?_ | refine Jq ?_ | refine Jr ?_ | refine aw_ret ?_ | refine pp_ret ?_
    all_goals first
      | rfl
      | (exfalso; omega)
      | (refine congrArg Value.bool ?_; first | exact decide_eq_true (by omega) | exact decide_eq_false (by omega) | exact (decide_eq_true (by omega)).symm | exact (decide_eq_false (by omega)).symm)
      | (show Value.bool _ = Value.bool _; congr 1; first | exact decide_eq_true (by omega) | exact decide_eq_false (by omega) | exact (decide_eq_true (by omega)).symm | exact (decide_eq_false (by omega)).symm)
      | (simp [retOf]; done)
  by_cases w3 : pkt < 64
  case neg =>
    obtain rfl : x = false := by rw [← hx]; exact decide_eq_false (by omega)
    clear hx
    refine acalls_pure Tryz.func17 rfl rfl rfl ?_
    repeat' first | refine st ?_ | refine stm ?_ | refine Ja ?_ | refine Jb ?_ | refine Jd ?_ | refine Je ?_ | refine run_nil ?_ | refine Own.so ?_ | refine Own.sol ?_ | refine Own.sow ?_ | refine Own.sob ?_ | refine Own.runo_nil ?_ | refine Jz ?_ | refine Jw ?_ | refine aw_region_oC (id := 16) [0, 1, 0, 4, 3, 19, 63, 127] 6 [[], [], [], [], [], [1], [], []] (by (repeat constructor)) (by kernel_rfl) (by kernel_rfl) (by kernel_rfl) (by rfl) (by rfl) ?_ | refine aw_block ?_ | refine Jq ?_ | refine Jr ?_ | refine aw_ret ?_ | refine pp_ret ?_
    all_goals first
      | rfl
      | (exfalso; omega)
      | (refine congrArg Value.bool ?_; first | exact decide_eq_true (by omega) | exact decide_eq_false (by omega) | exact (decide_eq_true (by omega)).symm | exact (decide_eq_false (by omega)).symm)
      | (show Value.bool _ = Value.bool _; congr 1; first | exact decide_eq_true (by omega) | exact decide_eq_false (by omega) | exact (decide_eq_true (by omega)).symm | exact (decide_eq_false (by omega)).symm)
      | (simp [retOf]; done)
  by_cases w4 : 1 ≤ data.size
  case neg =>
    obtain rfl : x = false := by rw [← hx]; exact decide_eq_false (by omega)
    clear hx
    refine acalls_pure Tryz.func17 rfl rfl rfl ?_
    repeat' first | refine st ?_ | refine stm ?_ | refine Ja ?_ | refine Jb ?_ | refine Jd ?_ | refine Je ?_ | refine run_nil ?_ | refine Own.so ?_ | refine Own.sol ?_ | refine Own.sow ?_ | refine Own.sob ?_ | refine Own.runo_nil ?_ | refine Jz ?_ | refine Jw ?_ | refine aw_region_oC (id := 16) [0, 1, 0, 4, 3, 19, 63, 127] 6 [[], [], [], [], [], [1], [], []] (by (repeat constructor)) (by kernel_rfl) (by kernel_rfl) (by kernel_rfl) (by rfl) (by rfl) ?_ | refine aw_block ?_ | refine Jq ?_ | refine Jr ?_ | refine aw_ret ?_ | refine pp_ret ?_
    all_goals first
      | rfl
      | (exfalso; omega)
      | (refine congrArg Value.bool ?_; first | exact decide_eq_true (by omega) | exact decide_eq_false (by omega) | exact (decide_eq_true (by omega)).symm | exact (decide_eq_false (by omega)).symm)
      | (show Value.bool _ = Value.bool _; congr 1; first | exact decide_eq_true (by omega) | exact decide_eq_false (by omega) | exact (decide_eq_true (by omega)).symm | exact (decide_eq_false (by omega)).symm)
      | (simp [retOf]; done)
  by_cases w5 : data.size ≤ 96
  case neg =>
    obtain rfl : x = false := by rw [← hx]; exact decide_eq_false (by omega)
    clear hx
    refine acalls_pure Tryz.func17 rfl rfl rfl ?_
    repeat' first | intro h1 | intro h1 | refine st (h := ok_not_dec2 rfl) ?_ | refine st ?_ | refine stm ?_ | refine Ja ?_ | refine Jb ?_ | refine Jd ?_ | refine Ji ?_ ?_ | refine run_nil ?_ | refine Own.so ?_ | refine Own.sol ?_ | refine Own.sow ?_ | refine Own.sob ?_ | refine Own.runo_nil ?_ | refine Jz ?_ | refine Jw ?_ | refine aw_region_oC (id := 16) [0, 1, 0, 4, 3, 19, 63, 127] 6 [[], [], [], [], [], [1], [], []] (by (repeat constructor)) (by kernel_rfl) (by kernel_rfl) (by kernel_rfl) (by rfl) (by rfl) ?_ | refine aw_block ?_ | refine Jq ?_ | refine Jr ?_ | refine Js ?_ | refine aw_ret ?_ | refine pp_ret ?_
    all_goals first
      | rfl
      | (exfalso; omega)
      | (refine congrArg Value.bool ?_; first | exact decide_eq_true (by omega) | exact decide_eq_false (by omega) | exact (decide_eq_true (by omega)).symm | exact (decide_eq_false (by omega)).symm)
      | (show Value.bool _ = Value.bool _; congr 1; first | exact decide_eq_true (by omega) | exact decide_eq_false (by omega) | exact (decide_eq_true (by omega)).symm | exact (decide_eq_false (by omega)).symm)
      | (simp [retOf]; done)
  obtain ⟨c, hc⟩ : ∃ c, decide ((4 : Int) = 4 ∧ ver = ver ∧ id = id ∧ page = page ∧ pkt = pkt ∧ (bits : Int) = 0 ∧ data = data ∧ True) = c := ⟨_, rfl⟩
  have hcd : c = true ↔ (bits = 0) := by rw [← hc, decide_eq_true_eq]; exact ⟨fun h => by have := h.2.2.2.2.2.1; omega, fun h => ⟨rfl, rfl, rfl, rfl, rfl, by omega, rfl, trivial⟩⟩
  cases c
  · obtain rfl : x = false := by rw [← hx]; exact decide_eq_false fun h => absurd (hcd.2 (by omega)) (by decide)
    clear hx hcd
    refine acalls_pure Tryz.func17 rfl rfl rfl ?_
    repeat' first | refine st (h := ok_not_dec2 rfl) ?_ | refine st (h := ok_agg_neqE ((4 : Int) = 4 ∧ ver = ver ∧ id = id ∧ page = page ∧ pkt = pkt ∧ (bits : Int) = 0 ∧ data = data ∧ True) rfl rfl (by ((repeat constructor); first | done | fail)) hc) ?_ | refine st ?_ | refine stm ?_ | refine Ja ?_ | refine Jd ?_ | refine Jf ?_ | refine run_nil ?_ | refine Own.so ?_ | refine Own.sol ?_ | refine Own.sow ?_ | refine Own.sob ?_ | refine Own.runo_nil ?_ | refine Jz ?_ | refine Jw ?_ | refine aw_region_oC (id := 16) [0, 1, 0, 4, 3, 19, 63, 127] 6 [[], [], [], [], [], [1], [], []] (by (repeat constructor)) (by kernel_rfl) (by kernel_rfl) (by kernel_rfl) (by rfl) (by rfl) ?_ | refine aw_block ?_ | refine Jq ?_ | refine Jr ?_ | refine aw_ret ?_ | refine pp_ret ?_
    all_goals first
      | rfl
      | (exfalso; omega)
      | (refine congrArg Value.bool ?_; first | exact decide_eq_true (by omega) | exact decide_eq_false (by omega) | exact (decide_eq_true (by omega)).symm | exact (decide_eq_false (by omega)).symm)
      | (show Value.bool _ = Value.bool _; congr 1; first | exact decide_eq_true (by omega) | exact decide_eq_false (by omega) | exact (decide_eq_true (by omega)).symm | exact (decide_eq_false (by omega)).symm)
      | (simp [retOf]; done)
  · have hq := hcd.1 rfl
    obtain rfl : x = true := by rw [← hx]; exact decide_eq_true (by omega)
    clear hcd hx hq
    refine acalls_pure Tryz.func17 rfl rfl rfl ?_
    repeat' first | refine st (h := ok_not_dec2 rfl) ?_ | refine st (h := ok_agg_neqE ((4 : Int) = 4 ∧ ver = ver ∧ id = id ∧ page = page ∧ pkt = pkt ∧ (bits : Int) = 0 ∧ data = data ∧ True) rfl rfl (by ((repeat constructor); first | done | fail)) hc) ?_ | refine st ?_ | refine stm ?_ | refine Ja ?_ | refine Jd ?_ | refine Jf ?_ | refine run_nil ?_ | refine Own.so ?_ | refine Own.sol ?_ | refine Own.sow ?_ | refine Own.sob ?_ | refine Own.runo_nil ?_ | refine Jz ?_ | refine Jw ?_ | refine aw_region_oC (id := 16) [0, 1, 0, 4, 3, 19, 63, 127] 6 [[], [], [], [], [], [1], [], []] (by (repeat constructor)) (by kernel_rfl) (by kernel_rfl) (by kernel_rfl) (by rfl) (by rfl) ?_ | refine aw_block ?_ | refine Jq ?_ | refine Jr ?_ | refine Jy ?_ | refine aw_ret ?_ | refine pp_ret ?_
    all_goals first
      | rfl
      | (exfalso; omega)
      | (refine congrArg Value.bool ?_; first | exact decide_eq_true (by omega) | exact decide_eq_false (by omega) | exact (decide_eq_true (by omega)).symm | exact (decide_eq_false (by omega)).symm)
      | (show Value.bool _ = Value.bool _; congr 1; first | exact decide_eq_true (by omega) | exact decide_eq_false (by omega) | exact (decide_eq_true (by omega)).symm | exact (decide_eq_false (by omega)).symm)
      | (simp [retOf]; done)
end Go.Proofs.YtjofcjogbopkjaaGreat
namespace Go.Proofs.YtjofcjogbopkjaaGreat
open Go Av
set_option maxRecDepth 20000
set_option maxHeartbeats 16000000 in
theorem ac_rVal0 (kind ver : Int) (id : ByteArray) (page pkt : Int) (bits : Nat) (data : ByteArray) (h1 : kind ≠ 1) (h2 : kind ≠ 2) (h3 : kind ≠ 3) (h4 : kind ≠ 4) : ACalls Tryz.prog 17 [.agg #[.int .i64 kind, .int .i64 ver, .string id, .int .i64 page, .int .i64 pkt, .int .u64 bits, .string data]] [] (.int .i64 1) [] := by
  refine acalls_pure Tryz.func17 rfl rfl rfl ?_
  repeat' first | intro h1 | intro h1 | refine st ?_ | refine stm ?_ | refine Ja ?_ | refine Jb ?_ | refine Jh ?_ ?_ | refine run_nil ?_ | refine Jz ?_ | refine Jw ?_ | refine aw_block ?_ | refine Jq ?_ | refine Jt ?_ | refine aw_ret ?_ | refine pp_ret ?_
  all_goals first
    | rfl
    | (exfalso; omega)
    | (refine congrArg Value.bool ?_; first | exact decide_eq_true (by omega) | exact decide_eq_false (by omega) | exact (decide_eq_true (by omega)).symm | exact (decide_eq_false (by omega)).symm)
    | (show Value.bool _ = Value.bool _; congr 1; first | exact decide_eq_true (by omega) | exact decide_eq_false (by omega) | exact (decide_eq_true (by omega)).symm | exact (decide_eq_false (by omega)).symm)
    | (simp [retOf]; done)
end Go.Proofs.YtjofcjogbopkjaaGreat
namespace Go.Proofs.YtjofcjogbopkjaaGreat
open Go Av
set_option maxRecDepth 20000
theorem ac_rValid (kind ver : Int) (id : ByteArray) (page pkt : Int) (bits : Nat) (data : ByteArray) (x : Bool) (hx : valU kind ver id page pkt bits data = x) : ACalls Tryz.prog 17 [.agg #[.int .i64 kind, .int .i64 ver, .string id, .int .i64 page, .int .i64 pkt, .int .u64 bits, .string data]] [] (.int .i64 (if x then 0 else 1)) [] := by
  by_cases h1 : kind = 1
  · subst h1; exact ac_rVal1 ver id page pkt bits data x hx
  by_cases h2 : kind = 2
  · subst h2; exact ac_rVal2 ver id page pkt bits data x hx
  by_cases h3 : kind = 3
  · subst h3; exact ac_rVal3 ver id page pkt bits data x hx
  by_cases h4 : kind = 4
  · subst h4; exact ac_rVal4 ver id page pkt bits data x hx
  obtain rfl : x = false := by
    rw [← hx]
    unfold valU
    rw [if_neg h1, if_neg h2, if_neg h3, if_neg h4, Bool.and_false]
  exact ac_rVal0 kind ver id page pkt bits data h1 h2 h3 h4
end Go.Proofs.YtjofcjogbopkjaaGreat
