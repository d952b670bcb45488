/- TopJoins: the example. -/
import Derived.Test.YtdbcbclapipgdaaGreatDoorVO
import Derived.Test.YtdbcbclapipgdaaGreatDoorJ
import Derived.Test.YtdbcbclapipgdaaGreatDoorC19
import Derived.Test.YtdbcbclapipgdaaGreatDoorC24
import Derived.Test.YtdbcbclapipgdaaGreatDoorC29
set_option linter.unusedVariables false
set_option linter.unusedSimpArgs false
namespace Go.Proofs.YtdbcbclapipgdaaGreatDoor
open Go Av
set_option maxRecDepth 20000
theorem tj_is0 : isC 3 0 (-1) 0 0 0 0 0 0 0 1 = true := by kernel_rfl
theorem tj_is4 : isC 3 0 (-1) 0 0 0 0 0 4 0 1 = true := by kernel_rfl
theorem tj_op0 : opF ⟨3, 0, -1, 0, 0, 0, 0, 0, 0, 0, 1, opD⟩ = true := by
  unfold opF isF
  dsimp only
  rw [tj_is0, opD_read]
  rfl
theorem tj_op4 : opF ⟨3, 0, -1, 0, 0, 0, 0, 0, 4, 0, 1, opD⟩ = true := by
  unfold opF isF
  dsimp only
  rw [tj_is4, opD_read]
  rfl
theorem tj_hr4 : hrB [⟨3, 0, -1, 0, 0, 0, 0, 0, 4, 0, 1, opD⟩] 1 = 0 := hrB_first (i := 0) (f := ⟨3, 0, -1, 0, 0, 0, 0, 0, 4, 0, 1, opD⟩) rfl tj_op4 (by decide)
theorem tj_hr0 : hrB [⟨0, 0, 0, 0, 0, 0, 0, 0, 0, 0, 0, ⟨#[]⟩⟩, ⟨3, 0, -1, 0, 0, 0, 0, 0, 0, 0, 1, opD⟩] 2 = 1 := by
  have h0 : opF ⟨0, 0, 0, 0, 0, 0, 0, 0, 0, 0, 0, ⟨#[]⟩⟩ = false := by kernel_rfl
  have h1 : hrB [⟨0, 0, 0, 0, 0, 0, 0, 0, 0, 0, 0, ⟨#[]⟩⟩, ⟨3, 0, -1, 0, 0, 0, 0, 0, 0, 0, 1, opD⟩] 1 = hrB [⟨0, 0, 0, 0, 0, 0, 0, 0, 0, 0, 0, ⟨#[]⟩⟩, ⟨3, 0, -1, 0, 0, 0, 0, 0, 0, 0, 1, opD⟩] 0 := hrB_no (i := 0) (f := ⟨0, 0, 0, 0, 0, 0, 0, 0, 0, 0, 0, ⟨#[]⟩⟩) rfl h0
  exact hrB_first (i := 1) (f := ⟨3, 0, -1, 0, 0, 0, 0, 0, 0, 0, 1, opD⟩) rfl tj_op0 (by rw [h1]; decide)
theorem ok_str_neqT {P : Program} {ρ : Operand → Option Value} {m : Mem} {d : Option Tmp} {t : TypeId} {pp : String} {af : Array Edge} {g : Option (Nat × Bool)} {xt yt : TypeId} {x y : Operand} {s u : ByteArray} (hx : ρ x = some (.string s)) (hy : ρ y = some (.string u)) (h : s ≠ u) : OpOK P ⟨d, .binOp .neq xt x y yt, t, pp, af, g⟩ ρ m (.bool true) m := by
  have := ok_str_neqD (P := P) (m := m) (d := d) (t := t) (pp := pp) (af := af) (g := g) (xt := xt) (yt := yt) hx hy (decide_eq_false h)
  exact this
set_option maxHeartbeats 16000000 in
theorem ac_tworks : ACalls Tryz.prog 49 [] [] (.bool true) [] := by
  have H1 := ac_kstart0
  have H2 := tj_ann4
  have H3 := tj_dec4
  have H4 : ACalls Tryz.prog 31 [.string ⟨#[112, 117, 109, 112]⟩, .string ⟨#[115]⟩] [] (.tuple #[.agg #[.string ⟨#[112, 117, 109, 112]⟩, .string ⟨#[115]⟩, .int .i64 0, .int .i64 (-1), .int .i64 0, .int .i64 (-1), .int .i64 0, .int .i64 0, .int .i64 0], .int .i64 0]) [] := by
    have h := ac_jStart ⟨#[112, 117, 109, 112]⟩ ⟨#[115]⟩
    rw [pu_nm, show scB ⟨#[115]⟩ = true by kernel_rfl] at h
    exact h
  have H5 : ACalls Tryz.prog 33 [.agg #[.string ⟨#[112, 117, 109, 112]⟩, .string ⟨#[115]⟩, .int .i64 0, .int .i64 (-1), .int .i64 0, .int .i64 (-1), .int .i64 0, .int .i64 0, .int .i64 0], .slice (some ⟨0, 0, none⟩) 1 1] [some ⟨[.int .i64 3, .int .i64 0, .int .i64 (-1), .int .i64 0, .int .i64 0, .int .i64 0, .int .i64 0, .int .i64 0, .int .i64 4, .int .i64 0, .int .i64 1, .string opD], false, 12⟩] (.tuple #[.agg #[.string ⟨#[112, 117, 109, 112]⟩, .string ⟨#[115]⟩, .int .i64 1, .int .i64 0, .int .i64 1, .int .i64 (-1), .int .i64 0, .int .i64 0, .int .i64 0], .int .i64 0]) [none] := ac_jHear ⟨#[112, 117, 109, 112]⟩ ⟨#[115]⟩ 0 (-1) 0 (-1) 0 0 0 [⟨3, 0, -1, 0, 0, 0, 0, 0, 4, 0, 1, opD⟩] 1 rfl (by decide) (fun f hf => by
    rw [List.mem_singleton] at hf
    subst hf
    exact opD_size) 0 (by rw [pu_ch _ _ _ _ _ _ _ (by kernel_rfl), tj_hr4]; rfl) 0 1 (fun f hf => by
    rw [tj_hr4] at hf
    cases hf
    exact ⟨rfl, rfl⟩)
  have H6 : ACalls Tryz.prog 14 [.agg #[.string ⟨#[112, 117, 109, 112]⟩, .string ⟨#[115]⟩, .int .i64 1, .int .i64 0, .int .i64 1, .int .i64 (-1), .int .i64 0, .int .i64 0, .int .i64 0], .int .i64 5] [] (.tuple #[.agg #[.string ⟨#[112, 117, 109, 112]⟩, .string ⟨#[115]⟩, .int .i64 2, .int .i64 0, .int .i64 1, .int .i64 (-1), .int .i64 1, .int .i64 1, .int .i64 5], .agg #[.string ⟨#[112, 117, 109, 112]⟩, .int .i64 1, .string (acS ⟨#[115]⟩ ⟨#[112, 117, 109, 112]⟩ 1)], .int .i64 0]) [] := ac_jReq1 ⟨#[112, 117, 109, 112]⟩ ⟨#[115]⟩ 1 0 1 (-1) 0 0 0 5 (pu_ch _ _ _ _ _ _ _ (by kernel_rfl)) (by decide) rfl (by decide)
  have H7 := ac_jEA1 ⟨#[112, 117, 109, 112]⟩ (acS ⟨#[115]⟩ ⟨#[112, 117, 109, 112]⟩ 1) 1 pu_ak
  have hne : pkB (joB ⟨#[112, 117, 109, 112]⟩ 1 false 0 (acS ⟨#[115]⟩ ⟨#[112, 117, 109, 112]⟩ 1)) ≠ ⟨#[]⟩ := fun h => by
    have h1 := pkB_size (joB ⟨#[112, 117, 109, 112]⟩ 1 false 0 (acS ⟨#[115]⟩ ⟨#[112, 117, 109, 112]⟩ 1))
    rw [h] at h1
    have h2 : (⟨#[]⟩ : ByteArray).size = 0 := rfl
    rw [h2] at h1
    unfold joB at h1
    simp only [List.length_append] at h1
    have h3 : (bitsOf 31 1).length = 31 := by kernel_rfl
    omega
  generalize pkB (joB ⟨#[112, 117, 109, 112]⟩ 1 false 0 (acS ⟨#[115]⟩ ⟨#[112, 117, 109, 112]⟩ 1)) = S at H7 hne
  generalize acS ⟨#[115]⟩ ⟨#[112, 117, 109, 112]⟩ 1 = C1 at H6 H7
  generalize tjT 4 = T at H2 H3
  generalize opD = D at H3 H5
  refine acalls_law Tryz.func49 rfl rfl rfl ?_
  repeat' first | refine st (h := ok_str_neqT rfl rfl hne) ?_ | refine st ?_ | refine st_call (H1) ?_ | refine st_call (H2) ?_ | refine st_call (H3) ?_ | refine st_call (H4) ?_ | refine st_call (H6) ?_ | refine st_call (H7) ?_ | refine stRW [3] H5 ?_ | refine stm ?_ | refine Ja ?_ | refine run_nil ?_ | refine Jz ?_ | refine Jw ?_ | refine aw_ret ?_ | refine pp_ret ?_
  all_goals first | rfl
end Go.Proofs.YtdbcbclapipgdaaGreatDoor
