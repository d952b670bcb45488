/- Join: codes. -/
import Derived.Test.YtdbcbclapipgdaaGreatDoorVO
import Derived.Test.YtdbcbclapipgdaaGreatDoorJ
import Derived.Test.YtdbcbclapipgdaaGreatDoorC10
set_option linter.unusedVariables false
set_option linter.unusedSimpArgs false
namespace Go.Proofs.YtdbcbclapipgdaaGreatDoor
open Go Av
set_option maxRecDepth 20000
set_option maxHeartbeats 4000000 in
theorem ac_code1 (sec w nm : ByteArray) (n : Int) (hs : sec.size ≤ 32) (hw : w.size ≤ 10) (hn : nm.size ≤ 100) (h0 : 0 ≤ n) (h1 : n ≤ 4294967295) : ACalls Tryz.prog 58 [.string sec, .string w, .string nm, .slice (some ⟨0, 0, none⟩) 1 1] [some ⟨[.int .i64 n], false, 1⟩] (.string (cdS sec (tx1 w nm n))) [none] := by
  have H1 := ac_itoa n (by omega) (by omega)
  have z1 := decS_size h0 (by omega)
  have hK := fun T h => ac_Keyed sec T hs h
  obtain ⟨S, hS⟩ : ∃ S, decS n = S := ⟨_, rfl⟩
  rw [hS] at H1 z1
  obtain ⟨T1, e1⟩ : ∃ T, w ++ ⟨#[32]⟩ = T := ⟨_, rfl⟩
  obtain ⟨T2, e2⟩ : ∃ T, T1 ++ nm = T := ⟨_, rfl⟩
  obtain ⟨T3, e3⟩ : ∃ T, ⟨#[32]⟩ ++ S = T := ⟨_, rfl⟩
  obtain ⟨T4, e4⟩ : ∃ T, T2 ++ T3 = T := ⟨_, rfl⟩
  have q1 : T1.size = w.size + 1 := by rw [← e1, ByteArray.size_append]; rfl
  have q2 : T2.size = T1.size + nm.size := by rw [← e2, ByteArray.size_append]
  have q3 : T3.size = 1 + S.size := by rw [← e3, ByteArray.size_append]; rfl
  have q4 : T4.size = T2.size + T3.size := by rw [← e4, ByteArray.size_append]
  have e5 : tx1 w nm n = T4 := by unfold tx1; rw [hS, e1, e2, e3, e4]
  rw [e5]
  have hK := hK T4 (by omega)
  obtain ⟨K, hKK⟩ : ∃ K, kyS sec T4 = K := ⟨_, rfl⟩
  have hK2 : K.size = 32 := by rw [← hKK]; exact kyS_size _ _
  unfold cdS
  rw [hKK]
  have hK : ACalls Tryz.prog 108 [.string sec, .string T4] [] (.tuple #[.string K, .int .i64 0]) [] := by rw [← hKK]; exact hK
  obtain ⟨U, hU⟩ : ∃ U, K.extract 0 8 = U := ⟨_, rfl⟩
  rw [hU]
  clear hKK
  refine acalls_law Tryz.func58 rfl rfl rfl ?_
  repeat' first | refine st (h := ok_str_addD (s := w) (u := ⟨#[32]⟩) rfl rfl e1 (by omega)) ?_ | refine st (h := ok_str_addD (s := T1) (u := nm) rfl rfl e2 (by omega)) ?_ | refine st (h := ok_str_addD (s := ⟨#[32]⟩) (u := S) rfl rfl e3 (by omega)) ?_ | refine st (h := ok_str_addD (s := T2) (u := T3) rfl rfl e4 (by omega)) ?_ | refine st ?_ | refine aw_loop_in ?_ | refine awl_round ?_ | refine st_call (H1) ?_ | refine st_call (hK) ?_ | refine run_nil ?_ | refine Jz ?_ | refine Jw ?_ | refine aw_block ?_ | refine Jq ?_ | refine Jr ?_ | refine Jy ?_ | refine aw_exit ?_ | refine aw_ret ?_ | refine pp_ret ?_
  all_goals first
    | rfl
    | (exfalso; omega)
    | (show Value.string (K.extract 0 (min 8 (K.size : Int)).toNat) = Value.string U; rw [show (min 8 (K.size : Int)).toNat = 8 by omega, hU])
    | (show Value.string (K.extract 0 8) = Value.string U; rw [hU])
set_option maxHeartbeats 4000000 in
theorem ac_code2 (sec w nm : ByteArray) (n m : Int) (hs : sec.size ≤ 32) (hw : w.size ≤ 10) (hn : nm.size ≤ 100) (h0 : 0 ≤ n) (h1 : n ≤ 4294967295) (g0 : 0 ≤ m) (g1 : m ≤ 4294967295) : ACalls Tryz.prog 58 [.string sec, .string w, .string nm, .slice (some ⟨0, 0, none⟩) 2 2] [some ⟨[.int .i64 n, .int .i64 m], false, 1⟩] (.string (cdS sec (tx2 w nm n m))) [none] := by
  have H1 := ac_itoa n (by omega) (by omega)
  have H2 := ac_itoa m (by omega) (by omega)
  have z2 := decS_size g0 (by omega)
  have z1 := decS_size h0 (by omega)
  have hK := fun T h => ac_Keyed sec T hs h
  obtain ⟨S, hS⟩ : ∃ S, decS n = S := ⟨_, rfl⟩
  rw [hS] at H1 z1
  obtain ⟨T1, e1⟩ : ∃ T, w ++ ⟨#[32]⟩ = T := ⟨_, rfl⟩
  obtain ⟨T2, e2⟩ : ∃ T, T1 ++ nm = T := ⟨_, rfl⟩
  obtain ⟨T3, e3⟩ : ∃ T, ⟨#[32]⟩ ++ S = T := ⟨_, rfl⟩
  obtain ⟨T4, e4⟩ : ∃ T, T2 ++ T3 = T := ⟨_, rfl⟩
  have q1 : T1.size = w.size + 1 := by rw [← e1, ByteArray.size_append]; rfl
  have q2 : T2.size = T1.size + nm.size := by rw [← e2, ByteArray.size_append]
  have q3 : T3.size = 1 + S.size := by rw [← e3, ByteArray.size_append]; rfl
  have q4 : T4.size = T2.size + T3.size := by rw [← e4, ByteArray.size_append]
  obtain ⟨R, hR⟩ : ∃ S, decS m = S := ⟨_, rfl⟩
  rw [hR] at H2 z2
  obtain ⟨T5, e6⟩ : ∃ T, ⟨#[32]⟩ ++ R = T := ⟨_, rfl⟩
  obtain ⟨T6, e7⟩ : ∃ T, T4 ++ T5 = T := ⟨_, rfl⟩
  have q5 : T5.size = 1 + R.size := by rw [← e6, ByteArray.size_append]; rfl
  have q6 : T6.size = T4.size + T5.size := by rw [← e7, ByteArray.size_append]
  have e5 : tx2 w nm n m = T6 := by unfold tx2 tx1; rw [hS, hR, e1, e2, e3, e4, e6, e7]
  rw [e5]
  have hK := hK T6 (by omega)
  obtain ⟨K, hKK⟩ : ∃ K, kyS sec T6 = K := ⟨_, rfl⟩
  have hK2 : K.size = 32 := by rw [← hKK]; exact kyS_size _ _
  unfold cdS
  rw [hKK]
  have hK : ACalls Tryz.prog 108 [.string sec, .string T6] [] (.tuple #[.string K, .int .i64 0]) [] := by rw [← hKK]; exact hK
  obtain ⟨U, hU⟩ : ∃ U, K.extract 0 8 = U := ⟨_, rfl⟩
  rw [hU]
  clear hKK
  refine acalls_law Tryz.func58 rfl rfl rfl ?_
  repeat' first | refine st (h := ok_str_addD (s := w) (u := ⟨#[32]⟩) rfl rfl e1 (by omega)) ?_ | refine st (h := ok_str_addD (s := T1) (u := nm) rfl rfl e2 (by omega)) ?_ | refine st (h := ok_str_addD (s := ⟨#[32]⟩) (u := S) rfl rfl e3 (by omega)) ?_ | refine st (h := ok_str_addD (s := T2) (u := T3) rfl rfl e4 (by omega)) ?_ | refine st (h := ok_str_addD (s := ⟨#[32]⟩) (u := R) rfl rfl e6 (by omega)) ?_ | refine st (h := ok_str_addD (s := T4) (u := T5) rfl rfl e7 (by omega)) ?_ | refine st ?_ | refine aw_loop_in ?_ | refine awl_round ?_ | refine st_call (H1) ?_ | refine st_call (H2) ?_ | refine st_call (hK) ?_ | refine run_nil ?_ | refine Jz ?_ | refine Jw ?_ | refine aw_block ?_ | refine Jq ?_ | refine Jr ?_ | refine Jy ?_ | refine aw_exit ?_ | refine aw_ret ?_ | refine pp_ret ?_
  all_goals first
    | rfl
    | (exfalso; omega)
    | (show Value.string (K.extract 0 (min 8 (K.size : Int)).toNat) = Value.string U; rw [show (min 8 (K.size : Int)).toNat = 8 by omega, hU])
    | (show Value.string (K.extract 0 8) = Value.string U; rw [hU])
end Go.Proofs.YtdbcbclapipgdaaGreatDoor
