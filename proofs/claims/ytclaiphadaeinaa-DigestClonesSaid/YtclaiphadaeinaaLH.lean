/- DigestClones: the law. -/
import Derived.Test.YtclaiphadaeinaaD14
import Derived.Test.YtclaiphadaeinaaVH
set_option linter.unusedVariables false
set_option linter.unusedSimpArgs false
namespace Go.Proofs.Ytclaiphadaeinaa
open Go Av
set_option maxRecDepth 100000
theorem flat1 (Y : List UInt8) (x : ByteArray) : Y ++ x.data.toList = Y ++ flat (([x].drop 0).take 1) := by simp [flat]
theorem app_data (x y : ByteArray) : (x ++ y).data.toList = x.data.toList ++ y.data.toList := by
  rw [ByteArray.data_append, Array.toList_append]
set_option maxHeartbeats 8000000 in
theorem law_clones (x a b : ByteArray) : ACalls Try.prog 10 [.string x, .string a, .string b] [] (.bool true) [] := by
  by_cases h : x.size ≤ 300 ∧ a.size ≤ 300 ∧ b.size ≤ 300
  · obtain ⟨hx, ha, hb⟩ := h
    have lx : x.data.toList.length = x.size := by rw [Array.length_toList]; rfl
    have la : a.data.toList.length = a.size := by rw [Array.length_toList]; rfl
    have lb : b.data.toList.length = b.size := by rw [Array.length_toList]; rfl
    have k1 := ac_Sum x (by omega)
    have k2 := ac_Sum (x ++ a) (by rw [ByteArray.size_append]; omega)
    have k3 := ac_Sum (x ++ b) (by rw [ByteArray.size_append]; omega)
    rw [app_data] at k2 k3
    obtain ⟨X, hX⟩ : ∃ X, x.data.toList = X := ⟨_, rfl⟩
    rw [hX] at k1 k2 k3 lx
    obtain ⟨XA, hXA⟩ : ∃ XA, X ++ a.data.toList = XA := ⟨_, rfl⟩
    obtain ⟨XB, hXB⟩ : ∃ XB, X ++ b.data.toList = XB := ⟨_, rfl⟩
    rw [hXA] at k2
    rw [hXB] at k3
    have lxa : XA.length = x.size + a.size := by rw [← hXA, List.length_append]; omega
    have lxb : XB.length = x.size + b.size := by rw [← hXB, List.length_append]; omega
    obtain ⟨L1, o1, n1, t1, C1, p1, p2, p3, p4, p5, w1⟩ := ac_Write 0 [] X [] 0 0 0 (iv0 0) 3144134277 1013904242 2773480762 1359893119 2600822924 528734635 1541459225 [x] 0 1 rfl rfl rfl (by decide) rfl (by simp) (by rw [← hX]; exact flat1 [] x) (by omega) rfl (by decide)
    have c1 : C1.length = 8 := by rw [← p1, chn_len]
    obtain ⟨Z, hZ⟩ : ∃ Z, (L1.drop o1).take n1 = Z := ⟨_, rfl⟩
    have lz : n1 ≤ Z.length := by rw [← hZ, List.length_take, List.length_drop]; omega
    have lL : n1 ≤ 1048576 := by omega
    have hc := ac_Clone (X.length : Int) X L1 Z o1 n1 t1 (C1.getD 0 0) (C1.getD 1 0) (C1.getD 2 0) (C1.getD 3 0) (C1.getD 4 0) (C1.getD 5 0) (C1.getD 6 0) (C1.getD 7 0) p2 p4 hZ lL
    obtain ⟨L2, o2, n2, t2, C2, q1, q2, q3, q4, q5, w2⟩ := ac_Write (X.length : Int) X XA L1 o1 n1 t1 (C1.getD 0 0) (C1.getD 1 0) (C1.getD 2 0) (C1.getD 3 0) (C1.getD 4 0) (C1.getD 5 0) (C1.getD 6 0) (C1.getD 7 0) [a] 0 1 (by rw [p1, list8_eq c1]) p2 p3 p4 p5 (by simp) (by rw [← hXA]; exact flat1 X a) (by omega) rfl (by decide)
    have c2 : C2.length = 8 := by rw [← q1, chn_len]
    have s1 := ac_hsum (X.length : Int) X Z 0 n1 t1 (C1.getD 0 0) (C1.getD 1 0) (C1.getD 2 0) (C1.getD 3 0) (C1.getD 4 0) (C1.getD 5 0) (C1.getD 6 0) (C1.getD 7 0) (by rw [p1, list8_eq c1]) p2 p3 (by omega) (by rw [List.drop_zero, List.take_of_length_le (by rw [← hZ, List.length_take]; omega), ← hZ, p5]) (by omega)
    obtain ⟨L3, o3, n3, t3, C3, r1, r2, r3, r4, r5, w3⟩ := ac_Write (X.length : Int) X XB Z 0 n1 t1 (C1.getD 0 0) (C1.getD 1 0) (C1.getD 2 0) (C1.getD 3 0) (C1.getD 4 0) (C1.getD 5 0) (C1.getD 6 0) (C1.getD 7 0) [b] 0 1 (by rw [p1, list8_eq c1]) p2 p3 (by omega) (by rw [List.drop_zero, List.take_of_length_le (by rw [← hZ, List.length_take]; omega), ← hZ, p5]) (by simp) (by rw [← hXB]; exact flat1 X b) (by omega) rfl (by decide)
    have c3 : C3.length = 8 := by rw [← r1, chn_len]
    have s2 := ac_hsum (XA.length : Int) XA L2 o2 n2 t2 (C2.getD 0 0) (C2.getD 1 0) (C2.getD 2 0) (C2.getD 3 0) (C2.getD 4 0) (C2.getD 5 0) (C2.getD 6 0) (C2.getD 7 0) (by rw [q1, list8_eq c2]) q2 q3 q4 q5 (by omega)
    have s3 := ac_hsum (XB.length : Int) XB L3 o3 n3 t3 (C3.getD 0 0) (C3.getD 1 0) (C3.getD 2 0) (C3.getD 3 0) (C3.getD 4 0) (C3.getD 5 0) (C3.getD 6 0) (C3.getD 7 0) (by rw [r1, list8_eq c3]) r2 r3 r4 r5 (by omega)
    generalize dig 0 X = D1 at k1 s1
    generalize dig 0 XA = D2 at k2 s2
    generalize dig 0 XB = D3 at k3 s3
    have hN := ac_New
    refine acalls_pure Try.func10 rfl rfl rfl ?_
    repeat' first
      | refine st (h := ok_ptr_ne rfl rfl rfl rfl rfl rfl (by simp) (by simp) rfl rfl (.inl rfl)) ?_
      | refine sdl (h := ok_ptr_ne rfl rfl rfl rfl rfl rfl (by simp) (by simp) rfl rfl (.inl rfl)) ?_
      | refine st (h := ok_str_eqlT rfl rfl) ?_
      | refine st (h := ok_str_neqF rfl rfl) ?_
      | refine st (h := ok_str_add (s := x) rfl rfl (by omega)) ?_
      | refine st ?_
      | refine st_call (ac_awake) ?_
      | refine st_call (k1) ?_
      | refine st_call (k2) ?_
      | refine st_call (k3) ?_
      | refine stMW [] hN ?_
      | refine stMW [0, 1, 2] w1 ?_ (hargs := by first | exact WkL.refl _ | fail)
      | refine stMW [0, 3] hc ?_ (hargs := by first | exact WkL.refl _ | fail)
      | refine stMW [0, 3, 6] w2 ?_ (hargs := by first | exact WkL.refl _ | fail)
      | refine stRW [4, 5] s1 ?_ (hargs := by first | exact WkL.refl _ | fail)
      | refine stMW [4, 5, 8] w3 ?_ (hargs := by first | exact WkL.refl _ | fail)
      | refine stRW [0, 7] s2 ?_ (hargs := by first | exact WkL.refl _ | fail)
      | refine stRW [4, 9] s3 ?_ (hargs := by first | exact WkL.refl _ | fail)
      | refine stm ?_
      | refine run_want rfl rfl ?_
      | refine run_unwant rfl rfl ?_
      | refine run_undef rfl rfl ?_
      | refine run_guard1t rfl rfl (by omega) ?_
      | refine run_guard1f rfl rfl (by omega) ?_
      | refine run_guard0t rfl rfl (by omega) ?_
      | refine run_guard0f rfl rfl (by omega) ?_
      | refine run_guard1 rfl rfl (fun h1 => ?_) (fun h1 => ?_)
      | refine run_guard0 rfl rfl (fun h1 => ?_) (fun h1 => ?_)
      | refine run_guard rfl rfl (fun h1 => ?_) (fun h1 => ?_)
      | refine run_nil ?_
      | refine aw_seq ?_
      | refine aw_region (by kernel_rfl) (Nat.le_of_ble_eq_true rfl) ?_
      | refine aw_block ?_
      | refine aw_cond_t rfl ?_
      | refine aw_cond_f rfl ?_
      | refine aw_cond_tp rfl (by omega) ?_
      | refine aw_cond_fp rfl (by omega) ?_
      | refine aw_cond1 rfl (fun h1 => ?_) (fun h1 => ?_)
      | refine aw_cond rfl (fun h1 => ?_) (fun h1 => ?_)
      | refine aw_skip ?_
      | refine aw_exit ?_
      | refine aw_ret ?_
      | refine pp_ret ?_
      | refine pp_normal ?_
    all_goals (first | rfl | (exfalso; omega) | exact absurd rfl h1 | (simp [retOf]; done))
  · refine acalls_pure Try.func10 rfl rfl rfl ?_
    repeat' first
      | refine st ?_
      | refine st_call (ac_awake) ?_
      | refine stm ?_
      | refine run_want rfl rfl ?_
      | refine run_unwant rfl rfl ?_
      | refine run_undef rfl rfl ?_
      | refine run_guard1t rfl rfl (by omega) ?_
      | refine run_guard1f rfl rfl (by omega) ?_
      | refine run_guard0t rfl rfl (by omega) ?_
      | refine run_guard0f rfl rfl (by omega) ?_
      | refine run_guard1 rfl rfl (fun h1 => ?_) (fun h1 => ?_)
      | refine run_guard0 rfl rfl (fun h1 => ?_) (fun h1 => ?_)
      | refine run_guard rfl rfl (fun h1 => ?_) (fun h1 => ?_)
      | refine run_nil ?_
      | refine aw_seq ?_
      | refine aw_region (by kernel_rfl) (Nat.le_of_ble_eq_true rfl) ?_
      | refine aw_block ?_
      | refine aw_cond_t rfl ?_
      | refine aw_cond_f rfl ?_
      | refine aw_cond_tp rfl (by omega) ?_
      | refine aw_cond_fp rfl (by omega) ?_
      | refine aw_cond1 rfl (fun h1 => ?_) (fun h1 => ?_)
      | refine aw_cond rfl (fun h1 => ?_) (fun h1 => ?_)
      | refine aw_skip ?_
      | refine aw_exit ?_
      | refine aw_ret ?_
      | refine pp_ret ?_
      | refine pp_normal ?_
    all_goals (first | rfl | (exfalso; omega) | (simp [retOf]; done))
end Go.Proofs.Ytclaiphadaeinaa
