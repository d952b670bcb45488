/- Digest: a state begins; whole digests; Digest: the reference's digests; Digest: the reference's digests, with a key and without. -/
import Derived.Test.YtdbcbclapipgdaaGreatDoorVO
import Derived.Test.YtdbcbclapipgdaaGreatDoorVN
import Derived.Test.YtdbcbclapipgdaaGreatDoorJ
import Derived.Test.YtdbcbclapipgdaaGreatDoorC4
set_option linter.unusedVariables false
set_option linter.unusedSimpArgs false
namespace Go.Proofs.YtdbcbclapipgdaaGreatDoor
open Go Av
set_option maxRecDepth 20000
set_option maxHeartbeats 4000000 in
theorem ac_Keyed0 (k d : ByteArray) (hk : k.size = 0) (h : d.size ≤ 1048000) : ACalls Tryz.prog 108 [.string k, .string d] [] (.tuple #[.string (dig (k.size : Int) (kx k.data.toList d.data.toList)), .int .i64 0]) [] := by
  have hds : d.data.toList.length = d.size := Array.length_toList (xs := d.data)
  have hks : k.data.toList.length = k.size := Array.length_toList (xs := k.data)
  have hpl : (0 : Nat) = 0 := rfl
  have hk0 : k.data.toList = [] := List.eq_nil_of_length_eq_zero (by omega)
  rw [kx, if_pos hk0, hk]
  obtain ⟨X, hX⟩ : ∃ X, d.data.toList = X := ⟨_, rfl⟩
  obtain ⟨K, hK⟩ : ∃ K, (X.length - 1) / 64 = K := ⟨_, rfl⟩
  obtain ⟨A, hA⟩ : ∃ A, ab X 0 (ivk ((0 : Nat) : Int)) K = A := ⟨_, rfl⟩
  obtain ⟨C, hC⟩ : ∃ C, cmp A (wd (fun j => ((X.getD (64 * K + j) 0).toNat : Int)) (X.length - 64 * K)) X.length true = C := ⟨_, rfl⟩
  have hXl : X.length = 0 + d.size := by rw [← hX]; simp [hds, hpl]
  have hAl : A.length = 8 := by rw [← hA, ab_len]; rfl
  have hdg : dig ((0 : Nat) : Int) X = ⟨(outB C 8).toArray⟩ := by simp only [dig, hK, hA, hC]
  have hS := ac_start0 k 0 (by omega) rfl
  have hT := ac_takeB (iv0 ((0 : Nat) : Int)) 3144134277 1013904242 2773480762 1359893119 2600822924 528734635 1541459225 0 d [] 0 0 (by simp [hpl]) X (by rw [← hX]; first | (rw [List.drop_zero, List.take_of_length_le (by rw [hpl]; exact Nat.le_refl _)]; done) | simp [hpl]) (by omega) (by omega) (by omega) K hK.symm
  rw [show [iv0 ((0 : Nat) : Int), 3144134277, 1013904242, 2773480762, 1359893119, 2600822924, 528734635, 1541459225] = ivk ((0 : Nat) : Int) from rfl, hA] at hT
  have hF := ac_sum1 (A.getD 0 0) (A.getD 1 0) (A.getD 2 0) (A.getD 3 0) (A.getD 4 0) (A.getD 5 0) (A.getD 6 0) (A.getD 7 0) (0 + 64 * (K : Int)) X (X.length - 64 * K) (64 * K) (by omega) (by omega) (by omega) (by omega) C (by rw [list8_eq hAl, ← hC]; congr 1; omega)
  try simp only [hX]
  rw [hdg]
  refine acalls_pure Tryz.func108 rfl rfl rfl ?_
  repeat' first | intro h1 | refine st ?_ | refine stM [] hS ?_ | refine stM [1, 0] hT ?_ | refine stR [2] hF ?_ | refine sdR [2] hF ?_ | refine Kc ?_ | refine Ka ?_ | refine Kb ?_ ?_ | fail
  rfl
set_option maxHeartbeats 4000000 in
theorem ac_KeyedK (k d : ByteArray) (hk : 0 < k.size ∧ k.size ≤ 32) (h : d.size ≤ 1048000) : ACalls Tryz.prog 108 [.string k, .string d] [] (.tuple #[.string (dig (k.size : Int) (kx k.data.toList d.data.toList)), .int .i64 0]) [] := by
  have hds : d.data.toList.length = d.size := Array.length_toList (xs := d.data)
  have hks : k.data.toList.length = k.size := Array.length_toList (xs := k.data)
  have hpl : (pad k.data.toList).length = 64 := pad_len _ (by omega)
  have hk0 : k.data.toList ≠ [] := fun h => by rw [h] at hks; simp at hks; omega
  rw [kx, if_neg hk0]
  obtain ⟨X, hX⟩ : ∃ X, (pad k.data.toList ++ d.data.toList) = X := ⟨_, rfl⟩
  obtain ⟨K, hK⟩ : ∃ K, (X.length - 1) / 64 = K := ⟨_, rfl⟩
  obtain ⟨A, hA⟩ : ∃ A, ab X 0 (ivk (k.size : Int)) K = A := ⟨_, rfl⟩
  obtain ⟨C, hC⟩ : ∃ C, cmp A (wd (fun j => ((X.getD (64 * K + j) 0).toNat : Int)) (X.length - 64 * K)) X.length true = C := ⟨_, rfl⟩
  have hXl : X.length = 64 + d.size := by rw [← hX]; simp [hds, hpl]
  have hAl : A.length = 8 := by rw [← hA, ab_len]; rfl
  have hdg : dig (k.size : Int) X = ⟨(outB C 8).toArray⟩ := by simp only [dig, hK, hA, hC]
  have hS := ac_startK k (k.size : Int) rfl (by omega) _ rfl
  have hT := ac_takeB (iv0 (k.size : Int)) 3144134277 1013904242 2773480762 1359893119 2600822924 528734635 1541459225 0 d (pad k.data.toList) 0 64 (by simp [hpl]) X (by rw [← hX]; first | (rw [List.drop_zero, List.take_of_length_le (by rw [hpl]; exact Nat.le_refl _)]; done) | simp [hpl]) (by omega) (by omega) (by omega) K hK.symm
  rw [show [iv0 (k.size : Int), 3144134277, 1013904242, 2773480762, 1359893119, 2600822924, 528734635, 1541459225] = ivk (k.size : Int) from rfl, hA] at hT
  have hF := ac_sum1 (A.getD 0 0) (A.getD 1 0) (A.getD 2 0) (A.getD 3 0) (A.getD 4 0) (A.getD 5 0) (A.getD 6 0) (A.getD 7 0) (0 + 64 * (K : Int)) X (X.length - 64 * K) (64 * K) (by omega) (by omega) (by omega) (by omega) C (by rw [list8_eq hAl, ← hC]; congr 1; omega)
  try simp only [hX]
  rw [hdg]
  refine acalls_pure Tryz.func108 rfl rfl rfl ?_
  repeat' first | intro h1 | refine st ?_ | refine stM [] hS ?_ | refine stM [1, 0] hT ?_ | refine stR [2] hF ?_ | refine sdR [2] hF ?_ | refine Kc ?_ | refine Ka ?_ | refine Kb ?_ ?_ | fail
  rfl
theorem ac_Keyed (k d : ByteArray) (hk : k.size ≤ 32) (h : d.size ≤ 1048000) : ACalls Tryz.prog 108 [.string k, .string d] [] (.tuple #[.string (dig (k.size : Int) (kx k.data.toList d.data.toList)), .int .i64 0]) [] := by
  rcases Nat.eq_zero_or_pos k.size with h0 | h0
  · exact ac_Keyed0 k d h0 h
  · exact ac_KeyedK k d ⟨h0, hk⟩ h
theorem wd_congr {g h : Nat → Int} : ∀ n, (∀ j, j < n → g j = h j) → wd g n = wd h n
  | 0, _ => rfl
  | n + 1, hh => by
    have ih := wd_congr n fun j hj => hh j (by omega)
    simp only [wd, ih, hh n (by omega)]
theorem extract_byte (s : ByteArray) (a b j : Nat) (h : j < b - a) : byteAt (s.extract a b) j = s.data.toList.getD (a + j) 0 := by
  unfold byteAt
  rw [List.getD_eq_getElem?_getD, List.getD_eq_getElem?_getD]
  congr 1
  rw [Array.getElem?_toList, Array.getElem?_toList, ByteArray.data_extract, Array.getElem?_extract]
  split
  · rfl
  · rename_i h'
    rw [Array.getElem?_eq_none]
    omega
theorem riv : ∀ k : Nat, k < 33 → x32 (x32 1779033703 16842784) (IntKind.u32.wrap ((k : Int) * 2 ^ (min (Int.toNat 8) IntKind.u32.bits))) = iv0 k := by decide +kernel
theorem rout (C : List Int) : [.int .u8 (IntKind.u8.wrap (C.getD 0 0 / 2 ^ (min (Int.toNat 0) IntKind.u32.bits))), .int .u8 (IntKind.u8.wrap (C.getD 0 0 / 2 ^ (min (Int.toNat 8) IntKind.u32.bits))), .int .u8 (IntKind.u8.wrap (C.getD 0 0 / 2 ^ (min (Int.toNat 16) IntKind.u32.bits))), .int .u8 (IntKind.u8.wrap (C.getD 0 0 / 2 ^ (min (Int.toNat 24) IntKind.u32.bits))), .int .u8 (IntKind.u8.wrap (C.getD 1 0 / 2 ^ (min (Int.toNat 0) IntKind.u32.bits))), .int .u8 (IntKind.u8.wrap (C.getD 1 0 / 2 ^ (min (Int.toNat 8) IntKind.u32.bits))), .int .u8 (IntKind.u8.wrap (C.getD 1 0 / 2 ^ (min (Int.toNat 16) IntKind.u32.bits))), .int .u8 (IntKind.u8.wrap (C.getD 1 0 / 2 ^ (min (Int.toNat 24) IntKind.u32.bits))), .int .u8 (IntKind.u8.wrap (C.getD 2 0 / 2 ^ (min (Int.toNat 0) IntKind.u32.bits))), .int .u8 (IntKind.u8.wrap (C.getD 2 0 / 2 ^ (min (Int.toNat 8) IntKind.u32.bits))), .int .u8 (IntKind.u8.wrap (C.getD 2 0 / 2 ^ (min (Int.toNat 16) IntKind.u32.bits))), .int .u8 (IntKind.u8.wrap (C.getD 2 0 / 2 ^ (min (Int.toNat 24) IntKind.u32.bits))), .int .u8 (IntKind.u8.wrap (C.getD 3 0 / 2 ^ (min (Int.toNat 0) IntKind.u32.bits))), .int .u8 (IntKind.u8.wrap (C.getD 3 0 / 2 ^ (min (Int.toNat 8) IntKind.u32.bits))), .int .u8 (IntKind.u8.wrap (C.getD 3 0 / 2 ^ (min (Int.toNat 16) IntKind.u32.bits))), .int .u8 (IntKind.u8.wrap (C.getD 3 0 / 2 ^ (min (Int.toNat 24) IntKind.u32.bits))), .int .u8 (IntKind.u8.wrap (C.getD 4 0 / 2 ^ (min (Int.toNat 0) IntKind.u32.bits))), .int .u8 (IntKind.u8.wrap (C.getD 4 0 / 2 ^ (min (Int.toNat 8) IntKind.u32.bits))), .int .u8 (IntKind.u8.wrap (C.getD 4 0 / 2 ^ (min (Int.toNat 16) IntKind.u32.bits))), .int .u8 (IntKind.u8.wrap (C.getD 4 0 / 2 ^ (min (Int.toNat 24) IntKind.u32.bits))), .int .u8 (IntKind.u8.wrap (C.getD 5 0 / 2 ^ (min (Int.toNat 0) IntKind.u32.bits))), .int .u8 (IntKind.u8.wrap (C.getD 5 0 / 2 ^ (min (Int.toNat 8) IntKind.u32.bits))), .int .u8 (IntKind.u8.wrap (C.getD 5 0 / 2 ^ (min (Int.toNat 16) IntKind.u32.bits))), .int .u8 (IntKind.u8.wrap (C.getD 5 0 / 2 ^ (min (Int.toNat 24) IntKind.u32.bits))), .int .u8 (IntKind.u8.wrap (C.getD 6 0 / 2 ^ (min (Int.toNat 0) IntKind.u32.bits))), .int .u8 (IntKind.u8.wrap (C.getD 6 0 / 2 ^ (min (Int.toNat 8) IntKind.u32.bits))), .int .u8 (IntKind.u8.wrap (C.getD 6 0 / 2 ^ (min (Int.toNat 16) IntKind.u32.bits))), .int .u8 (IntKind.u8.wrap (C.getD 6 0 / 2 ^ (min (Int.toNat 24) IntKind.u32.bits))), .int .u8 (IntKind.u8.wrap (C.getD 7 0 / 2 ^ (min (Int.toNat 0) IntKind.u32.bits))), .int .u8 (IntKind.u8.wrap (C.getD 7 0 / 2 ^ (min (Int.toNat 8) IntKind.u32.bits))), .int .u8 (IntKind.u8.wrap (C.getD 7 0 / 2 ^ (min (Int.toNat 16) IntKind.u32.bits))), .int .u8 (IntKind.u8.wrap (C.getD 7 0 / 2 ^ (min (Int.toNat 24) IntKind.u32.bits)))] = (outB C 8).map u8v := by
  have e0 : ∀ x : Int, x / 2 ^ (min (Int.toNat 0) IntKind.u32.bits) = x := fun x => by simp
  simp only [outB, List.nil_append, List.cons_append, List.append_nil, List.map_cons, List.map_nil, u8v_b8Q, e0]
structure Rgs where
  a : Int
  c0 : Int
  c1 : Int
  c2 : Int
  c3 : Int
  c4 : Int
  c5 : Int
  c6 : Int
  c7 : Int
set_option maxHeartbeats 8000000 in
theorem ac_rsum (key : Int) (hk : 0 ≤ key ∧ key ≤ 32) (d : ByteArray) (h : d.size ≤ 1048576) : ACalls Tryz.prog 159 [.int .i64 key, .string d] [] (.string (dig key d.data.toList)) [] := by
  obtain ⟨X, hX⟩ : ∃ X, d.data.toList = X := ⟨_, rfl⟩
  have hXl : X.length = d.size := by rw [← hX]; exact Array.length_toList (xs := d.data)
  obtain ⟨K, hK⟩ : ∃ K, (X.length - 1) / 64 = K := ⟨_, rfl⟩
  obtain ⟨A, hA⟩ : ∃ A, ab X 0 (ivk key) K = A := ⟨_, rfl⟩
  obtain ⟨C, hC⟩ : ∃ C, cmp A (wd (fun j => ((X.getD (64 * K + j) 0).toNat : Int)) (X.length - 64 * K)) X.length true = C := ⟨_, rfl⟩
  have hdg : dig key X = ⟨(outB C 8).toArray⟩ := by simp only [dig, hK, hA, hC]
  have hriv := riv key.toNat (by omega)
  rw [show ((key.toNat : Nat) : Int) = key by omega] at hriv
  rw [hX, hdg]
  refine acalls_pure Tryz.func159 rfl rfl rfl ?_
  repeat' first | intro h1 | refine st ?_ | refine st_call (aw_rinit) ?_ | refine sd_call (aw_rinit) ?_ | refine Kc ?_ | refine Ka ?_ | refine Kb ?_ ?_ | refine J0 (id := 5) [0,0,0,0,8,30,62,0,128,384,1023,2047] 11 ?_ | refine J0 (id := 7) [0,0,0,6,14,0,32,96,255,511] 9 ?_ | fail
  refine aw_loopg
    (S := fun x : Rgs => [(1, .string d), (5, .pointer (some ⟨0, 0, none⟩)), (6, .int .i64 x.a)])
    (B := fun x : Rgs => [some ⟨[.int .u32 x.c0, .int .u32 x.c1, .int .u32 x.c2, .int .u32 x.c3, .int .u32 x.c4, .int .u32 x.c5, .int .u32 x.c6, .int .u32 x.c7], true, 1⟩])
    (R := fun x : Rgs => 0 ≤ x.a ∧ x.a % 64 = 0 ∧ (x.a < X.length ∨ X.length = 0 ∧ x.a = 0) ∧ [x.c0, x.c1, x.c2, x.c3, x.c4, x.c5, x.c6, x.c7] = ab X 0 (ivk key) (x.a / 64).toNat)
    (μ := fun x : Rgs => (X.length - x.a).toNat) ⟨0, iv0 key, 3144134277, 1013904242, 2773480762, 1359893119, 2600822924, 528734635, 1541459225⟩ (fits [0] (h4 := MemR.blk rfl (WkL.ofEq (by rw [show bitv .xor .u32 (bitv .xor .u32 (ivs.getD 0 0) 16842784) (IntKind.u32.wrap (key * 2 ^ (min (Int.toNat 8) IntKind.u32.bits))) = iv0 key from hriv]; rfl)) .nil)) ⟨by dsimp only; omega, by dsimp only; omega, by dsimp only; omega, rfl⟩ ?_
  rintro ⟨a, v0, v1, v2, v3, v4, v5, v6, v7⟩ ⟨g1, g2, g3, hCC⟩
  dsimp only at *
  obtain ⟨k, hk'⟩ : ∃ k : Nat, (a / 64).toNat = k := ⟨_, rfl⟩
  rw [hk'] at hCC
  by_cases hn1 : 64 < (d.size : Int) - a
  · obtain ⟨W, hW⟩ : ∃ W, wd (fun j => ((X.getD (64 * k + j) 0).toNat : Int)) 64 = W := ⟨_, rfl⟩
    have hWl : W.length = 16 := by rw [← hW, wd_len]
    have HB := ac_block (d.extract a.toNat (a + 64).toNat) 64 (by rw [ByteArray.size_extract]; omega) (Nat.le_refl _) W (by
      rw [← hW]
      exact wd_congr 64 fun j hj => by rw [extract_byte _ _ _ _ (by omega), hX, show a.toNat = 64 * k by omega])
    obtain ⟨C', hC'⟩ : ∃ C', cmp [v0, v1, v2, v3, v4, v5, v6, v7] [W.getD 0 0, W.getD 1 0, W.getD 2 0, W.getD 3 0, W.getD 4 0, W.getD 5 0, W.getD 6 0, W.getD 7 0, W.getD 8 0, W.getD 9 0, W.getD 10 0, W.getD 11 0, W.getD 12 0, W.getD 13 0, W.getD 14 0, W.getD 15 0] (a + 64) false = C' := ⟨_, rfl⟩
    have HC := aw_rcompress v0 v1 v2 v3 v4 v5 v6 v7 (W.getD 0 0) (W.getD 1 0) (W.getD 2 0) (W.getD 3 0) (W.getD 4 0) (W.getD 5 0) (W.getD 6 0) (W.getD 7 0) (W.getD 8 0) (W.getD 9 0) (W.getD 10 0) (W.getD 11 0) (W.getD 12 0) (W.getD 13 0) (W.getD 14 0) (W.getD 15 0) (a + 64) false C' hC'
    have hCl : C'.length = 8 := by rw [← hC', cmp_len]; rfl
    repeat' first | intro h1 | refine st ?_ | refine st_call (HB) ?_ | refine st_call (HC) ?_ | refine sd_call (HB) ?_ | refine sd_call (HC) ?_ | refine Kc ?_ | refine Ka ?_ | refine Kb ?_ ?_ | refine J0 (id := 5) [0,0,0,0,8,30,62,0,128,384,1023,2047] 11 ?_ | refine J0 (id := 7) [0,0,0,6,14,0,32,96,255,511] 9 ?_ | fail
    refine Exists.intro ⟨_, _, _, _, _, _, _, _, _⟩ ⟨fits [0], ⟨by dsimp only; omega, by dsimp only; omega, by dsimp only; omega, ?_⟩, by dsimp only; omega⟩
    dsimp only
    rw [show ((a + 64) / 64).toNat = k + 1 by omega, ab, ← hCC]
    refine (list8_eq hCl).trans ?_
    rw [← hC', list16_eq hWl, ← hW, show a + 64 = 0 + 64 * ((k : Int) + 1) by omega]
  · obtain rfl : K = k := by omega
    obtain ⟨W, hW⟩ : ∃ W, wd (fun j => ((X.getD (64 * K + j) 0).toNat : Int)) (X.length - 64 * K) = W := ⟨_, rfl⟩
    have hWl : W.length = 16 := by rw [← hW, wd_len]
    have HB := ac_block (d.extract a.toNat d.size) (X.length - 64 * K) (by rw [ByteArray.size_extract]; omega) (by omega) W (by
      rw [← hW]
      exact wd_congr _ fun j hj => by rw [extract_byte _ _ _ _ (by omega), hX, show a.toNat = 64 * K by omega])
    rw [← hA, ← hCC, hW, ← list16_eq hWl] at hC
    have HC := aw_rcompress v0 v1 v2 v3 v4 v5 v6 v7 (W.getD 0 0) (W.getD 1 0) (W.getD 2 0) (W.getD 3 0) (W.getD 4 0) (W.getD 5 0) (W.getD 6 0) (W.getD 7 0) (W.getD 8 0) (W.getD 9 0) (W.getD 10 0) (W.getD 11 0) (W.getD 12 0) (W.getD 13 0) (W.getD 14 0) (W.getD 15 0) (d.size : Int) true C (by rw [← hXl]; exact hC)
    repeat' first | intro h1 | refine st (h := ok_bytes_str (l := outB C 8) rfl rfl (Nat.le_of_ble_eq_true rfl) (rout C)) ?_ | refine st ?_ | refine st_call (HB) ?_ | refine st_call (HC) ?_ | refine aw_loop_in ?_ | refine awl_round ?_ | refine then_round ?_ | refine sd_call (HB) ?_ | refine sd_call (HC) ?_ | refine Kc ?_ | refine Ka ?_ | refine Kb ?_ ?_ | refine J0 (id := 5) [0,0,0,0,8,30,62,0,128,384,1023,2047] 11 ?_ | refine J0 (id := 7) [0,0,0,6,14,0,32,96,255,511] 9 ?_ | fail
    all_goals rfl
theorem app_list (l : List UInt8) (d : ByteArray) : ((⟨l.toArray⟩ : ByteArray) ++ d).data.toList = l ++ d.data.toList := by
  rw [ByteArray.data_append, Array.toList_append]
theorem app_size (l : List UInt8) (d : ByteArray) : ((⟨l.toArray⟩ : ByteArray) ++ d).size = l.length + d.size := by
  rw [ByteArray.size_append]; rfl
theorem ac_rSum (d : ByteArray) (h : d.size ≤ 1048576) : ACalls Tryz.prog 158 [.string d] [] (.string (dig 0 d.data.toList)) [] := by
  have HR := ac_rsum 0 (by omega) d h
  refine acalls_pure Tryz.func158 rfl rfl rfl ?_
  repeat' first | intro h1 | refine st ?_ | refine st_call (HR) ?_ | refine Kc ?_ | refine Ka ?_ | refine Kb ?_ ?_ | fail
  rfl
theorem ac_rKeyed (k d : ByteArray) (hk : k.size ≤ 32) (h : d.size ≤ 1048000) : ACalls Tryz.prog 113 [.string k, .string d] [] (.tuple #[.string (dig (k.size : Int) (kx k.data.toList d.data.toList)), .int .i64 0]) [] := by
  have hks : k.data.toList.length = k.size := Array.length_toList (xs := k.data)
  by_cases h0 : k = ⟨#[]⟩
  · subst h0
    have HR := ac_rSum d (by omega)
    rw [show kx (ByteArray.mk #[]).data.toList d.data.toList = d.data.toList from rfl, show (((ByteArray.mk #[]).size : Nat) : Int) = 0 from rfl]
    refine acalls_pure Tryz.func113 rfl rfl rfl ?_
    repeat' first | intro h1 | refine st ?_ | refine st_call (HR) ?_ | refine Kc ?_ | refine Ka ?_ | refine Kb ?_ ?_ | fail
    all_goals first | rfl | exact absurd rfl h1
  · have hk0 : 0 < k.size := Nat.pos_of_ne_zero fun h => h0 (bs0.2 h)
    have hne : k.data.toList ≠ [] := fun h => by rw [h] at hks; simp at hks; omega
    have hpl : (pad k.data.toList).length = 64 := pad_len _ (by omega)
    rw [kx, if_neg hne]
    have HR := ac_rsum (k.size : Int) (by omega) (⟨(pad k.data.toList).toArray⟩ ++ d) (by rw [app_size, hpl]; omega)
    rw [app_list] at HR
    have hcp : (List.replicate 64 (Value.int .u8 0)).take 0 ++ (k.data.toList.map u8v).take ((min k.size 64) * 1) ++ (List.replicate 64 (Value.int .u8 0)).drop (0 + (min k.size 64) * 1) = (pad k.data.toList).map u8v := by
      rw [Nat.min_eq_left (by omega), Nat.mul_one, Nat.zero_add, List.take_zero, List.nil_append, List.take_of_length_le (by simp), List.drop_replicate, pad, List.map_append, List.map_replicate, hks]
      rfl
    refine acalls_pure Tryz.func113 rfl rfl rfl ?_
    repeat' first | intro h1 | refine run_step (ok_copy (cs := (pad k.data.toList).map u8v) rfl rfl rfl (Src.str rfl Ty.eq rfl rfl) (by omega) (by simp; omega) hcp (by (repeat constructor))) (Nat.le_of_ble_eq_true rfl) ?_ | refine st (h := ok_bytes_str (l := pad k.data.toList) rfl rfl (by simp [hpl]) (take_full (by simp [hpl]))) ?_ | refine st (h := ok_str_add rfl rfl (by have := hpl; show (pad k.data.toList).length + d.size ≤ _; omega)) ?_ | refine st ?_ | refine st_call (HR) ?_ | refine Kc ?_ | refine Ka ?_ | refine Kb ?_ ?_ | fail
    all_goals first | rfl | exact absurd h1 h0
end Go.Proofs.YtdbcbclapipgdaaGreatDoor
