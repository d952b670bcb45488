/- Image: Decode. What is encoded is decoded (plain). -/
import Derived.Test.YtjofcjogbopkjaaGreatVL
import Derived.Test.YtjofcjogbopkjaaGreatT1
import Derived.Test.YtjofcjogbopkjaaGreatS8
set_option linter.unusedVariables false
set_option linter.unusedSimpArgs false
namespace Go.Proofs.YtjofcjogbopkjaaGreat
open Go Av
set_option maxRecDepth 20000
/-- The first parts of 32 bytes. -/
def clL (d : ByteArray) (N : Nat) : List ByteArray := (List.range N).map fun i : Nat => pgS (d.extract 9 d.size) 32 i
theorem clL_len (d : ByteArray) (N : Nat) : (clL d N).length = N := by simp [clL]
theorem clL_succ (d : ByteArray) (N : Nat) : clL d (N + 1) = clL d N ++ [pgS (d.extract 9 d.size) 32 N] := by simp [clL, List.range_succ]
theorem clL_fin (d : ByteArray) (N : Nat) : (List.finRange N).map (fun x : Fin N => pgS (d.extract 9 d.size) 32 x.val) = clL d N := by
  apply List.ext_getElem
  · simp [clL]
  · intro i h1 h2
    simp [clL]
def deN (d : ByteArray) : Nat := (d.size - 9) / 32
def deC (d : ByteArray) : Int := chkM (valS (d.extract 0 2)) (valS (d.extract 2 6)) (valS (d.extract 6 8)) (valS (d.extract 8 9)) (clL d (deN d))
/-- The error of Decode. -/
def deE (d : ByteArray) : Int := if d.size < 9 ∨ (d.size - 9) % 32 ≠ 0 then 10 else if deC d ≠ 0 then 10 else 0
theorem deC_many {d : ByteArray} (h : 2057 < d.size) (h2 : (d.size - 9) % 32 = 0) : deC d ≠ 0 := fun hc => by
  obtain ⟨_, _, h3, _⟩ := chk_ok hc
  rw [clL_len, deN] at h3
  omega
theorem dd_size (d : ByteArray) : (d.extract 9 d.size).size = d.size - 9 := by rw [ByteArray.size_extract]; omega
theorem pg_ref {d : ByteArray} {i : Nat} (h : 9 + 32 * i + 32 ≤ d.size) : pgS (d.extract 9 d.size) 32 i = d.extract (9 + 32 * i) (9 + 32 * i + 32) := by
  unfold pgS
  rw [dd_size]
  apply ByteArray.ext
  rw [ByteArray.data_extract, ByteArray.data_extract, ByteArray.data_extract, Array.extract_extract]
  congr 1 <;> omega
set_option maxHeartbeats 8000000 in
theorem ac_decode (d : ByteArray) (hd : d.size ≤ 1000000) (e : Int) (he : deE d = e) (N : Nat) (hN : deN d = N) (v sz pg pk : Int) (hv : valS (d.extract 0 2) = v) (hsz : valS (d.extract 2 6) = sz) (hpg : valS (d.extract 6 8) = pg) (hpk : valS (d.extract 8 9) = pk) : ACalls Tryz.prog 32 [.string d] [] (.tuple #[if e ≠ 0 then .agg #[.int .i64 0, .int .i64 0, .int .i64 0, .int .i64 0, .slice (some ⟨0, 0, none⟩) 0 0] else .agg #[.int .i64 v, .int .i64 sz, .int .i64 pg, .int .i64 pk, .slice (some ⟨0, 0, none⟩) N N], .int .i64 e]) [some ⟨List.map Value.string (if e ≠ 0 then [] else clL d N), true, 1⟩] := by
  unfold deE at he
  by_cases h1 : d.size < 9 ∨ (d.size - 9) % 32 ≠ 0
  · rw [if_pos h1] at he
    subst he
    rw [if_pos (by decide), if_pos (by decide)]
    have h1' : d.size < 9 ∨ ((d.size : Int) - 9) % 32 ≠ 0 := by omega
    refine acalls_of_aw Tryz.func32 rfl rfl ?_
    refine aw_ghost 1 rfl ?_
    repeat' first | intro h1 | refine st ?_ | refine stm ?_ | refine Ja ?_ | refine Jb ?_ | refine Ji ?_ ?_ | refine run_nil ?_ | refine Jz ?_ | refine Jw ?_ | refine Jq ?_ | refine Js ?_ | refine aw_ret ?_
    all_goals first | (refine pmw_ret _ (renumA [0]) ?_; exact Wk.tupleL (.cons (Wk.aggL (.cons (.refl _) (.cons (.refl _) (.cons (.refl _) (.cons (.refl _) (.cons .nil .nil)))))) (.cons (.refl _) .nil)))
  · rw [if_neg h1] at he
    have h1' : ((d.size : Int) - 9) % 32 = 0 := by omega
    have hN2 : d.size = 9 + 32 * N := by rw [← hN, deN]; omega
    have hlen := clL_len d N
    by_cases h3 : 2057 < d.size
    · rw [if_pos (deC_many h3 (by omega))] at he
      subst he
      rw [if_pos (by decide), if_pos (by decide)]
      refine acalls_of_aw Tryz.func32 rfl rfl ?_
      refine aw_ghost 1 rfl ?_
      repeat' first | refine st ?_ | refine stm ?_ | refine Ja ?_ | refine Jf ?_ | refine run_nil ?_ | refine Jz ?_ | refine Jw ?_ | refine Js ?_ | refine aw_ret ?_
      all_goals first | (refine pmw_ret _ (renumA [0]) ?_; exact Wk.tupleL (.cons (Wk.aggL (.cons (.refl _) (.cons (.refl _) (.cons (.refl _) (.cons (.refl _) (.cons .nil .nil)))))) (.cons (.refl _) .nil)))
    have s1 : (d.extract 0 2).size = 2 := by rw [ByteArray.size_extract]; omega
    have s2 : (d.extract 2 6).size = 4 := by rw [ByteArray.size_extract]; omega
    have s3 : (d.extract 6 8).size = 2 := by rw [ByteArray.size_extract]; omega
    have s4 : (d.extract 8 9).size = 1 := by rw [ByteArray.size_extract]; omega
    have V1 := ac_value (d.extract 0 2) (by omega) v hv
    have V2 := ac_value (d.extract 2 6) (by omega) sz hsz
    have V3 := ac_value (d.extract 6 8) (by omega) pg hpg
    have V4 := ac_value (d.extract 8 9) (by omega) pk hpk
    obtain ⟨c, hc⟩ : ∃ c, deC d = c := ⟨_, rfl⟩
    rw [hc] at he
    have HC := ac_mcheck v sz pg pk (clL d N) N hlen (by omega) c (by rw [← hc, deC, hv, hsz, hpg, hpk, hN])
    have hds := dd_size d
    by_cases hc0 : c = 0
    · subst hc0
      rw [if_neg (by decide)] at he
      subst he
      rw [if_neg (by decide), if_neg (by decide)]
      clear hv hsz hpg hpk hc
      refine acalls_of_aw Tryz.func32 rfl rfl ?_
      refine aw_ghost 1 rfl ?_
      repeat' first | refine st ?_ | refine sd_call (V1) ?_ | refine sd_call (V2) ?_ | refine sd_call (V3) ?_ | refine sd_call (V4) ?_ | refine stMW [] (ac_pages (d.extract 9 d.size) 32) ?_ | refine stm ?_ | refine Ja ?_ | refine Jf ?_ | refine run_nil ?_ | refine sd ?_ | refine sdl ?_ | refine sdm (n := 1) ?_ | refine sdb ?_ | refine rund_nil ?_ | refine Jz ?_ | refine Jw ?_ | refine Jx (id := 3) [0,1,3,0,8,31,0,64,255,0,512,2047,4095,0,16383] 14 ?_ | refine aw_block ?_ | refine Jt ?_ | refine Jy ?_
      all_goals try (exfalso; first | omega | (simp_all; done))
      refine aw_fits (σh := [(2, .pointer (some ⟨0, 0, none⟩)), (4, .pointer (some ⟨1, 0, none⟩)), (38, .func (.func 74) #[] #[.pointer (some ⟨3, 0, none⟩), .pointer (some ⟨2, 0, none⟩)])]) (mh := (fun pre : List (Fin N) => [some ⟨[.int .i64 0, .int .i64 0, .int .i64 0, .int .i64 0, .slice none 0 0], true, 1⟩, some ⟨[.int .i64 v, .int .i64 sz, .int .i64 pg, .int .i64 pk, .slice (some ⟨4, 0, none⟩) pre.length pre.length], true, 1⟩, some ⟨[.string (d.extract 9 d.size)], true, 1⟩, some ⟨[.int .i64 32], true, 1⟩, some ⟨List.map Value.string (pre.map (fun x : Fin N => pgS (d.extract 9 d.size) 32 x.val)), true, 1⟩]) []) (fitsD [1, 2, 3, 4, 0]) ?_
      refine aw_rangeFunc (gf := 74) (cs := [.int .i64 32, .string (d.extract 9 d.size)]) (N := N) (encs := pgEn (d.extract 9 d.size) 32 N) 4 [3, 2] (fun pre : List (Fin N) => [some ⟨[.int .i64 0, .int .i64 0, .int .i64 0, .int .i64 0, .slice none 0 0], true, 1⟩, some ⟨[.int .i64 v, .int .i64 sz, .int .i64 pg, .int .i64 pk, .slice (some ⟨4, 0, none⟩) pre.length pre.length], true, 1⟩, some ⟨[.string (d.extract 9 d.size)], true, 1⟩, some ⟨[.int .i64 32], true, 1⟩, some ⟨List.map Value.string (pre.map (fun x : Fin N => pgS (d.extract 9 d.size) 32 x.val)), true, 1⟩]) (fun _ => True) (fun x : Fin N => [(4, .pointer (some ⟨1, 0, none⟩)), (6, .string (pgS (d.extract 9 d.size) 32 x.val))]) (fun _ _ => False)
        (it_pages 32 (d.extract 9 d.size) N (by omega) (by omega) (fun k => by omega) (by omega)) rfl trivial (Nat.zero_le _) (by intro c hc; simp at hc; rcases hc with rfl | rfl <;> rfl) rfl (by decide) rfl (fun _ => rfl) rfl rfl (by decide) ?_ ?_ ?_ ?_ ?_ ?_ ?_
      · intro x
        refine ⟨rfl, fun u hu => ?_⟩
        simp [pgEn] at hu
        rcases hu with rfl | rfl <;> rfl
      · intro pre
        refine ⟨by simp, noMap_of rfl, fun i id c h1 h2 => ?_⟩
        match i, h1, h2 with
        | 0, h1, h2 => cases h1; cases h2; exact ⟨_, _, rfl⟩
        | 1, h1, h2 => cases h1; cases h2; exact ⟨_, _, rfl⟩
      · exact fun _ _ h => h.elim
      · intro pre x
        repeat' first | refine st ?_ | refine run_nil ?_ | refine Jw ?_
        all_goals exact ⟨rfl, fitsD [0, 1, 2, 3, 4]⟩
      · intro pre x _ hpl
        have hxs : (pgS (d.extract 9 d.size) 32 x.val).size ≤ d.size := by
          unfold pgS; rw [ByteArray.size_extract]; omega
        have H3 := ac_clone (pgS (d.extract 9 d.size) 32 x.val) (by omega)
        have hu : List.map Value.string (List.map (fun x : Fin N => pgS (d.extract 9 d.size) 32 x.val) (pre ++ [x])) = List.map Value.string (List.map (fun x : Fin N => pgS (d.extract 9 d.size) 32 x.val) pre) ++ [.string (pgS (d.extract 9 d.size) 32 x.val)] := by simp
        repeat' first | refine sdb (n := 1) ?_ (h := by (apply ok_append (cs := List.map Value.string (List.map (fun x : Fin N => pgS (d.extract 9 d.size) 32 x.val) (pre ++ [x]))) (olds := List.map Value.string (List.map (fun x : Fin N => pgS (d.extract 9 d.size) 32 x.val) pre)); rfl; rfl; rfl; rfl; rfl; rfl; (focus first | (apply Src.slc; rfl; exact Ty.eq; rfl; exact Nat.le_of_ble_eq_true rfl; exact TakeR.eq (by ((repeat constructor); first | done | fail)); rfl; rfl; first | done | fail)); (focus simp); (focus (apply take_full; simp)); (focus exact hu.symm); omega; (focus ((repeat constructor); first | done | fail)))) | refine sd_call (H3) ?_ | refine sd ?_ | refine sdl ?_ | refine sdm (n := 1) ?_ | refine sdb ?_ | refine rund_nil ?_ | refine Jx (id := 6) [0,1,0,4,12,31,63,127] 5 ?_ | refine aw_block ?_
        all_goals first | exact .inl ⟨rfl, by rw [List.length_append]; exact fitsD [0, 1, 2, 3, 6], trivial⟩
      · intro _
        rw [List.length_finRange, clL_fin]
        repeat' first | refine st ?_ | refine stRW [4] HC ?_ | refine stm ?_ | refine run_nil ?_ | refine Jz ?_ | refine Jw ?_ | refine Jr ?_ | refine Jy ?_ | refine aw_ret ?_
        all_goals first | exact pm_ret _ (renumD [4]) rfl
      · exact fun _ _ h => h.elim
    · rw [if_pos hc0] at he
      subst he
      rw [if_pos (by decide), if_pos (by decide)]
      clear hv hsz hpg hpk hc
      refine acalls_of_aw Tryz.func32 rfl rfl ?_
      refine aw_ghost 1 rfl ?_
      repeat' first | refine st ?_ | refine sd_call (V1) ?_ | refine sd_call (V2) ?_ | refine sd_call (V3) ?_ | refine sd_call (V4) ?_ | refine stMW [] (ac_pages (d.extract 9 d.size) 32) ?_ | refine stm ?_ | refine Ja ?_ | refine Jf ?_ | refine run_nil ?_ | refine sd ?_ | refine sdl ?_ | refine sdm (n := 1) ?_ | refine sdb ?_ | refine rund_nil ?_ | refine Jz ?_ | refine Jw ?_ | refine Jx (id := 3) [0,1,3,0,8,31,0,64,255,0,512,2047,4095,0,16383] 14 ?_ | refine aw_block ?_ | refine Jt ?_ | refine Jy ?_
      all_goals try (exfalso; first | omega | (simp_all; done))
      refine aw_fits (σh := [(2, .pointer (some ⟨0, 0, none⟩)), (4, .pointer (some ⟨1, 0, none⟩)), (38, .func (.func 74) #[] #[.pointer (some ⟨3, 0, none⟩), .pointer (some ⟨2, 0, none⟩)])]) (mh := (fun pre : List (Fin N) => [some ⟨[.int .i64 0, .int .i64 0, .int .i64 0, .int .i64 0, .slice none 0 0], true, 1⟩, some ⟨[.int .i64 v, .int .i64 sz, .int .i64 pg, .int .i64 pk, .slice (some ⟨4, 0, none⟩) pre.length pre.length], true, 1⟩, some ⟨[.string (d.extract 9 d.size)], true, 1⟩, some ⟨[.int .i64 32], true, 1⟩, some ⟨List.map Value.string (pre.map (fun x : Fin N => pgS (d.extract 9 d.size) 32 x.val)), true, 1⟩]) []) (fitsD [1, 2, 3, 4, 0]) ?_
      refine aw_rangeFunc (gf := 74) (cs := [.int .i64 32, .string (d.extract 9 d.size)]) (N := N) (encs := pgEn (d.extract 9 d.size) 32 N) 4 [3, 2] (fun pre : List (Fin N) => [some ⟨[.int .i64 0, .int .i64 0, .int .i64 0, .int .i64 0, .slice none 0 0], true, 1⟩, some ⟨[.int .i64 v, .int .i64 sz, .int .i64 pg, .int .i64 pk, .slice (some ⟨4, 0, none⟩) pre.length pre.length], true, 1⟩, some ⟨[.string (d.extract 9 d.size)], true, 1⟩, some ⟨[.int .i64 32], true, 1⟩, some ⟨List.map Value.string (pre.map (fun x : Fin N => pgS (d.extract 9 d.size) 32 x.val)), true, 1⟩]) (fun _ => True) (fun x : Fin N => [(4, .pointer (some ⟨1, 0, none⟩)), (6, .string (pgS (d.extract 9 d.size) 32 x.val))]) (fun _ _ => False)
        (it_pages 32 (d.extract 9 d.size) N (by omega) (by omega) (fun k => by omega) (by omega)) rfl trivial (Nat.zero_le _) (by intro c hc; simp at hc; rcases hc with rfl | rfl <;> rfl) rfl (by decide) rfl (fun _ => rfl) rfl rfl (by decide) ?_ ?_ ?_ ?_ ?_ ?_ ?_
      · intro x
        refine ⟨rfl, fun u hu => ?_⟩
        simp [pgEn] at hu
        rcases hu with rfl | rfl <;> rfl
      · intro pre
        refine ⟨by simp, noMap_of rfl, fun i id c h1 h2 => ?_⟩
        match i, h1, h2 with
        | 0, h1, h2 => cases h1; cases h2; exact ⟨_, _, rfl⟩
        | 1, h1, h2 => cases h1; cases h2; exact ⟨_, _, rfl⟩
      · exact fun _ _ h => h.elim
      · intro pre x
        repeat' first | refine st ?_ | refine run_nil ?_ | refine Jw ?_
        all_goals exact ⟨rfl, fitsD [0, 1, 2, 3, 4]⟩
      · intro pre x _ hpl
        have hxs : (pgS (d.extract 9 d.size) 32 x.val).size ≤ d.size := by
          unfold pgS; rw [ByteArray.size_extract]; omega
        have H3 := ac_clone (pgS (d.extract 9 d.size) 32 x.val) (by omega)
        have hu : List.map Value.string (List.map (fun x : Fin N => pgS (d.extract 9 d.size) 32 x.val) (pre ++ [x])) = List.map Value.string (List.map (fun x : Fin N => pgS (d.extract 9 d.size) 32 x.val) pre) ++ [.string (pgS (d.extract 9 d.size) 32 x.val)] := by simp
        repeat' first | refine sdb (n := 1) ?_ (h := by (apply ok_append (cs := List.map Value.string (List.map (fun x : Fin N => pgS (d.extract 9 d.size) 32 x.val) (pre ++ [x]))) (olds := List.map Value.string (List.map (fun x : Fin N => pgS (d.extract 9 d.size) 32 x.val) pre)); rfl; rfl; rfl; rfl; rfl; rfl; (focus first | (apply Src.slc; rfl; exact Ty.eq; rfl; exact Nat.le_of_ble_eq_true rfl; exact TakeR.eq (by ((repeat constructor); first | done | fail)); rfl; rfl; first | done | fail)); (focus simp); (focus (apply take_full; simp)); (focus exact hu.symm); omega; (focus ((repeat constructor); first | done | fail)))) | refine sd_call (H3) ?_ | refine sd ?_ | refine sdl ?_ | refine sdm (n := 1) ?_ | refine sdb ?_ | refine rund_nil ?_ | refine Jx (id := 6) [0,1,0,4,12,31,63,127] 5 ?_ | refine aw_block ?_
        all_goals first | exact .inl ⟨rfl, by rw [List.length_append]; exact fitsD [0, 1, 2, 3, 6], trivial⟩
      · intro _
        rw [List.length_finRange, clL_fin]
        refine aw_ghost 1 rfl ?_
        repeat' first | refine st ?_ | refine stRW [4] HC ?_ | refine stm ?_ | refine run_nil ?_ | refine Jz ?_ | refine Jw ?_ | refine Js ?_ | refine aw_ret ?_
        all_goals first | (refine pmw_ret _ (renumA [5]) ?_; exact Wk.tupleL (.cons (Wk.aggL (.cons (.refl _) (.cons (.refl _) (.cons (.refl _) (.cons (.refl _) (.cons .nil .nil)))))) (.cons (.refl _) .nil)))
      · exact fun _ _ h => h.elim
end Go.Proofs.YtjofcjogbopkjaaGreat
namespace Go.Proofs.YtjofcjogbopkjaaGreat
open Go Av
set_option maxRecDepth 20000
/-- The number of bytes, the highest first. -/
def valL (l : List UInt8) : Int := l.foldl (fun a b => a * 256 + b.toNat) 0
theorem valL_snoc (l : List UInt8) (b : UInt8) : valL (l ++ [b]) = valL l * 256 + b.toNat := by
  simp [valL, List.foldl_append]
theorem list_len (s : ByteArray) : s.data.toList.length = s.size := Array.length_toList
theorem byteAt_getD (s : ByteArray) (i : Nat) : byteAt s i = s.data.toList.getD i 0 := rfl
theorem valB_take (s : ByteArray) : ∀ k, k ≤ s.size → valB s k = valL (s.data.toList.take k)
  | 0, _ => by simp [valB, valL]
  | k + 1, h => by
    have hk : k < s.data.toList.length := by
      rw [list_len]
      omega
    rw [valB, valB_take s k (by omega), List.take_add_one, List.getElem?_eq_getElem hk, Option.toList_some, valL_snoc, byteAt_getD, List.getD_eq_getElem?_getD, List.getElem?_eq_getElem hk]
    rfl
theorem valS_L (s : ByteArray) : valS s = valL s.data.toList := by
  rw [valS, valB_take s s.size (Nat.le_refl _), List.take_of_length_le (Nat.le_of_eq (list_len s))]
theorem beL_snoc : ∀ (k : Nat) (v : Int), beL (k + 1) v = beL k (v / 256) ++ [UInt8.ofNat (v % 256).toNat]
  | 0, v => by simp [beL]
  | k + 1, v => by
    rw [beL, beL_snoc k v]
    show _ = (UInt8.ofNat (v / 256 / 2 ^ (8 * k) % 256).toNat :: beL k (v / 256)) ++ _
    have e : v / 256 / 2 ^ (8 * k) = v / 2 ^ (8 * (k + 1)) := by
      rw [Int.ediv_ediv_of_nonneg (by decide), show (8 * (k + 1)) = 8 + 8 * k by omega, Int.pow_add]
      rfl
    rw [e]
    rfl
theorem valL_be : ∀ (k : Nat) (v : Int), valL (beL k v) = v % 256 ^ k
  | 0, v => by simp [beL, valL, Int.emod_one]
  | k + 1, v => by
    rw [beL_snoc, valL_snoc, valL_be k (v / 256)]
    have h0 : ((UInt8.ofNat (v % 256).toNat).toNat : Int) = v % 256 := by
      rw [UInt8.toNat_ofNat']
      omega
    rw [h0, Int.pow_succ]
    have h1 : 0 < (256 : Int) ^ k := Int.pow_pos (by decide)
    generalize (256 : Int) ^ k = M at *
    have h2 := Int.emod_nonneg (v / 256) (by omega : M ≠ 0)
    have h3 := Int.emod_lt_of_pos (v / 256) h1
    have h5 := Int.mul_ediv_add_emod (v / 256) M
    have h6 := Int.mul_ediv_add_emod v 256
    have h4 : v = (v / 256 % M * 256 + v % 256) + M * 256 * (v / 256 / M) := by
      have : M * 256 * (v / 256 / M) = 256 * (M * (v / 256 / M)) := by rw [Int.mul_comm M 256, Int.mul_assoc]
      omega
    have h7 := Int.emod_eq_of_lt (a := v / 256 % M * 256 + v % 256) (b := M * 256) (by omega) (by omega)
    conv => rhs; rw [h4, Int.add_mul_emod_self_left]
    exact h7.symm
theorem be_valL (l : List UInt8) : beL l.length (valL l) = l := by
  suffices h : ∀ (n : Nat) (l : List UInt8), l.length = n → beL n (valL l) = l from h _ l rfl
  intro n
  induction n with
  | zero => intro l h; rw [List.eq_nil_of_length_eq_zero h]; rfl
  | succ n ih =>
    intro l h
    obtain ⟨a, b, rfl⟩ : ∃ a b, l = a ++ [b] := ⟨l.dropLast, l.getLast (by intro h2; simp [h2] at h), (List.dropLast_concat_getLast _).symm⟩
    have ha : a.length = n := by simpa using h
    have hb := b.toNat_lt
    rw [beL_snoc, valL_snoc, show (valL a * 256 + (b.toNat : Int)) / 256 = valL a by omega, show (valL a * 256 + (b.toNat : Int)) % 256 = b.toNat by omega, ih a ha]
    simp
theorem ext_list (s : ByteArray) (a b : Nat) : (s.extract a b).data.toList = (s.data.toList.drop a).take (b - a) := by
  rw [ByteArray.data_extract, Array.toList_extract, List.extract_eq_take_drop]
theorem enc_list (v sz pg pk : Int) (L : List ByteArray) : (encS v sz pg pk L).data.toList = beL 2 v ++ (beL 4 sz ++ (beL 2 pg ++ (beL 1 pk ++ L.flatMap fun s => s.data.toList))) := by
  unfold encS numS joinS
  rw [ByteArray.data_append]
  simp [numL]
theorem flat_at : ∀ (L : List ByteArray) (i : Nat) (q : ByteArray), (∀ s ∈ L, s.size = 32) → L[i]? = some q → ((L.flatMap fun s => s.data.toList).drop (32 * i)).take 32 = q.data.toList
  | [], i, q, _, h => by simp at h
  | a :: L, 0, q, h, h1 => by
    obtain rfl : a = q := by simpa using h1
    rw [List.flatMap_cons, Nat.mul_zero, List.drop_zero, List.take_left']
    rw [list_len]; exact h _ (by simp)
  | a :: L, i + 1, q, h, h1 => by
    have ha : a.data.toList.length = 32 := by rw [list_len]; exact h _ (by simp)
    rw [List.flatMap_cons, show 32 * (i + 1) = a.data.toList.length + 32 * i by omega, List.drop_append]
    rw [show List.drop (a.data.toList.length + 32 * i) a.data.toList = [] from List.drop_of_length_le (by omega), show a.data.toList.length + 32 * i - a.data.toList.length = 32 * i by omega, List.nil_append]
    exact flat_at L i q (fun s hs => h s (by simp [hs])) (by simpa using h1)
/-- The parts of the encoded bytes. -/
theorem enc_parts {v sz pg pk : Int} {L : List ByteArray} (hv : 0 ≤ v ∧ v ≤ 65535) (hs : 0 ≤ sz ∧ sz ≤ 65536) (hp : 0 ≤ pg ∧ pg ≤ 65535) (hk : 0 ≤ pk ∧ pk ≤ 255) (S : ByteArray) (hS : encS v sz pg pk L = S) : valS (S.extract 0 2) = v ∧ valS (S.extract 2 6) = sz ∧ valS (S.extract 6 8) = pg ∧ valS (S.extract 8 9) = pk := by
  have e := enc_list v sz pg pk L
  rw [hS] at e
  refine ⟨?_, ?_, ?_, ?_⟩ <;> rw [valS_L, ext_list, e]
  · rw [show List.take (2 - 0) (List.drop 0 (beL 2 v ++ (beL 4 sz ++ (beL 2 pg ++ (beL 1 pk ++ L.flatMap fun s => s.data.toList))))) = beL 2 v from rfl, valL_be]
    exact Int.emod_eq_of_lt hv.1 (by omega)
  · rw [show List.take (6 - 2) (List.drop 2 (beL 2 v ++ (beL 4 sz ++ (beL 2 pg ++ (beL 1 pk ++ L.flatMap fun s => s.data.toList))))) = beL 4 sz from rfl, valL_be]
    exact Int.emod_eq_of_lt hs.1 (by omega)
  · rw [show List.take (8 - 6) (List.drop 6 (beL 2 v ++ (beL 4 sz ++ (beL 2 pg ++ (beL 1 pk ++ L.flatMap fun s => s.data.toList))))) = beL 2 pg from rfl, valL_be]
    exact Int.emod_eq_of_lt hp.1 (by omega)
  · rw [show List.take (9 - 8) (List.drop 8 (beL 2 v ++ (beL 4 sz ++ (beL 2 pg ++ (beL 1 pk ++ L.flatMap fun s => s.data.toList))))) = beL 1 pk from rfl, valL_be]
    exact Int.emod_eq_of_lt hk.1 (by omega)
theorem clL_at {d : ByteArray} {N i : Nat} (h : i < N) : (clL d N)[i]? = some (pgS (d.extract 9 d.size) 32 i) := by simp [clL, h]
theorem ba_ext {a b : ByteArray} (h : a.data.toList = b.data.toList) : a = b := ByteArray.ext (Array.toList_inj.1 h)
/-- The digests of the encoded bytes. -/
theorem enc_cl {v sz pg pk : Int} {L : List ByteArray} (h : ∀ s ∈ L, s.size = 32) : clL (encS v sz pg pk L) L.length = L := by
  have hz := encS_size (v := v) (sz := sz) (pg := pg) (pk := pk) h
  refine eq_of_allS (clL_len _ _) fun j hj => ?_
  rw [clL_len] at hj
  obtain ⟨q, hq⟩ : ∃ q, L[j]? = some q := ⟨_, List.getElem?_eq_getElem hj⟩
  rw [clL_at hj, hq, pg_ref (by omega)]
  congr 1
  apply ba_ext
  rw [ext_list, enc_list, ← flat_at L j q h hq, show 9 + 32 * j + 32 - (9 + 32 * j) = 32 by omega, ← List.drop_drop]
  rfl
/-- What is encoded is decoded. -/
theorem de_enc {v sz pg pk : Int} {L : List ByteArray} (h : chkM v sz pg pk L = 0) (S : ByteArray) (hS : encS v sz pg pk L = S) : deE S = 0 ∧ deN S = L.length ∧ clL S L.length = L := by
  obtain ⟨h1, h2, h3, h4, h5⟩ := chk_ok h
  have hb := siz_bd h1
  obtain ⟨k1, k2, k3, k4⟩ := enc_parts (L := L) (by omega) (by omega) (by omega) (by omega) S hS
  have hz := encS_size (v := v) (sz := sz) (pg := pg) (pk := pk) h5
  have hc := enc_cl (v := v) (sz := sz) (pg := pg) (pk := pk) h5
  rw [hS] at hz hc
  have hn : deN S = L.length := by unfold deN; omega
  refine ⟨?_, hn, hc⟩
  have hd : deC S = 0 := by rw [deC, k1, k2, k3, k4, hn, hc]; exact h
  rw [deE, if_neg (by omega), hd, if_neg (by decide)]
/-- A beginning of the encoded bytes is refused. -/
theorem de_cut {v sz pg pk : Int} {L : List ByteArray} (h : chkM v sz pg pk L = 0) (S : ByteArray) (hS : encS v sz pg pk L = S) (k : Nat) (hk : k < S.size) : deE (S.extract 0 k) = 10 := by
  obtain ⟨h1, h2, h3, h4, h5⟩ := chk_ok h
  have hb := siz_bd h1
  obtain ⟨k1, k2, k3, k4⟩ := enc_parts (L := L) (by omega) (by omega) (by omega) (by omega) S hS
  have hz := encS_size (v := v) (sz := sz) (pg := pg) (pk := pk) h5
  rw [hS] at hz
  have hT : (S.extract 0 k).size = k := by rw [ByteArray.size_extract]; omega
  rw [deE, hT]
  by_cases hm : k < 9 ∨ (k - 9) % 32 ≠ 0
  · rw [if_pos hm]
  · rw [if_neg hm]
    have hx : ∀ a b : Nat, b ≤ k → (S.extract 0 k).extract a b = S.extract a b := fun a b hb => by
      apply ByteArray.ext
      simp only [ByteArray.data_extract, Array.extract_extract]
      congr 1 <;> omega
    have hd : deC (S.extract 0 k) ≠ 0 := fun hc => by
      unfold deC at hc
      rw [hx 0 2 (by omega), hx 2 6 (by omega), hx 6 8 (by omega), hx 8 9 (by omega), k1, k2, k3, k4] at hc
      obtain ⟨_, _, _, j4, _⟩ := chk_ok hc
      rw [clL_len, deN, hT] at j4
      omega
    rw [if_pos hd]
theorem cl_flat (d : ByteArray) : ∀ N, 9 + 32 * N ≤ d.size → ((clL d N).flatMap fun s => s.data.toList) = (d.data.toList.drop 9).take (32 * N)
  | 0, _ => by simp [clL]
  | N + 1, h => by
    rw [clL_succ, List.flatMap_append, cl_flat d N (by omega), pg_ref (by omega), List.flatMap_cons, List.flatMap_nil, List.append_nil, ext_list, show 32 * (N + 1) = 32 * N + 32 by omega, List.take_add, List.drop_drop, show 9 + 32 * N + 32 - (9 + 32 * N) = 32 by omega]
theorem beV {d : ByteArray} {a b : Nat} (hab : a ≤ b) (hb : b ≤ d.size) : beL (b - a) (valS (d.extract a b)) = (d.data.toList.drop a).take (b - a) := by
  rw [valS_L, ext_list]
  have hl : ((d.data.toList.drop a).take (b - a)).length = b - a := by rw [List.length_take, List.length_drop, list_len]; omega
  have := be_valL ((d.data.toList.drop a).take (b - a))
  rwa [hl] at this
/-- What is decoded is encoded so. -/
theorem enc_de {d : ByteArray} (h : deE d = 0) : chkM (valS (d.extract 0 2)) (valS (d.extract 2 6)) (valS (d.extract 6 8)) (valS (d.extract 8 9)) (clL d (deN d)) = 0 ∧ encS (valS (d.extract 0 2)) (valS (d.extract 2 6)) (valS (d.extract 6 8)) (valS (d.extract 8 9)) (clL d (deN d)) = d := by
  unfold deE at h
  split at h
  · omega
  rename_i h1
  split at h
  · omega
  rename_i h2
  refine ⟨Decidable.byContradiction h2, ?_⟩
  have hN : d.size = 9 + 32 * deN d := by unfold deN; omega
  apply ba_ext
  rw [enc_list, cl_flat d _ (by omega)]
  have b1 := beV (d := d) (a := 0) (b := 2) (by omega) (by omega)
  have b2 := beV (d := d) (a := 2) (b := 6) (by omega) (by omega)
  have b3 := beV (d := d) (a := 6) (b := 8) (by omega) (by omega)
  have b4 := beV (d := d) (a := 8) (b := 9) (by omega) (by omega)
  rw [show (2 : Nat) - 0 = 2 from rfl] at b1
  rw [show (6 : Nat) - 2 = 4 from rfl] at b2
  rw [show (8 : Nat) - 6 = 2 from rfl] at b3
  rw [show (9 : Nat) - 8 = 1 from rfl] at b4
  rw [b1, b2, b3, b4]
  have hl := list_len d
  generalize d.data.toList = l at hl
  have e5 : List.take (32 * deN d) (List.drop 9 l) = List.drop 9 l := List.take_of_length_le (by rw [List.length_drop]; omega)
  rw [e5, List.drop_zero]
  have s4 : List.take 1 (List.drop 8 l) ++ List.drop 9 l = List.drop 8 l := by
    have := List.take_append_drop 1 (List.drop 8 l); rwa [List.drop_drop] at this
  have s3 : List.take 2 (List.drop 6 l) ++ List.drop 8 l = List.drop 6 l := by
    have := List.take_append_drop 2 (List.drop 6 l); rwa [List.drop_drop] at this
  have s2 : List.take 4 (List.drop 2 l) ++ List.drop 6 l = List.drop 2 l := by
    have := List.take_append_drop 4 (List.drop 2 l); rwa [List.drop_drop] at this
  rw [s4, s3, s2, List.take_append_drop]
theorem de_cases (d : ByteArray) : deE d = 0 ∨ deE d = 10 := by
  unfold deE
  split
  · exact .inr rfl
  · split
    · exact .inr rfl
    · exact .inl rfl
end Go.Proofs.YtjofcjogbopkjaaGreat
