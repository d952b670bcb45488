/- Bits: the reference's writer. -/
import Derived.Test.YtdbcbclapipgdaaGreatDoorVO
import Derived.Test.YtdbcbclapipgdaaGreatDoorVN
import Derived.Test.YtdbcbclapipgdaaGreatDoorJ
import Derived.Test.YtdbcbclapipgdaaGreatDoorC6
set_option linter.unusedVariables false
set_option linter.unusedSimpArgs false
namespace Go.Proofs.YtdbcbclapipgdaaGreatDoor
open Go Av
set_option maxRecDepth 20000
set_option maxHeartbeats 2000000 in
theorem ac_rtext (m : Int) (s : ByteArray) (e e' : Int) (bs bs' : List Int) (n n' : Nat) (hn : n = bs.length) (hst : txtW bs e m s = (bs', e')) (hn' : n' = bs'.length) (hl : bs.length ≤ 524288) (hm : -9223372036854775808 ≤ m ∧ m ≤ 9223372036854775807) (hs : s.size ≤ 1000000) :
    ACalls Tryz.prog 128 [.pointer (some ⟨0, 0, none⟩), .int .i64 m, .string s] [some ⟨[.slice (some ⟨1, 0, none⟩) n n, .int .i64 e], true, 1⟩, some ⟨List.map (Value.int .u8) bs, true, 1⟩] (.tuple #[]) [some ⟨[.slice (some ⟨2, 0, none⟩) n' n', .int .i64 e'], true, 1⟩, none, some ⟨List.map (Value.int .u8) bs', true, 1⟩] := by
  unfold txtW at hst
  by_cases he : e = 0
  · subst he
    rw [if_neg (by simp)] at hst
    by_cases hr : 1 ≤ m ∧ m ≤ 4095
    · rw [if_neg (by simpa using hr)] at hst
      have HW := ac_rwidth m hm
      have hwb := wdth_bd m (by omega)
      by_cases hf : m < s.size ∨ bs.length + wdth m + 8 * s.size > 524288
      · rw [if_pos hf] at hst
        obtain ⟨rfl, rfl⟩ := Prod.mk.inj hst
        by_cases hf1 : m < s.size
        · subst hn hn'
          refine acalls_of_aw Tryz.func128 rfl rfl ?_
          repeat' first | intro h1 | refine st ?_ | refine st_call (HW) ?_ | refine Kc ?_ | refine Ka ?_ | refine Kb ?_ ?_ | fail
          all_goals first | exact pm_ret _ (renumD [0, 1, 1]) rfl | (exfalso; omega)
        · have HR := ac_roomF (wdth m + 8 * s.size) bs n hn (by omega) (by omega) hl
          subst hn hn'
          refine acalls_of_aw Tryz.func128 rfl rfl ?_
          repeat' first | intro h1 | refine st ?_ | refine st_call (HW) ?_ | refine stMW [0, 1] HR ?_ | refine Kc ?_ | refine Ka ?_ | refine Kb ?_ ?_ | fail
          all_goals first | exact pm_ret _ (renumD [0, 1, 1]) rfl | (exfalso; omega)
      · rw [if_neg hf] at hst
        obtain ⟨hb, rfl⟩ := Prod.mk.inj hst
        have HR := ac_roomT (wdth m + 8 * s.size) bs n hn (by omega) (by omega) hl
        obtain ⟨bs1, hb1⟩ : ∃ bs1, bs ++ bitsOf (wdth m).toNat (s.size : Int) = bs1 := ⟨_, rfl⟩
        have hl1 := congrArg List.length hb1
        rw [List.length_append, bitsOf_len] at hl1
        have HP := ac_rput (wdth m).toNat (s.size : Int) 0 bs bs1 n bs1.length (by omega) (by omega) hn hb1 rfl (by omega)
        rw [show (((wdth m).toNat : Nat) : Int) = wdth m by omega] at HP
        rw [hb1] at hb
        have hl2 := congrArg List.length hb
        rw [List.length_append, strBits_len] at hl2
        refine acalls_of_aw Tryz.func128 rfl rfl ?_
        repeat' first | intro h1 | refine st ?_ | refine st_call (HW) ?_ | refine stMW [0, 1] HR ?_ | refine stMW [0, 1] HP ?_ | refine Kc ?_ | refine Ka ?_ | refine Kb ?_ ?_ | fail
        refine aw_loopg
          (S := fun y : Ug => [(0, .pointer (some ⟨0, 0, none⟩)), (2, .string s), (6, .int .i64 y.i)])
          (B := fun y : Ug => [some ⟨[.slice (some ⟨2, 0, none⟩) y.n y.n, .int .i64 0], true, 1⟩, none, some ⟨List.map (Value.int .u8) y.bs, true, 1⟩])
          (R := fun y : Ug => y.i ≤ s.size ∧ y.bs = bs1 ++ strBits s y.i ∧ y.n = y.bs.length)
          (μ := fun y : Ug => s.size - y.i) ⟨0, bs1, bs1.length⟩ (fitsD [0, 1, 2]) ⟨Nat.zero_le _, by simp [strBits], rfl⟩ ?_
        clear HP HR hn
        rintro ⟨i, bs2, n2⟩ ⟨g1, g2, g4⟩
        dsimp only at *
        have hl3 := congrArg List.length g2
        rw [List.length_append, strBits_len] at hl3
        by_cases hi : i < s.size
        · obtain ⟨c, hc⟩ : ∃ c, byteAt s i = c := ⟨_, rfl⟩
          have hcl := c.toNat_lt
          obtain ⟨bs3, hb3⟩ : ∃ bs3, bs2 ++ bitsOf 8 (c.toNat : Int) = bs3 := ⟨_, rfl⟩
          have hl4 := congrArg List.length hb3
          rw [List.length_append, bitsOf_len] at hl4
          have HQ := ac_rput 8 (c.toNat : Int) 0 bs2 bs3 n2 bs3.length (by omega) (by omega) g4 hb3 rfl (by omega)
          rw [← hc] at HQ
          repeat' first | intro h1 | refine st (h := ok_conv_u8 rfl (by decide)) ?_ | refine st ?_ | refine stMW [0, 2] HQ ?_ | refine Kc ?_ | refine Ka ?_ | refine Kb ?_ ?_ | fail
          refine Exists.intro ⟨i + 1, bs3, bs3.length⟩ ⟨fitsD [0, 1, 3], ⟨hi, by dsimp only; rw [strBits, ← List.append_assoc, ← g2, hc, hb3], rfl⟩, by dsimp only; omega⟩
        · obtain rfl : i = s.size := by omega
          repeat' first | intro h1 | refine st ?_ | refine Kc ?_ | refine Ka ?_ | refine Kb ?_ ?_ | fail
          have hbb : bs2 = bs' := by rw [g2]; exact hb
          subst hbb
          subst g4 hn'
          exact pm_normal _ (renumD [0, 1, 2]) rfl
    · rw [if_pos (by simpa using hr)] at hst
      obtain ⟨rfl, rfl⟩ := Prod.mk.inj hst
      subst hn hn'
      refine acalls_of_aw Tryz.func128 rfl rfl ?_
      repeat' first | intro h1 | refine st ?_ | refine Kc ?_ | refine Ka ?_ | refine Kb ?_ ?_ | fail
      all_goals first | exact pm_ret _ (renumD [0, 1, 1]) rfl | (exfalso; omega)
  · rw [if_pos he] at hst
    obtain ⟨rfl, rfl⟩ := Prod.mk.inj hst
    subst hn hn'
    refine acalls_of_aw Tryz.func128 rfl rfl ?_
    repeat' first | intro h1 | refine st ?_ | refine Kc ?_ | refine Ka ?_ | refine Kb ?_ ?_ | fail
    all_goals first | exact pm_ret _ (renumD [0, 1, 1]) rfl | (exfalso; omega)
/-- One bit more, in bytes that are there already. -/
theorem pk_in (bs : List Int) (N k : Nat) (hk : k < bs.length) (hN : (bs.length + 7) / 8 = N) :
    (pkN bs k ++ List.replicate (N - (k + 7) / 8) 0).set (k / 8) (bitv .or .u8 ((pkN bs k ++ List.replicate (N - (k + 7) / 8) 0).getD (k / 8) 0) (IntKind.u8.wrap (bs.getD k 0 * 2 ^ (7 - k % 8)))) = pkN bs (k + 1) ++ List.replicate (N - (k + 1 + 7) / 8) 0 := by
  have hl := pkN_len bs k
  rw [pkN, pkS]
  by_cases h8 : k % 8 = 0
  · rw [if_pos h8]
    have e : List.replicate (N - (k + 7) / 8) (0 : Int) = [0] ++ List.replicate (N - (k + 1 + 7) / 8) 0 := by
      rw [show N - (k + 7) / 8 = (N - (k + 1 + 7) / 8) + 1 by omega, List.replicate_succ]
      rfl
    rw [e, ← List.append_assoc]
    have hlt : k / 8 < (pkN bs k ++ [0]).length := by rw [List.length_append, hl]; simp; omega
    rw [List.set_append_left _ _ hlt]
    congr 3
    rw [List.getD_eq_getElem?_getD, List.getD_eq_getElem?_getD, List.getElem?_append_left hlt]
  · rw [if_neg h8]
    have hlt : k / 8 < (pkN bs k).length := by rw [hl]; omega
    rw [List.set_append_left _ _ hlt, show (k + 1 + 7) / 8 = (k + 7) / 8 by omega]
    congr 3
    rw [List.getD_eq_getElem?_getD, List.getD_eq_getElem?_getD, List.getElem?_append_left hlt]
structure Bg where
  i : Nat
set_option maxHeartbeats 2000000 in
theorem ac_rbytes (n : Nat) (bs Z : List Int) (hn : n = bs.length) (hZ : pack bs = Z) (hl : bs.length ≤ 524288) (hbit : ∀ b ∈ bs, 0 ≤ b ∧ b ≤ 255) : ACalls Tryz.prog 130 [.pointer (some ⟨0, 0, none⟩)] [some ⟨[.slice (some ⟨1, 0, none⟩) n n, .int .i64 0], false, 1⟩, some ⟨List.map (Value.int .u8) bs, false, 1⟩] (.tuple #[.string ⟨(Z.map b8).toArray⟩, .int .i64 0]) [none, none] := by
  have hb := bytes_u8 Z (hZ ▸ pkN_rng bs bs.length)
  have hZl : Z.length = (bs.length + 7) / 8 := by rw [← hZ, pack_len]
  obtain ⟨N, hN⟩ : ∃ N, (((n : Int) + 7) / 8).toNat = N := ⟨_, rfl⟩
  have hN' : (bs.length + 7) / 8 = N := by omega
  refine acalls_law Tryz.func130 rfl rfl rfl ?_
  repeat' first | intro h1 | refine st ?_ | refine Kc ?_ | refine Ka ?_ | refine Kb ?_ ?_ | refine J0 (id := 2) [0,1,3,7,0,31] 6 ?_ | refine J0 (id := 7) [0,0,2,0,0,16,56,120,0,256,768,1792,0,7936,16128,0,32768,98304,261888,524280,1048575,2097151] 21 ?_ | fail
  rw [hN]
  refine aw_loopg
    (S := fun y : Bg => [(0, .pointer (some ⟨0, 0, none⟩)), (4, .slice (some ⟨2, 0, none⟩) N N), (5, .int .i64 y.i)])
    (B := fun y : Bg => [some ⟨[.slice (some ⟨1, 0, none⟩) n n, .int .i64 0], false, 1⟩, some ⟨List.map (Value.int .u8) bs, false, 1⟩, some ⟨List.map (Value.int .u8) (pkN bs y.i ++ List.replicate (N - (y.i + 7) / 8) 0), true, 1⟩])
    (R := fun y : Bg => y.i ≤ bs.length)
    (μ := fun y : Bg => bs.length - y.i) ⟨0⟩ (fitsD [0, 1, 2] (h4 := .blk rfl (WkL.refl _) rfl (.blk rfl (.ofEq (renL_map (fun _ => rfl) _).symm) rfl (.blk rfl (.ofEq (by refine Eq.trans ?_ (renL_map (fun _ => rfl) _).symm; simp [pkN, List.map_replicate])) rfl .nil)))) (Nat.zero_le _) ?_
  rintro ⟨i⟩ g1
  dsimp only at *
  have hpl := pkN_len bs i
  by_cases hi : i < bs.length
  · have e1 : min (7 - (i : Int) % 8).toNat IntKind.u8.bits = 7 - i % 8 := by show min (7 - (i : Int) % 8).toNat 8 = _; omega
    have e2 : ((i : Int) / 8).toNat = i / 8 := by omega
    have hcl : (pkN bs i ++ List.replicate (N - (i + 7) / 8) 0).length = N := by simp [hpl]; omega
    repeat' first | intro h1 | refine st ?_ | refine Kc ?_ | refine Ka ?_ | refine Kb ?_ ?_ | refine J0 (id := 2) [0,1,3,7,0,31] 6 ?_ | refine J0 (id := 7) [0,0,2,0,0,16,56,120,0,256,768,1792,0,7936,16128,0,32768,98304,261888,524280,1048575,2097151] 21 ?_ | fail
    refine Exists.intro ⟨i + 1⟩ ⟨fitsD [0, 1, 2] (h4 := .blk rfl (WkL.refl _) rfl (.blk rfl (.ofEq (renL_map (fun _ => rfl) _).symm) rfl (.blk rfl (.ofEq (by
      refine Eq.trans ?_ (renL_map (fun _ => rfl) _).symm
      rw [← pk_in bs N i hi hN', ← e1, ← e2]
      rfl)) rfl .nil))), hi, by dsimp only; omega⟩
  · obtain rfl : i = bs.length := by omega
    have hq : pkN bs bs.length ++ List.replicate (N - (bs.length + 7) / 8) 0 = Z := by rw [hN', Nat.sub_self, ← hZ]; simp [pack]
    rw [hq]
    repeat' first | intro h1 | refine st (h := ok_bytes_str (l := Z.map b8) rfl rfl (by simp; omega) ((take_full (by simp; omega)).trans hb)) ?_ | refine st ?_ | refine Kc ?_ | refine Ka ?_ | refine Kb ?_ ?_ | refine J0 (id := 2) [0,1,3,7,0,31] 6 ?_ | refine J0 (id := 7) [0,0,2,0,0,16,56,120,0,256,768,1792,0,7936,16128,0,32768,98304,261888,524280,1048575,2097151] 21 ?_ | fail
    rfl
end Go.Proofs.YtdbcbclapipgdaaGreatDoor
