/- Bits: the writer. -/
import Derived.Test.YtdbcbclapipgdaaGreatDoorVO
import Derived.Test.YtdbcbclapipgdaaGreatDoorJ
import Derived.Test.YtdbcbclapipgdaaGreatDoorC4
import Derived.Test.YtdbcbclapipgdaaGreatDoorC9
set_option linter.unusedVariables false
set_option linter.unusedSimpArgs false
namespace Go.Proofs.YtdbcbclapipgdaaGreatDoor
open Go Av
set_option maxRecDepth 20000
structure Pg where
  i : Int
  bs : List Int
  Z : List Int
  n : Nat
  k : Int
set_option maxHeartbeats 2000000 in
theorem ac_put (w : Nat) (x e : Int) (bs bs' Z Z' : List Int) (n n' : Nat) (k k' : Int) (hx : 0 ≤ x) (hw : w ≤ 64) (hZ : pack bs = Z) (hn : n = Z.length) (hk : k = bs.length) (hb : bs ++ bitsOf w x = bs') (hZ' : pack bs' = Z') (hn' : n' = Z'.length) (hk' : k' = bs'.length) (hle : bs'.length ≤ 600000) :
    ACalls Tryz.prog 169 [.pointer (some ⟨0, 0, none⟩), .int .i64 w, .int .u64 x] [some ⟨[.slice (some ⟨1, 0, none⟩) n n, .int .i64 k, .int .i64 e], true, 1⟩, some ⟨List.map (Value.int .u8) Z, true, 1⟩] (.tuple #[]) [some ⟨[.slice (some ⟨2, 0, none⟩) n' n', .int .i64 k', .int .i64 e], true, 1⟩, none, some ⟨List.map (Value.int .u8) Z', true, 1⟩] := by
  have hbl : bs'.length = bs.length + w := by rw [← hb, List.length_append, bitsOf_len]
  refine acalls_of_aw Tryz.func169 rfl rfl ?_
  repeat' first | intro h1 | refine st ?_ | refine stm ?_ | refine Ja ?_ | refine Jb ?_ | refine Jc ?_ | refine Jd ?_ | refine Je ?_ | refine Jf ?_ | refine Jg ?_ | refine Jh ?_ ?_ | refine Ji ?_ ?_ | refine Jj ?_ ?_ | refine run_nil ?_ | refine sd ?_ | refine sdl ?_ | refine sdm (n := 1) ?_ | refine sdm ?_ | refine sdb ?_ | refine Jk ?_ | refine Jl ?_ | refine Jm ?_ | refine Jn ?_ ?_ | refine Jo ?_ ?_ | refine Jp ?_ ?_ | refine rund_nil ?_ | refine Jz ?_ | refine Jw ?_ | refine J0 (id := 5) [0,1,3,7,0,16,48,112,240,511,1023,0,0,6144,14336,30720,0,65536,196608,458752,983040,2031616,4192256,8388607,16777215,33554431] 25 ?_ | refine aw_block ?_ | refine Jq ?_ | refine Jr ?_ | refine Js ?_ | refine Jt ?_ | refine Ju ?_ ?_ | refine Jv ?_ ?_ | refine Jy ?_ | refine aw_exit ?_ | refine aw_ret ?_ | refine pp_ret ?_ | refine pp_normal ?_
  refine aw_loopg
    (S := fun y : Pg => [(0, .pointer (some ⟨0, 0, none⟩)), (2, .int .u64 x), (6, .int .i64 y.i)])
    (B := fun y : Pg => [some ⟨[.slice (some ⟨2, 0, none⟩) y.n y.n, .int .i64 y.k, .int .i64 e], true, 1⟩, none, some ⟨List.map (Value.int .u8) y.Z, true, 1⟩])
    (R := fun y : Pg => -1 ≤ y.i ∧ y.i < w ∧ pack y.bs = y.Z ∧ y.n = y.Z.length ∧ y.k = y.bs.length ∧ y.bs ++ bitsOf (y.i + 1).toNat x = bs')
    (μ := fun y : Pg => (y.i + 1).toNat) ⟨(w : Int) - 1, bs, Z, n, k⟩ (fitsD [0, 1, 1]) ⟨by dsimp only; omega, by dsimp only; omega, hZ, hn, hk, by dsimp only; rw [show ((w : Int) - 1 + 1).toNat = w by omega]; exact hb⟩ ?_
  clear hZ hn hk hb
  rintro ⟨i, bs, Z, n, k⟩ ⟨g1, g2, hZ, hn, hk, hb⟩
  dsimp only at *
  have hZl : Z.length = (bs.length + 7) / 8 := by rw [← hZ, pack_len]
  have hl2 : bs.length + (i + 1).toNat = bs'.length := by rw [← hb, List.length_append, bitsOf_len]
  by_cases hi : 0 ≤ i
  · have hb1 : bs ++ [x / 2 ^ i.toNat % 2] ++ bitsOf i.toNat x = bs' := by
      rw [← hb, show (i + 1).toNat = i.toNat + 1 by omega, bitsOf, List.append_assoc]
      rfl
    have ha := bv_and1 .u64 (.inl rfl) (x / 2 ^ (min i.toNat IntKind.u64.bits))
    rw [show min i.toNat IntKind.u64.bits = i.toNat from Nat.min_eq_left (by show i.toNat ≤ 64; omega)] at ha
    have e1 : min (7 - k % 8).toNat IntKind.u8.bits = 7 - bs.length % 8 := by show min (7 - k % 8).toNat 8 = _; omega
    have e2 : (k / 8).toNat = bs.length / 8 := by omega
    have e3 : min i.toNat IntKind.u64.bits = i.toNat := Nat.min_eq_left (by show i.toNat ≤ 64; omega)
    have e4 : IntKind.u8.wrap (x / 2 ^ i.toNat % 2) = x / 2 ^ i.toNat % 2 := wrap_id (by simp [IntKind.min, IntKind.signed]; omega) (by simp [IntKind.max, IntKind.signed, IntKind.bits]; omega)
    by_cases h8 : bs.length % 8 = 0
    · have h8' : k % 8 = 0 := by omega
      repeat' first | intro h1 | refine run_step (ok_append (cs := List.map (Value.int .u8) (Z ++ [0])) (olds := List.map (Value.int .u8) Z) rfl rfl rfl rfl rfl rfl (Src.slc rfl Ty.eq rfl (Nat.le_of_ble_eq_true rfl) rfl rfl rfl) (by simp; omega) (take_full (by simp; omega)) (by rw [List.map_append]; rfl) (by omega) (by (repeat constructor))) (Nat.le_of_ble_eq_true rfl) ?_ | refine st ?_ | refine stm ?_ | refine Ja ?_ | refine Jb ?_ | refine Jc ?_ | refine Jd ?_ | refine Je ?_ | refine Jf ?_ | refine Jg ?_ | refine Jh ?_ ?_ | refine Ji ?_ ?_ | refine Jj ?_ ?_ | refine run_nil ?_ | refine sd ?_ | refine sdl ?_ | refine sdm (n := 1) ?_ | refine sdm ?_ | refine sdb ?_ | refine Jk ?_ | refine Jl ?_ | refine Jm ?_ | refine Jn ?_ ?_ | refine Jo ?_ ?_ | refine Jp ?_ ?_ | refine rund_nil ?_ | refine Jz ?_ | refine Jw ?_ | refine J0 (id := 5) [0,1,3,7,0,16,48,112,240,511,1023,0,0,6144,14336,30720,0,65536,196608,458752,983040,2031616,4192256,8388607,16777215,33554431] 25 ?_ | refine aw_block ?_ | refine Jq ?_ | refine Jr ?_ | refine Js ?_ | refine Jt ?_ | refine Ju ?_ ?_ | refine Jv ?_ ?_ | refine Jy ?_ | refine aw_exit ?_ | refine aw_ret ?_ | refine pp_ret ?_ | refine pp_normal ?_
      refine Exists.intro ⟨i - 1, bs ++ [x / 2 ^ i.toNat % 2], pkS Z bs.length (x / 2 ^ i.toNat % 2), _, _⟩ ⟨fitsD [0, 1, 4] (h4 := .blk rfl (WkL.refl _) rfl (.hole (.blk rfl (.ofEq (by
        refine Eq.trans ?_ (renL_map (fun _ => rfl) _).symm
        rw [pkS, if_pos h8]
        simp only [e1, e2, e3, ha, e4])) rfl .nil))), ⟨by dsimp only; omega, by dsimp only; omega, by dsimp only; rw [pack_snoc, hZ], ?_, ?_, ?_⟩, by dsimp only; omega⟩
      · dsimp only
        rw [pkS_len, if_pos h8]
        omega
      · dsimp only
        rw [List.length_append, List.length_singleton]
        omega
      · dsimp only
        rw [show (i - 1 + 1).toNat = i.toNat by omega]
        exact hb1
    · have h8' : ¬ k % 8 = 0 := by omega
      repeat' first | intro h1 | refine st ?_ | refine stm ?_ | refine Ja ?_ | refine Jb ?_ | refine Jc ?_ | refine Jd ?_ | refine Je ?_ | refine Jf ?_ | refine Jg ?_ | refine Jh ?_ ?_ | refine Ji ?_ ?_ | refine Jj ?_ ?_ | refine run_nil ?_ | refine sd ?_ | refine sdl ?_ | refine sdm (n := 1) ?_ | refine sdm ?_ | refine sdb ?_ | refine Jk ?_ | refine Jl ?_ | refine Jm ?_ | refine Jn ?_ ?_ | refine Jo ?_ ?_ | refine Jp ?_ ?_ | refine rund_nil ?_ | refine Jz ?_ | refine Jw ?_ | refine J0 (id := 5) [0,1,3,7,0,16,48,112,240,511,1023,0,0,6144,14336,30720,0,65536,196608,458752,983040,2031616,4192256,8388607,16777215,33554431] 25 ?_ | refine aw_block ?_ | refine Jq ?_ | refine Jr ?_ | refine Js ?_ | refine Jt ?_ | refine Ju ?_ ?_ | refine Jv ?_ ?_ | refine Jy ?_ | refine aw_exit ?_ | refine aw_ret ?_ | refine pp_ret ?_ | refine pp_normal ?_
      refine Exists.intro ⟨i - 1, bs ++ [x / 2 ^ i.toNat % 2], pkS Z bs.length (x / 2 ^ i.toNat % 2), _, _⟩ ⟨fitsD [0, 1, 2] (h4 := .blk rfl (WkL.refl _) rfl (.hole (.blk rfl (.ofEq (by
        refine Eq.trans ?_ (renL_map (fun _ => rfl) _).symm
        rw [pkS, if_neg h8]
        simp only [e1, e2, e3, ha, e4])) rfl .nil))), ⟨by dsimp only; omega, by dsimp only; omega, by dsimp only; rw [pack_snoc, hZ], ?_, ?_, ?_⟩, by dsimp only; omega⟩
      · dsimp only
        rw [pkS_len, if_neg h8]
        omega
      · dsimp only
        rw [List.length_append, List.length_singleton]
        omega
      · dsimp only
        rw [show (i - 1 + 1).toNat = i.toNat by omega]
        exact hb1
  · obtain rfl : i = -1 := by omega
    repeat' first | intro h1 | refine st ?_ | refine stm ?_ | refine Ja ?_ | refine Jb ?_ | refine Jc ?_ | refine Jd ?_ | refine Je ?_ | refine Jf ?_ | refine Jg ?_ | refine Jh ?_ ?_ | refine Ji ?_ ?_ | refine Jj ?_ ?_ | refine run_nil ?_ | refine sd ?_ | refine sdl ?_ | refine sdm (n := 1) ?_ | refine sdm ?_ | refine sdb ?_ | refine Jk ?_ | refine Jl ?_ | refine Jm ?_ | refine Jn ?_ ?_ | refine Jo ?_ ?_ | refine Jp ?_ ?_ | refine rund_nil ?_ | refine Jz ?_ | refine Jw ?_ | refine J0 (id := 5) [0,1,3,7,0,16,48,112,240,511,1023,0,0,6144,14336,30720,0,65536,196608,458752,983040,2031616,4192256,8388607,16777215,33554431] 25 ?_ | refine aw_block ?_ | refine Jq ?_ | refine Jr ?_ | refine Js ?_ | refine Jt ?_ | refine Ju ?_ ?_ | refine Jv ?_ ?_ | refine Jy ?_ | refine aw_exit ?_ | refine aw_ret ?_ | refine pp_ret ?_ | refine pp_normal ?_
    have hbb : bs = bs' := by rw [← hb]; simp [bitsOf]
    subst hbb
    rw [hZ] at hZ'
    subst hZ' hn hn' hk hk'
    exact pm_normal _ (renumD [0, 1, 2]) rfl
theorem bl_le (x w : Nat) : bl x ≤ w ↔ x < 2 ^ w := by
  unfold bl
  split
  · rename_i h0
    subst h0
    have : 0 < 2 ^ w := Nat.pos_of_ne_zero (by simp)
    omega
  · rename_i h0
    rw [← Nat.log2_lt h0]
    omega
theorem bitsOf_mod (w : Nat) (x : Int) (hw : w ≤ 64) : bitsOf w (x % 18446744073709551616) = bitsOf w x := by
  induction w with
  | zero => rfl
  | succ w ih =>
    rw [bitsOf, bitsOf, ih (by omega)]
    congr 1
    have h2 : (18446744073709551616 : Int) = 2 ^ w * (2 * 2 ^ (63 - w)) := by
      have : (2 : Int) ^ w * (2 * 2 ^ (63 - w)) = 2 ^ (w + 1 + (63 - w)) := by rw [Int.pow_add, Int.pow_succ, Int.mul_assoc]
      rw [this, show w + 1 + (63 - w) = 64 by omega]
      rfl
    have h3 : (0 : Int) < 2 ^ w := Int.pow_pos (by omega)
    have e := Int.emod_add_mul_ediv x 18446744073709551616
    generalize x / 18446744073709551616 = q at e
    generalize x % 18446744073709551616 = r at e
    rw [← e, h2, Int.mul_assoc, Int.add_mul_ediv_left _ _ (by omega), Int.mul_assoc, Int.add_mul_emod_self_left]
set_option maxHeartbeats 1000000 in
theorem ac_field (right fits : Bool) (w x e e' : Int) (bs bs' Z Z' : List Int) (n n' : Nat) (k k' : Int) (hZ : pack bs = Z) (hn : n = Z.length) (hk : k = bs.length) (hst : fieldW bs e right fits w x = (bs', e')) (hZ' : pack bs' = Z') (hn' : n' = Z'.length) (hk' : k' = bs'.length)
    (hl : bs.length ≤ 524288) (hw : right = true → 1 ≤ w ∧ w ≤ 63) (hx : -9223372036854775808 ≤ x ∧ x ≤ 9223372036854775807) :
    ACalls Tryz.prog 166 [.pointer (some ⟨0, 0, none⟩), .bool right, .bool fits, .int .i64 w, .int .i64 x] [some ⟨[.slice (some ⟨1, 0, none⟩) n n, .int .i64 k, .int .i64 e], true, 1⟩, some ⟨List.map (Value.int .u8) Z, true, 1⟩] (.tuple #[]) [some ⟨[.slice (some ⟨2, 0, none⟩) n' n', .int .i64 k', .int .i64 e'], true, 1⟩, none, some ⟨List.map (Value.int .u8) Z', true, 1⟩] := by
  unfold fieldW at hst
  by_cases he : e = 0
  · subst he
    rw [if_neg (by simp)] at hst
    cases right
    · rw [if_pos rfl] at hst
      obtain ⟨rfl, rfl⟩ := Prod.mk.inj hst
      rw [hZ] at hZ'; subst hZ' hn hn' hk hk'
      refine acalls_of_aw Tryz.func166 rfl rfl ?_
      repeat' first | intro h1 | refine st ?_ | refine stm ?_ | refine Ja ?_ | refine Jb ?_ | refine Jc ?_ | refine Jd ?_ | refine Je ?_ | refine Jf ?_ | refine Jg ?_ | refine Jh ?_ ?_ | refine Ji ?_ ?_ | refine Jj ?_ ?_ | refine run_nil ?_ | refine Jz ?_ | refine Jw ?_ | refine aw_block ?_ | refine Jq ?_ | refine Jr ?_ | refine Js ?_ | refine Jt ?_ | refine Ju ?_ ?_ | refine Jv ?_ ?_ | refine Jy ?_ | refine aw_exit ?_ | refine aw_ret ?_ | refine pp_ret ?_ | refine pp_normal ?_
      exact pm_normal _ (renumD [0, 1, 1]) rfl
    · rw [if_neg (by simp)] at hst
      have hw := hw rfl
      cases fits
      · rw [if_pos rfl] at hst
        obtain ⟨rfl, rfl⟩ := Prod.mk.inj hst
        rw [hZ] at hZ'; subst hZ' hn hn' hk hk'
        refine acalls_of_aw Tryz.func166 rfl rfl ?_
        repeat' first | intro h1 | refine st ?_ | refine stm ?_ | refine Ja ?_ | refine Jb ?_ | refine Jc ?_ | refine Jd ?_ | refine Je ?_ | refine Jf ?_ | refine Jg ?_ | refine Jh ?_ ?_ | refine Ji ?_ ?_ | refine Jj ?_ ?_ | refine run_nil ?_ | refine Jz ?_ | refine Jw ?_ | refine aw_block ?_ | refine Jq ?_ | refine Jr ?_ | refine Js ?_ | refine Jt ?_ | refine Ju ?_ ?_ | refine Jv ?_ ?_ | refine Jy ?_ | refine aw_exit ?_ | refine aw_ret ?_ | refine pp_ret ?_ | refine pp_normal ?_
        exact pm_normal _ (renumD [0, 1, 1]) rfl
      · rw [if_neg (by simp)] at hst
        by_cases hs : bs.length + w > 524288
        · rw [if_pos hs] at hst
          obtain ⟨rfl, rfl⟩ := Prod.mk.inj hst
          rw [hZ] at hZ'; subst hZ' hn hn' hk hk'
          refine acalls_of_aw Tryz.func166 rfl rfl ?_
          repeat' first | intro h1 | refine st ?_ | refine stm ?_ | refine Ja ?_ | refine Jb ?_ | refine Jc ?_ | refine Jd ?_ | refine Je ?_ | refine Jf ?_ | refine Jg ?_ | refine Jh ?_ ?_ | refine Ji ?_ ?_ | refine Jj ?_ ?_ | refine run_nil ?_ | refine Jz ?_ | refine Jw ?_ | refine aw_block ?_ | refine Jq ?_ | refine Jr ?_ | refine Js ?_ | refine Jt ?_ | refine Ju ?_ ?_ | refine Jv ?_ ?_ | refine Jy ?_ | refine aw_exit ?_ | refine aw_ret ?_ | refine pp_ret ?_ | refine pp_normal ?_
          exact pm_normal _ (renumD [0, 1, 1]) rfl
        · rw [if_neg hs] at hst
          obtain ⟨hb, rfl⟩ := Prod.mk.inj hst
          have hwr : IntKind.u64.wrap x = x % 18446744073709551616 := by simp [IntKind.wrap, IntKind.signed, IntKind.bits]
          have hbl := congrArg List.length hb
          rw [List.length_append, bitsOf_len] at hbl
          have HP := ac_put w.toNat (IntKind.u64.wrap x) 0 bs bs' Z Z' n n' k k' (by rw [hwr]; omega) (by omega) hZ hn hk (by rw [hwr, bitsOf_mod _ _ (by omega)]; exact hb) hZ' hn' hk' (by omega)
          rw [show ((w.toNat : Nat) : Int) = w by omega] at HP
          refine acalls_of_aw Tryz.func166 rfl rfl ?_
          repeat' first | intro h1 | refine st ?_ | refine stMW [0, 1] HP ?_ | refine stm ?_ | refine Ja ?_ | refine Jb ?_ | refine Jc ?_ | refine Jd ?_ | refine Je ?_ | refine Jf ?_ | refine Jg ?_ | refine Jh ?_ ?_ | refine Ji ?_ ?_ | refine Jj ?_ ?_ | refine run_nil ?_ | refine Jz ?_ | refine Jw ?_ | refine aw_block ?_ | refine Jq ?_ | refine Jr ?_ | refine Js ?_ | refine Jt ?_ | refine Ju ?_ ?_ | refine Jv ?_ ?_ | refine Jy ?_ | refine aw_exit ?_ | refine aw_ret ?_ | refine pp_ret ?_ | refine pp_normal ?_
          exact pm_normal _ (renumD [0, 1, 2]) rfl
  · rw [if_pos he] at hst
    obtain ⟨rfl, rfl⟩ := Prod.mk.inj hst
    rw [hZ] at hZ'; subst hZ' hn hn' hk hk'
    refine acalls_of_aw Tryz.func166 rfl rfl ?_
    repeat' first | intro h1 | refine st ?_ | refine stm ?_ | refine Ja ?_ | refine Jb ?_ | refine Jc ?_ | refine Jd ?_ | refine Je ?_ | refine Jf ?_ | refine Jg ?_ | refine Jh ?_ ?_ | refine Ji ?_ ?_ | refine Jj ?_ ?_ | refine run_nil ?_ | refine Jz ?_ | refine Jw ?_ | refine aw_block ?_ | refine Jq ?_ | refine Jr ?_ | refine Js ?_ | refine Jt ?_ | refine Ju ?_ ?_ | refine Jv ?_ ?_ | refine Jy ?_ | refine aw_exit ?_ | refine aw_ret ?_ | refine pp_ret ?_ | refine pp_normal ?_
    exact pm_normal _ (renumD [0, 1, 1]) rfl
theorem fieldW_congr {bs : List Int} {e w x : Int} {r r' f f' : Bool} (hr : r = r') (hf : r = true → f = f') : fieldW bs e r f w x = fieldW bs e r' f' w x := by
  subst hr
  unfold fieldW
  cases r
  · simp
  · rw [hf rfl]
theorem bl_lt (x w : Int) (hx : 0 ≤ x) (hw : 0 ≤ w) : bl x.toNat ≤ w ↔ x < 2 ^ w.toNat := by
  have h := bl_le x.toNat w.toNat
  rw [show ((w.toNat : Nat) : Int) = w by omega] at h
  rw [h]
  have : ((2 ^ w.toNat : Nat) : Int) = (2 : Int) ^ w.toNat := by push_cast; rfl
  omega
set_option maxHeartbeats 1000000 in
theorem ac_unsigned (w x : Int) (e e' : Int) (bs bs' Z Z' : List Int) (n n' : Nat) (k k' : Int) (hZ : pack bs = Z) (hn : n = Z.length) (hk : k = bs.length) (hst : unsW bs e w x = (bs', e')) (hZ' : pack bs' = Z') (hn' : n' = Z'.length) (hk' : k' = bs'.length) (hl : bs.length ≤ 524288) (hw : -9223372036854775808 ≤ w ∧ w ≤ 9223372036854775807) (hx : -9223372036854775808 ≤ x ∧ x ≤ 9223372036854775807) :
    ACalls Tryz.prog 124 [.pointer (some ⟨0, 0, none⟩), .int .i64 w, .int .i64 x] [some ⟨[.slice (some ⟨1, 0, none⟩) n n, .int .i64 k, .int .i64 e], true, 1⟩, some ⟨List.map (Value.int .u8) Z, true, 1⟩] (.tuple #[]) [some ⟨[.slice (some ⟨2, 0, none⟩) n' n', .int .i64 k', .int .i64 e'], true, 1⟩, none, some ⟨List.map (Value.int .u8) Z', true, 1⟩] := by
  unfold unsW at hst
  by_cases h1 : 1 ≤ w
  · by_cases h2 : w ≤ 63
    · by_cases h3 : 0 ≤ x
      · have HL := ac_len x (by omega)
        have HF := ac_field (decide (w ≤ 63)) (decide (bl x.toNat ≤ w)) w x e e' bs bs' Z Z' n n' k k' hZ hn hk ((fieldW_congr (by simp [h1, h2]) (fun _ => by rw [decide_eq_decide, bl_lt x w h3 (by omega)]; simp [h3])).trans hst) hZ' hn' hk' hl (by simp; omega) hx
        refine acalls_of_aw Tryz.func124 rfl rfl ?_
        repeat' first | intro h1 | refine st ?_ | refine st_call (HL) ?_ | refine stMW [0, 1] HF ?_ | refine stm ?_ | refine Ja ?_ | refine Jb ?_ | refine Jc ?_ | refine Jd ?_ | refine Je ?_ | refine Jf ?_ | refine Jg ?_ | refine Jh ?_ ?_ | refine Ji ?_ ?_ | refine Jj ?_ ?_ | refine run_nil ?_ | refine Jz ?_ | refine Jw ?_ | refine aw_block ?_ | refine Jq ?_ | refine Jr ?_ | refine Js ?_ | refine Jt ?_ | refine Ju ?_ ?_ | refine Jv ?_ ?_ | refine Jy ?_ | refine aw_exit ?_ | refine aw_ret ?_ | refine pp_ret ?_ | refine pp_normal ?_
        all_goals first | exact pm_normal _ (renumD [0, 1, 2]) rfl | (exfalso; omega)
      · have HF := ac_field (decide (w ≤ 63)) false w x e e' bs bs' Z Z' n n' k k' hZ hn hk ((fieldW_congr (by simp [h1, h2]) (fun _ => by simp [h3])).trans hst) hZ' hn' hk' hl (by simp; omega) hx
        refine acalls_of_aw Tryz.func124 rfl rfl ?_
        repeat' first | intro h1 | refine st ?_ | refine stMW [0, 1] HF ?_ | refine stm ?_ | refine Ja ?_ | refine Jb ?_ | refine Jc ?_ | refine Jd ?_ | refine Je ?_ | refine Jf ?_ | refine Jg ?_ | refine Jh ?_ ?_ | refine Ji ?_ ?_ | refine Jj ?_ ?_ | refine run_nil ?_ | refine Jz ?_ | refine Jw ?_ | refine aw_block ?_ | refine Jq ?_ | refine Jr ?_ | refine Js ?_ | refine Jt ?_ | refine Ju ?_ ?_ | refine Jv ?_ ?_ | refine Jy ?_ | refine aw_exit ?_ | refine aw_ret ?_ | refine pp_ret ?_ | refine pp_normal ?_
        all_goals first | exact pm_normal _ (renumD [0, 1, 2]) rfl | (exfalso; omega)
    · have HF := ac_field (decide (w ≤ 63)) false w x e e' bs bs' Z Z' n n' k k' hZ hn hk ((fieldW_congr (by simp [h2]) (fun h => by simp [h2] at h)).trans hst) hZ' hn' hk' hl (by simp; omega) hx
      refine acalls_of_aw Tryz.func124 rfl rfl ?_
      repeat' first | intro h1 | refine st ?_ | refine stMW [0, 1] HF ?_ | refine stm ?_ | refine Ja ?_ | refine Jb ?_ | refine Jc ?_ | refine Jd ?_ | refine Je ?_ | refine Jf ?_ | refine Jg ?_ | refine Jh ?_ ?_ | refine Ji ?_ ?_ | refine Jj ?_ ?_ | refine run_nil ?_ | refine Jz ?_ | refine Jw ?_ | refine aw_block ?_ | refine Jq ?_ | refine Jr ?_ | refine Js ?_ | refine Jt ?_ | refine Ju ?_ ?_ | refine Jv ?_ ?_ | refine Jy ?_ | refine aw_exit ?_ | refine aw_ret ?_ | refine pp_ret ?_ | refine pp_normal ?_
      all_goals first | exact pm_normal _ (renumD [0, 1, 2]) rfl | (exfalso; omega)
  · have HF := ac_field false false w x e e' bs bs' Z Z' n n' k k' hZ hn hk ((fieldW_congr (by simp [h1]) (fun h => by simp at h)).trans hst) hZ' hn' hk' hl (by simp) hx
    refine acalls_of_aw Tryz.func124 rfl rfl ?_
    repeat' first | intro h1 | refine st ?_ | refine stMW [0, 1] HF ?_ | refine stm ?_ | refine Ja ?_ | refine Jb ?_ | refine Jc ?_ | refine Jd ?_ | refine Je ?_ | refine Jf ?_ | refine Jg ?_ | refine Jh ?_ ?_ | refine Ji ?_ ?_ | refine Jj ?_ ?_ | refine run_nil ?_ | refine Jz ?_ | refine Jw ?_ | refine aw_block ?_ | refine Jq ?_ | refine Jr ?_ | refine Js ?_ | refine Jt ?_ | refine Ju ?_ ?_ | refine Jv ?_ ?_ | refine Jy ?_ | refine aw_exit ?_ | refine aw_ret ?_ | refine pp_ret ?_ | refine pp_normal ?_
    all_goals first | exact pm_normal _ (renumD [0, 1, 2]) rfl | (exfalso; omega)
theorem ac_flag (v : Bool) (e e' : Int) (bs bs' Z Z' : List Int) (n n' : Nat) (k k' : Int) (hZ : pack bs = Z) (hn : n = Z.length) (hk : k = bs.length) (hst : flgW bs e v = (bs', e')) (hZ' : pack bs' = Z') (hn' : n' = Z'.length) (hk' : k' = bs'.length) (hl : bs.length ≤ 524288) :
    ACalls Tryz.prog 122 [.pointer (some ⟨0, 0, none⟩), .bool v] [some ⟨[.slice (some ⟨1, 0, none⟩) n n, .int .i64 k, .int .i64 e], true, 1⟩, some ⟨List.map (Value.int .u8) Z, true, 1⟩] (.tuple #[]) [some ⟨[.slice (some ⟨2, 0, none⟩) n' n', .int .i64 k', .int .i64 e'], true, 1⟩, none, some ⟨List.map (Value.int .u8) Z', true, 1⟩] := by
  unfold flgW at hst
  have HF := ac_field true true 1 (if v then 1 else 0) e e' bs bs' Z Z' n n' k k' hZ hn hk hst hZ' hn' hk' hl (by simp) (by cases v <;> decide)
  cases v
  · refine acalls_of_aw Tryz.func122 rfl rfl ?_
    repeat' first | intro h1 | refine st ?_ | refine stMW [0, 1] HF ?_ | refine stm ?_ | refine Ja ?_ | refine Jb ?_ | refine Jc ?_ | refine Jd ?_ | refine Je ?_ | refine Jf ?_ | refine Jg ?_ | refine Jh ?_ ?_ | refine Ji ?_ ?_ | refine Jj ?_ ?_ | refine run_nil ?_ | refine Jz ?_ | refine Jw ?_ | refine aw_block ?_ | refine Jq ?_ | refine Jr ?_ | refine Js ?_ | refine Jt ?_ | refine Ju ?_ ?_ | refine Jv ?_ ?_ | refine Jy ?_ | refine aw_exit ?_ | refine aw_ret ?_ | refine pp_ret ?_ | refine pp_normal ?_
    exact pm_normal _ (renumD [0, 1, 2]) rfl
  · refine acalls_of_aw Tryz.func122 rfl rfl ?_
    repeat' first | intro h1 | refine st ?_ | refine stMW [0, 1] HF ?_ | refine stm ?_ | refine Ja ?_ | refine Jb ?_ | refine Jc ?_ | refine Jd ?_ | refine Je ?_ | refine Jf ?_ | refine Jg ?_ | refine Jh ?_ ?_ | refine Ji ?_ ?_ | refine Jj ?_ ?_ | refine run_nil ?_ | refine Jz ?_ | refine Jw ?_ | refine aw_block ?_ | refine Jq ?_ | refine Jr ?_ | refine Js ?_ | refine Jt ?_ | refine Ju ?_ ?_ | refine Jv ?_ ?_ | refine Jy ?_ | refine aw_exit ?_ | refine aw_ret ?_ | refine pp_ret ?_ | refine pp_normal ?_
    exact pm_normal _ (renumD [0, 1, 2]) rfl
theorem ac_newW : ACalls Tryz.prog 121 [] [] (.pointer (some ⟨0, 0, none⟩)) [some ⟨[.slice (some ⟨1, 0, none⟩) 0 0, .int .i64 0, .int .i64 0], true, 1⟩, some ⟨List.map (Value.int .u8) [], true, 1⟩] := by
  refine acalls_of_aw Tryz.func121 rfl rfl ?_
  refine aw_ghost 1 rfl ?_
  repeat' first | intro h1 | refine st ?_ | refine stm ?_ | refine Ja ?_ | refine Jb ?_ | refine Jc ?_ | refine Jd ?_ | refine Je ?_ | refine Jf ?_ | refine Jg ?_ | refine Jh ?_ ?_ | refine Ji ?_ ?_ | refine Jj ?_ ?_ | refine run_nil ?_ | refine Jz ?_ | refine Jw ?_ | refine aw_block ?_ | refine Jq ?_ | refine Jr ?_ | refine Js ?_ | refine Jt ?_ | refine Ju ?_ ?_ | refine Jv ?_ ?_ | refine Jy ?_ | refine aw_exit ?_ | refine aw_ret ?_ | refine pp_ret ?_ | refine pp_normal ?_
  exact pm_ret _ (renumD [1, 0]) rfl
theorem ac_bytes (n : Nat) (k : Int) (bs Z : List Int) (hZ : pack bs = Z) (hn : n = Z.length) : ACalls Tryz.prog 125 [.pointer (some ⟨0, 0, none⟩)] [some ⟨[.slice (some ⟨1, 0, none⟩) n n, .int .i64 k, .int .i64 0], false, 1⟩, some ⟨List.map (Value.int .u8) Z, false, 1⟩] (.tuple #[.string ⟨(Z.map b8).toArray⟩, .int .i64 0]) [none, none] := by
  have hb := bytes_u8 Z (hZ ▸ pkN_rng bs bs.length)
  refine acalls_law Tryz.func125 rfl rfl rfl ?_
  repeat' first | intro h1 | refine st (h := ok_bytes_str (l := Z.map b8) rfl rfl (by simp; omega) ((take_full (by simp; omega)).trans hb)) ?_ | refine st ?_ | refine stm ?_ | refine Ja ?_ | refine Jb ?_ | refine Jc ?_ | refine Jd ?_ | refine Je ?_ | refine Jf ?_ | refine Jg ?_ | refine Jh ?_ ?_ | refine Ji ?_ ?_ | refine Jj ?_ ?_ | refine run_nil ?_ | refine sd ?_ | refine sdl ?_ | refine sdm (n := 1) ?_ | refine sdm ?_ | refine sdb ?_ | refine Jk ?_ | refine Jl ?_ | refine Jm ?_ | refine Jn ?_ ?_ | refine Jo ?_ ?_ | refine Jp ?_ ?_ | refine rund_nil ?_ | refine Jz ?_ | refine Jw ?_ | refine J0 (id := 2) [0,1,3,7,0,31] 6 ?_ | refine aw_block ?_ | refine Jq ?_ | refine Jr ?_ | refine Js ?_ | refine Jt ?_ | refine Ju ?_ ?_ | refine Jv ?_ ?_ | refine Jy ?_ | refine aw_exit ?_ | refine aw_ret ?_ | refine pp_ret ?_ | refine pp_normal ?_
  all_goals first | rfl | (exfalso; omega)
structure Tg where
  i : Nat
  bs : List Int
  Z : List Int
  n : Nat
  k : Int
end Go.Proofs.YtdbcbclapipgdaaGreatDoor
