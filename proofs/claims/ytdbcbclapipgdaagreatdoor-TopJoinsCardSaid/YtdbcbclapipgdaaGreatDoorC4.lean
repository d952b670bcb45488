/- Bits: the writer. -/
import Derived.Test.YtdbcbclapipgdaaGreatDoorVO
import Derived.Test.YtdbcbclapipgdaaGreatDoorJ
import Derived.Test.YtdbcbclapipgdaaGreatDoorC1
set_option linter.unusedVariables false
set_option linter.unusedSimpArgs false
namespace Go.Proofs.YtdbcbclapipgdaaGreatDoor
open Go Av
set_option maxRecDepth 20000
structure Pg where
  i : Int
  bs : List Int
  Z : List Int
  n : Nat
  k : Int
set_option maxHeartbeats 2000000 in
theorem ac_put (w : Nat) (x e : Int) (bs bs' Z Z' : List Int) (n n' : Nat) (k k' : Int) (hx : 0 ≤ x) (hw : w ≤ 64) (hZ : pack bs = Z) (hn : n = Z.length) (hk : k = bs.length) (hb : bs ++ bitsOf w x = bs') (hZ' : pack bs' = Z') (hn' : n' = Z'.length) (hk' : k' = bs'.length) (hle : bs'.length ≤ 600000) :
    ACalls Tryz.prog 169 [.pointer (some ⟨0, 0, none⟩), .int .i64 w, .int .u64 x] [some ⟨[.slice (some ⟨1, 0, none⟩) n n, .int .i64 k, .int .i64 e], true, 1⟩, some ⟨List.map (Value.int .u8) Z, true, 1⟩] (.tuple #[]) [some ⟨[.slice (some ⟨2, 0, none⟩) n' n', .int .i64 k', .int .i64 e], true, 1⟩, none, some ⟨List.map (Value.int .u8) Z', true, 1⟩] := by
  have hbl : bs'.length = bs.length + w := by rw [← hb, List.length_append, bitsOf_len]
  refine acalls_of_aw Tryz.func169 rfl rfl ?_
  repeat' first | refine st ?_ | refine run_nil ?_ | refine Jz ?_ | refine Jw ?_ | refine aw_block ?_
  refine aw_loopg
    (S := fun y : Pg => [(0, .pointer (some ⟨0, 0, none⟩)), (2, .int .u64 x), (6, .int .i64 y.i)])
    (B := fun y : Pg => [some ⟨[.slice (some ⟨2, 0, none⟩) y.n y.n, .int .i64 y.k, .int .i64 e], true, 1⟩, none, some ⟨List.map (Value.int .u8) y.Z, true, 1⟩])
    (R := fun y : Pg => -1 ≤ y.i ∧ y.i < w ∧ pack y.bs = y.Z ∧ y.n = y.Z.length ∧ y.k = y.bs.length ∧ y.bs ++ bitsOf (y.i + 1).toNat x = bs')
    (μ := fun y : Pg => (y.i + 1).toNat) ⟨(w : Int) - 1, bs, Z, n, k⟩ (fitsD [0, 1, 1]) ⟨by dsimp only; omega, by dsimp only; omega, hZ, hn, hk, by dsimp only; rw [show ((w : Int) - 1 + 1).toNat = w by omega]; exact hb⟩ ?_
  clear hZ hn hk hb
  rintro ⟨i, bs, Z, n, k⟩ ⟨g1, g2, hZ, hn, hk, hb⟩
  dsimp only at *
  have hZl : Z.length = (bs.length + 7) / 8 := by rw [← hZ, pack_len]
  have hl2 : bs.length + (i + 1).toNat = bs'.length := by rw [← hb, List.length_append, bitsOf_len]
  by_cases hi : 0 ≤ i
  · have hb1 : bs ++ [x / 2 ^ i.toNat % 2] ++ bitsOf i.toNat x = bs' := by
      rw [← hb, show (i + 1).toNat = i.toNat + 1 by omega, bitsOf, List.append_assoc]
      rfl
    have ha := bv_and1 .u64 (.inl rfl) (x / 2 ^ (min i.toNat IntKind.u64.bits))
    rw [show min i.toNat IntKind.u64.bits = i.toNat from Nat.min_eq_left (by show i.toNat ≤ 64; omega)] at ha
    have e1 : min (7 - k % 8).toNat IntKind.u8.bits = 7 - bs.length % 8 := by show min (7 - k % 8).toNat 8 = _; omega
    have e2 : (k / 8).toNat = bs.length / 8 := by omega
    have e3 : min i.toNat IntKind.u64.bits = i.toNat := Nat.min_eq_left (by show i.toNat ≤ 64; omega)
    have e4 : IntKind.u8.wrap (x / 2 ^ i.toNat % 2) = x / 2 ^ i.toNat % 2 := wrap_id (by simp [IntKind.min, IntKind.signed]; omega) (by simp [IntKind.max, IntKind.signed, IntKind.bits]; omega)
    by_cases h8 : bs.length % 8 = 0
    · have h8' : k % 8 = 0 := by omega
      repeat' first | refine run_step (ok_append (cs := List.map (Value.int .u8) (Z ++ [0])) (olds := List.map (Value.int .u8) Z) rfl rfl rfl rfl rfl rfl (Src.slc rfl Ty.eq rfl (Nat.le_of_ble_eq_true rfl) rfl rfl rfl) (by simp; omega) (take_full (by simp; omega)) (by rw [List.map_append]; rfl) (by omega) (by (repeat constructor))) (Nat.le_of_ble_eq_true rfl) ?_ | refine st ?_ | refine stm ?_ | refine run_nil ?_ | refine sd ?_ | refine sdl ?_ | refine sdb ?_ | refine rund_nil ?_ | refine Jz ?_ | refine Jw ?_ | refine J0 (id := 5) [0,1,3,7,0,16,48,112,240,511,1023,0,0,6144,14336,30720,0,65536,196608,458752,983040,2031616,4192256,8388607,16777215,33554431] 25 ?_ | refine aw_block ?_ | refine Js ?_ | refine Jy ?_
      refine Exists.intro ⟨i - 1, bs ++ [x / 2 ^ i.toNat % 2], pkS Z bs.length (x / 2 ^ i.toNat % 2), _, _⟩ ⟨fitsD [0, 1, 4] (h4 := .blk rfl (WkL.refl _) rfl (.hole (.blk rfl (.ofEq (by
        refine Eq.trans ?_ (renL_map (fun _ => rfl) _).symm
        rw [pkS, if_pos h8]
        simp only [e1, e2, e3, ha, e4])) rfl .nil))), ⟨by dsimp only; omega, by dsimp only; omega, by dsimp only; rw [pack_snoc, hZ], ?_, ?_, ?_⟩, by dsimp only; omega⟩
      · dsimp only
        rw [pkS_len, if_pos h8]
        omega
      · dsimp only
        rw [List.length_append, List.length_singleton]
        omega
      · dsimp only
        rw [show (i - 1 + 1).toNat = i.toNat by omega]
        exact hb1
    · have h8' : ¬ k % 8 = 0 := by omega
      repeat' first | refine st ?_ | refine stm ?_ | refine run_nil ?_ | refine sd ?_ | refine sdl ?_ | refine sdb ?_ | refine rund_nil ?_ | refine Jz ?_ | refine Jw ?_ | refine J0 (id := 5) [0,1,3,7,0,16,48,112,240,511,1023,0,0,6144,14336,30720,0,65536,196608,458752,983040,2031616,4192256,8388607,16777215,33554431] 25 ?_ | refine aw_block ?_ | refine Js ?_ | refine Jt ?_ | refine Jy ?_
      refine Exists.intro ⟨i - 1, bs ++ [x / 2 ^ i.toNat % 2], pkS Z bs.length (x / 2 ^ i.toNat % 2), _, _⟩ ⟨fitsD [0, 1, 2] (h4 := .blk rfl (WkL.refl _) rfl (.hole (.blk rfl (.ofEq (by
        refine Eq.trans ?_ (renL_map (fun _ => rfl) _).symm
        rw [pkS, if_neg h8]
        simp only [e1, e2, e3, ha, e4])) rfl .nil))), ⟨by dsimp only; omega, by dsimp only; omega, by dsimp only; rw [pack_snoc, hZ], ?_, ?_, ?_⟩, by dsimp only; omega⟩
      · dsimp only
        rw [pkS_len, if_neg h8]
        omega
      · dsimp only
        rw [List.length_append, List.length_singleton]
        omega
      · dsimp only
        rw [show (i - 1 + 1).toNat = i.toNat by omega]
        exact hb1
  · obtain rfl : i = -1 := by omega
    repeat' first | refine st ?_ | refine run_nil ?_ | refine Jz ?_ | refine Jw ?_ | refine Jr ?_ | refine aw_exit ?_
    have hbb : bs = bs' := by rw [← hb]; simp [bitsOf]
    subst hbb
    rw [hZ] at hZ'
    subst hZ' hn hn' hk hk'
    exact pm_normal _ (renumD [0, 1, 2]) rfl
theorem ok_shr_lit {P : Program} {ρ : Operand → Option Value} {m : Mem} {d : Option Tmp} {t : TypeId} {pp : String} {af : Array Edge} {g : Option (Nat × Bool)} {xt yt : TypeId} {x y : Operand} {k k' : IntKind} {a b : Int} (c : Int) (hx : ρ x = some (.int k a)) (hy : ρ y = some (.int k' b)) (h : 0 ≤ b) (hc : (2 : Int) ^ (min b.toNat k.bits) = c) :
    OpOK P ⟨d, .binOp .shr xt x y yt, t, pp, af, g⟩ ρ m (.int k (a / c)) m := by
  rw [← hc]
  exact ok_shr hx hy h
/-- How many bits a number has. -/
def bl (x : Nat) : Int := if x = 0 then 0 else (Nat.log2 x : Int) + 1
theorem bl_div (x k : Nat) (h : 2 ^ k ≤ x) : bl x = k + bl (x / 2 ^ k) := by
  have h2 : 0 < 2 ^ k := Nat.pos_of_ne_zero (by simp)
  have hx : x ≠ 0 := by omega
  have hd : x / 2 ^ k ≠ 0 := by have := Nat.div_pos h h2; omega
  unfold bl
  rw [if_neg hx, if_neg hd]
  have e : Nat.log2 x = k + Nat.log2 (x / 2 ^ k) := by
    rw [Nat.log2_eq_iff hx]
    obtain ⟨a, b⟩ := (Nat.log2_eq_iff hd).1 rfl
    generalize Nat.log2 (x / 2 ^ k) = q at a b
    constructor
    · rw [Nat.add_comm, Nat.pow_add]
      exact (Nat.le_div_iff_mul_le h2).1 a
    · rw [show k + q + 1 = (q + 1) + k by omega, Nat.pow_add]
      exact (Nat.div_lt_iff_lt_mul h2).1 b
  rw [e]
  omega
def tab : ByteArray := ⟨(([0, 1, 2, 2, 3, 3, 3, 3, 4, 4, 4, 4, 4, 4, 4, 4, 5, 5, 5, 5, 5, 5, 5, 5, 5, 5, 5, 5, 5, 5, 5, 5, 6, 6, 6, 6, 6, 6, 6, 6, 6, 6, 6, 6, 6, 6, 6, 6, 6, 6, 6, 6, 6, 6, 6, 6, 6, 6, 6, 6, 6, 6, 6, 6].append [7, 7, 7, 7, 7, 7, 7, 7, 7, 7, 7, 7, 7, 7, 7, 7, 7, 7, 7, 7, 7, 7, 7, 7, 7, 7, 7, 7, 7, 7, 7, 7, 7, 7, 7, 7, 7, 7, 7, 7, 7, 7, 7, 7, 7, 7, 7, 7, 7, 7, 7, 7, 7, 7, 7, 7, 7, 7, 7, 7, 7, 7, 7, 7]).append ([8, 8, 8, 8, 8, 8, 8, 8, 8, 8, 8, 8, 8, 8, 8, 8, 8, 8, 8, 8, 8, 8, 8, 8, 8, 8, 8, 8, 8, 8, 8, 8, 8, 8, 8, 8, 8, 8, 8, 8, 8, 8, 8, 8, 8, 8, 8, 8, 8, 8, 8, 8, 8, 8, 8, 8, 8, 8, 8, 8, 8, 8, 8, 8].append [8, 8, 8, 8, 8, 8, 8, 8, 8, 8, 8, 8, 8, 8, 8, 8, 8, 8, 8, 8, 8, 8, 8, 8, 8, 8, 8, 8, 8, 8, 8, 8, 8, 8, 8, 8, 8, 8, 8, 8, 8, 8, 8, 8, 8, 8, 8, 8, 8, 8, 8, 8, 8, 8, 8, 8, 8, 8, 8, 8, 8, 8, 8, 8])).toArray⟩
theorem tab_bl : ∀ y : Fin 256, ((byteAt tab y.val).toNat : Int) = bl y.val := by decide +kernel
theorem tab_bl' (y : Int) (h : 0 ≤ y ∧ y < 256) : bl y.toNat = ((byteAt ⟨(([0, 1, 2, 2, 3, 3, 3, 3, 4, 4, 4, 4, 4, 4, 4, 4, 5, 5, 5, 5, 5, 5, 5, 5, 5, 5, 5, 5, 5, 5, 5, 5, 6, 6, 6, 6, 6, 6, 6, 6, 6, 6, 6, 6, 6, 6, 6, 6, 6, 6, 6, 6, 6, 6, 6, 6, 6, 6, 6, 6, 6, 6, 6, 6].append [7, 7, 7, 7, 7, 7, 7, 7, 7, 7, 7, 7, 7, 7, 7, 7, 7, 7, 7, 7, 7, 7, 7, 7, 7, 7, 7, 7, 7, 7, 7, 7, 7, 7, 7, 7, 7, 7, 7, 7, 7, 7, 7, 7, 7, 7, 7, 7, 7, 7, 7, 7, 7, 7, 7, 7, 7, 7, 7, 7, 7, 7, 7, 7]).append ([8, 8, 8, 8, 8, 8, 8, 8, 8, 8, 8, 8, 8, 8, 8, 8, 8, 8, 8, 8, 8, 8, 8, 8, 8, 8, 8, 8, 8, 8, 8, 8, 8, 8, 8, 8, 8, 8, 8, 8, 8, 8, 8, 8, 8, 8, 8, 8, 8, 8, 8, 8, 8, 8, 8, 8, 8, 8, 8, 8, 8, 8, 8, 8].append [8, 8, 8, 8, 8, 8, 8, 8, 8, 8, 8, 8, 8, 8, 8, 8, 8, 8, 8, 8, 8, 8, 8, 8, 8, 8, 8, 8, 8, 8, 8, 8, 8, 8, 8, 8, 8, 8, 8, 8, 8, 8, 8, 8, 8, 8, 8, 8, 8, 8, 8, 8, 8, 8, 8, 8, 8, 8, 8, 8, 8, 8, 8, 8])).toArray⟩ y.toNat).toNat : Int) := (tab_bl ⟨y.toNat, by omega⟩).symm
theorem bl_step {x : Int} (k c : Nat) (hc : 2 ^ k = c) (h : (c : Int) ≤ x) : bl x.toNat = k + bl (x / c).toNat := by
  obtain ⟨n, rfl⟩ : ∃ n : Nat, x = n := ⟨x.toNat, by omega⟩
  rw [Int.toNat_natCast, bl_div n k (by omega), hc, ← Int.natCast_ediv, Int.toNat_natCast]
theorem bl32 {x : Int} (h : 4294967296 ≤ x) : bl x.toNat = 32 + bl (x / 4294967296).toNat := bl_step 32 4294967296 (by decide) h
theorem bl16 {x : Int} (h : 65536 ≤ x) : bl x.toNat = 16 + bl (x / 65536).toNat := bl_step 16 65536 (by decide) h
theorem bl8 {x : Int} (h : 256 ≤ x) : bl x.toNat = 8 + bl (x / 256).toNat := bl_step 8 256 (by decide) h
theorem ok_conv_u8 {P : Program} {ρ : Operand → Option Value} {m : Mem} {d : Option Tmp} {t : TypeId} {pp : String} {af : Array Edge} {g : Option (Nat × Bool)} {src dst : TypeId} {x : Operand} {k' : IntKind} {b : UInt8} {d0 : TypeDesc} [Ty P src d0] [Ty P dst (.int k')] (hx : ρ x = some (.int .u8 (b.toNat : Int))) (h : k'.min ≤ 0 ∧ 255 ≤ k'.max) :
    OpOK P ⟨d, .convert src dst x, t, pp, af, g⟩ ρ m (.int k' (b.toNat : Int)) m := by
  have := b.toNat_lt
  exact ok_conv_in hx (by omega) (by omega)
set_option maxHeartbeats 1000000 in
theorem ac_len64 (x : Int) (hx : 0 ≤ x ∧ x < 18446744073709551616) : ACalls Tryz.prog 196 [.int .u64 x] [] (.int .i64 (bl x.toNat)) [] := by
  refine acalls_pure Tryz.func196 rfl rfl rfl ?_
  repeat' first | intro h1 | refine st (h := ok_conv_u8 rfl (by decide)) ?_ | refine st (h := ok_str_index rfl rfl (show 0 ≤ _ ∧ _ < ((256 : Nat) : Int) from ⟨by omega, by omega⟩)) ?_ | refine st (h := ok_shr_lit 4294967296 rfl rfl (by decide) (by decide)) ?_ | refine st (h := ok_shr_lit 65536 rfl rfl (by decide) (by decide)) ?_ | refine st (h := ok_shr_lit 256 rfl rfl (by decide) (by decide)) ?_ | refine st ?_ | refine run_nil ?_ | refine Jz ?_ | refine Jw ?_ | refine Ju ?_ ?_ | refine Jy ?_ | refine aw_ret ?_ | refine pp_ret ?_
  all_goals
    try rw [bl32 (x := x) (by assumption)]
    first | rw [bl16 (x := x / 4294967296) (by assumption)] | rw [bl16 (x := x) (by assumption)] | skip
    first | rw [bl8 (x := x / 4294967296 / 65536) (by assumption)] | rw [bl8 (x := x / 4294967296) (by assumption)] | rw [bl8 (x := x / 65536) (by assumption)] | rw [bl8 (x := x) (by assumption)] | skip
    rw [tab_bl' _ ⟨by omega, by omega⟩]
    simp only [retOf]
    congr 1
    generalize byteAt _ _ = B
    have hlt : B.toNat < 256 := B.toNat_lt
    rw [wrap64 (by omega)]
    try omega
theorem ac_len (x : Int) (hx : 0 ≤ x ∧ x < 18446744073709551616) : ACalls Tryz.prog 170 [.int .u64 x] [] (.int .i64 (bl x.toNat)) [] := by
  have h := ac_len64 x hx
  refine acalls_pure Tryz.func170 rfl rfl rfl ?_
  repeat' first | refine st ?_ | refine st_call (h) ?_ | refine run_nil ?_ | refine Jz ?_ | refine Jw ?_ | refine Jr ?_ | refine Jy ?_ | refine aw_ret ?_ | refine pp_ret ?_
  all_goals rfl
theorem bl_bd (x : Nat) (h : x < 9223372036854775808) : 0 ≤ bl x ∧ bl x ≤ 63 := by
  unfold bl
  split
  · omega
  · rename_i h0
    have : Nat.log2 x < 63 := (Nat.log2_lt h0).2 h
    omega
theorem bl_le (x w : Nat) : bl x ≤ w ↔ x < 2 ^ w := by
  unfold bl
  split
  · rename_i h0
    subst h0
    have : 0 < 2 ^ w := Nat.pos_of_ne_zero (by simp)
    omega
  · rename_i h0
    rw [← Nat.log2_lt h0]
    omega
/-- The least width of a number. -/
def wdth (x : Int) : Int := if x < 0 then 0 else max 1 (bl x.toNat)
theorem ac_width (x : Int) (hx : -9223372036854775808 ≤ x ∧ x ≤ 9223372036854775807) : ACalls Tryz.prog 168 [.int .i64 x] [] (.int .i64 (wdth x)) [] := by
  by_cases h0 : x < 0
  · rw [wdth, if_pos h0]
    refine acalls_pure Tryz.func168 rfl rfl rfl ?_
    repeat' first | refine st ?_ | refine run_nil ?_ | refine Jz ?_ | refine Jw ?_ | refine Js ?_ | refine aw_ret ?_ | refine pp_ret ?_
    all_goals first | rfl
  · rw [wdth, if_neg h0]
    have h := ac_len x (by omega)
    refine acalls_pure Tryz.func168 rfl rfl rfl ?_
    repeat' first | refine st ?_ | refine st_call (h) ?_ | refine run_nil ?_ | refine Jz ?_ | refine Jw ?_ | refine Jt ?_ | refine Jy ?_ | refine aw_ret ?_ | refine pp_ret ?_
    all_goals first | rfl
theorem bl_pos (x : Int) (h : 1 ≤ x) : 1 ≤ bl x.toNat := by
  unfold bl
  rw [if_neg (by omega)]
  omega
theorem ac_limit (x : Int) : ACalls Tryz.prog 167 [.int .i64 x] [] (.bool (decide (1 ≤ x ∧ x ≤ 4095))) [] := by
  by_cases h0 : 1 ≤ x ∧ x ≤ 4095
  · rw [decide_eq_true h0]
    refine acalls_pure Tryz.func167 rfl rfl rfl ?_
    repeat' first | refine st ?_ | refine Ja ?_ | refine Jd ?_ | refine run_nil ?_ | refine Jz ?_ | refine Jw ?_ | refine aw_ret ?_ | refine pp_ret ?_
    all_goals first | (simp [retOf]; omega)
  · rw [decide_eq_false h0]
    refine acalls_pure Tryz.func167 rfl rfl rfl ?_
    repeat' first | intro h1 | refine st ?_ | refine Ja ?_ | refine Jb ?_ | refine Jh ?_ ?_ | refine run_nil ?_ | refine Jz ?_ | refine Jw ?_ | refine aw_ret ?_ | refine pp_ret ?_
    all_goals first | rfl | (simp [retOf]; omega)
theorem bitsOf_mod (w : Nat) (x : Int) (hw : w ≤ 64) : bitsOf w (x % 18446744073709551616) = bitsOf w x := by
  induction w with
  | zero => rfl
  | succ w ih =>
    rw [bitsOf, bitsOf, ih (by omega)]
    congr 1
    have h2 : (18446744073709551616 : Int) = 2 ^ w * (2 * 2 ^ (63 - w)) := by
      have : (2 : Int) ^ w * (2 * 2 ^ (63 - w)) = 2 ^ (w + 1 + (63 - w)) := by rw [Int.pow_add, Int.pow_succ, Int.mul_assoc]
      rw [this, show w + 1 + (63 - w) = 64 by omega]
      rfl
    have h3 : (0 : Int) < 2 ^ w := Int.pow_pos (by omega)
    have e := Int.emod_add_mul_ediv x 18446744073709551616
    generalize x / 18446744073709551616 = q at e
    generalize x % 18446744073709551616 = r at e
    rw [← e, h2, Int.mul_assoc, Int.add_mul_ediv_left _ _ (by omega), Int.mul_assoc, Int.add_mul_emod_self_left]
/-- A writer behind a field: its bits, its error. -/
def fieldW (bs : List Int) (e : Int) (right fits : Bool) (w x : Int) : List Int × Int :=
  if e ≠ 0 then (bs, e) else if right = false then (bs, 1) else if fits = false then (bs, 2) else if bs.length + w > 524288 then (bs, 8) else (bs ++ bitsOf w.toNat x, 0)
set_option maxHeartbeats 1000000 in
theorem ac_field (right fits : Bool) (w x e e' : Int) (bs bs' Z Z' : List Int) (n n' : Nat) (k k' : Int) (hZ : pack bs = Z) (hn : n = Z.length) (hk : k = bs.length) (hst : fieldW bs e right fits w x = (bs', e')) (hZ' : pack bs' = Z') (hn' : n' = Z'.length) (hk' : k' = bs'.length)
    (hl : bs.length ≤ 524288) (hw : right = true → 1 ≤ w ∧ w ≤ 63) (hx : -9223372036854775808 ≤ x ∧ x ≤ 9223372036854775807) :
    ACalls Tryz.prog 166 [.pointer (some ⟨0, 0, none⟩), .bool right, .bool fits, .int .i64 w, .int .i64 x] [some ⟨[.slice (some ⟨1, 0, none⟩) n n, .int .i64 k, .int .i64 e], true, 1⟩, some ⟨List.map (Value.int .u8) Z, true, 1⟩] (.tuple #[]) [some ⟨[.slice (some ⟨2, 0, none⟩) n' n', .int .i64 k', .int .i64 e'], true, 1⟩, none, some ⟨List.map (Value.int .u8) Z', true, 1⟩] := by
  unfold fieldW at hst
  by_cases he : e = 0
  · subst he
    rw [if_neg (by simp)] at hst
    cases right
    · rw [if_pos rfl] at hst
      obtain ⟨rfl, rfl⟩ := Prod.mk.inj hst
      rw [hZ] at hZ'; subst hZ' hn hn' hk hk'
      refine acalls_of_aw Tryz.func166 rfl rfl ?_
      repeat' first | refine st ?_ | refine stm ?_ | refine run_nil ?_ | refine Jz ?_ | refine Jw ?_ | refine aw_block ?_ | refine Jq ?_ | refine Jr ?_
      exact pm_normal _ (renumD [0, 1, 1]) rfl
    · rw [if_neg (by simp)] at hst
      have hw := hw rfl
      cases fits
      · rw [if_pos rfl] at hst
        obtain ⟨rfl, rfl⟩ := Prod.mk.inj hst
        rw [hZ] at hZ'; subst hZ' hn hn' hk hk'
        refine acalls_of_aw Tryz.func166 rfl rfl ?_
        repeat' first | refine st ?_ | refine stm ?_ | refine run_nil ?_ | refine Jz ?_ | refine Jw ?_ | refine aw_block ?_ | refine Jq ?_ | refine Jr ?_
        exact pm_normal _ (renumD [0, 1, 1]) rfl
      · rw [if_neg (by simp)] at hst
        by_cases hs : bs.length + w > 524288
        · rw [if_pos hs] at hst
          obtain ⟨rfl, rfl⟩ := Prod.mk.inj hst
          rw [hZ] at hZ'; subst hZ' hn hn' hk hk'
          refine acalls_of_aw Tryz.func166 rfl rfl ?_
          repeat' first | refine st ?_ | refine stm ?_ | refine run_nil ?_ | refine Jz ?_ | refine Jw ?_ | refine aw_block ?_ | refine Jr ?_ | refine Js ?_
          exact pm_normal _ (renumD [0, 1, 1]) rfl
        · rw [if_neg hs] at hst
          obtain ⟨hb, rfl⟩ := Prod.mk.inj hst
          have hwr : IntKind.u64.wrap x = x % 18446744073709551616 := by simp [IntKind.wrap, IntKind.signed, IntKind.bits]
          have hbl := congrArg List.length hb
          rw [List.length_append, bitsOf_len] at hbl
          have HP := ac_put w.toNat (IntKind.u64.wrap x) 0 bs bs' Z Z' n n' k k' (by rw [hwr]; omega) (by omega) hZ hn hk (by rw [hwr, bitsOf_mod _ _ (by omega)]; exact hb) hZ' hn' hk' (by omega)
          rw [show ((w.toNat : Nat) : Int) = w by omega] at HP
          refine acalls_of_aw Tryz.func166 rfl rfl ?_
          repeat' first | refine st ?_ | refine stMW [0, 1] HP ?_ | refine run_nil ?_ | refine Jz ?_ | refine Jw ?_ | refine aw_block ?_ | refine Jr ?_ | refine Jt ?_
          exact pm_normal _ (renumD [0, 1, 2]) rfl
  · rw [if_pos he] at hst
    obtain ⟨rfl, rfl⟩ := Prod.mk.inj hst
    rw [hZ] at hZ'; subst hZ' hn hn' hk hk'
    refine acalls_of_aw Tryz.func166 rfl rfl ?_
    repeat' first | refine st ?_ | refine run_nil ?_ | refine Jz ?_ | refine Jw ?_ | refine aw_block ?_ | refine Js ?_ | refine Jy ?_
    exact pm_normal _ (renumD [0, 1, 1]) rfl
def unsW (bs : List Int) (e w x : Int) : List Int × Int := fieldW bs e (decide (1 ≤ w ∧ w ≤ 63)) (decide (0 ≤ x ∧ x < 2 ^ w.toNat)) w x
theorem fieldW_congr {bs : List Int} {e w x : Int} {r r' f f' : Bool} (hr : r = r') (hf : r = true → f = f') : fieldW bs e r f w x = fieldW bs e r' f' w x := by
  subst hr
  unfold fieldW
  cases r
  · simp
  · rw [hf rfl]
theorem bl_lt (x w : Int) (hx : 0 ≤ x) (hw : 0 ≤ w) : bl x.toNat ≤ w ↔ x < 2 ^ w.toNat := by
  have h := bl_le x.toNat w.toNat
  rw [show ((w.toNat : Nat) : Int) = w by omega] at h
  rw [h]
  have : ((2 ^ w.toNat : Nat) : Int) = (2 : Int) ^ w.toNat := by push_cast; rfl
  omega
set_option maxHeartbeats 1000000 in
theorem ac_unsigned (w x : Int) (e e' : Int) (bs bs' Z Z' : List Int) (n n' : Nat) (k k' : Int) (hZ : pack bs = Z) (hn : n = Z.length) (hk : k = bs.length) (hst : unsW bs e w x = (bs', e')) (hZ' : pack bs' = Z') (hn' : n' = Z'.length) (hk' : k' = bs'.length) (hl : bs.length ≤ 524288) (hw : -9223372036854775808 ≤ w ∧ w ≤ 9223372036854775807) (hx : -9223372036854775808 ≤ x ∧ x ≤ 9223372036854775807) :
    ACalls Tryz.prog 124 [.pointer (some ⟨0, 0, none⟩), .int .i64 w, .int .i64 x] [some ⟨[.slice (some ⟨1, 0, none⟩) n n, .int .i64 k, .int .i64 e], true, 1⟩, some ⟨List.map (Value.int .u8) Z, true, 1⟩] (.tuple #[]) [some ⟨[.slice (some ⟨2, 0, none⟩) n' n', .int .i64 k', .int .i64 e'], true, 1⟩, none, some ⟨List.map (Value.int .u8) Z', true, 1⟩] := by
  unfold unsW at hst
  by_cases h1 : 1 ≤ w
  · by_cases h2 : w ≤ 63
    · by_cases h3 : 0 ≤ x
      · have HL := ac_len x (by omega)
        have HF := ac_field (decide (w ≤ 63)) (decide (bl x.toNat ≤ w)) w x e e' bs bs' Z Z' n n' k k' hZ hn hk ((fieldW_congr (by simp [h1, h2]) (fun _ => by rw [decide_eq_decide, bl_lt x w h3 (by omega)]; simp [h3])).trans hst) hZ' hn' hk' hl (by simp; omega) hx
        refine acalls_of_aw Tryz.func124 rfl rfl ?_
        repeat' first | refine st ?_ | refine st_call (HL) ?_ | refine stMW [0, 1] HF ?_ | refine Ja ?_ | refine Jd ?_ | refine run_nil ?_ | refine Jz ?_ | refine Jw ?_
        all_goals first | exact pm_normal _ (renumD [0, 1, 2]) rfl
      · have HF := ac_field (decide (w ≤ 63)) false w x e e' bs bs' Z Z' n n' k k' hZ hn hk ((fieldW_congr (by simp [h1, h2]) (fun _ => by simp [h3])).trans hst) hZ' hn' hk' hl (by simp; omega) hx
        refine acalls_of_aw Tryz.func124 rfl rfl ?_
        repeat' first | refine st ?_ | refine stMW [0, 1] HF ?_ | refine Ja ?_ | refine Jb ?_ | refine Jd ?_ | refine Je ?_ | refine run_nil ?_ | refine Jz ?_ | refine Jw ?_
        all_goals first | exact pm_normal _ (renumD [0, 1, 2]) rfl
    · have HF := ac_field (decide (w ≤ 63)) false w x e e' bs bs' Z Z' n n' k k' hZ hn hk ((fieldW_congr (by simp [h2]) (fun h => by simp [h2] at h)).trans hst) hZ' hn' hk' hl (by simp; omega) hx
      refine acalls_of_aw Tryz.func124 rfl rfl ?_
      repeat' first | refine st ?_ | refine stMW [0, 1] HF ?_ | refine Ja ?_ | refine Jb ?_ | refine Jd ?_ | refine Je ?_ | refine run_nil ?_ | refine Jz ?_ | refine Jw ?_
      all_goals first | exact pm_normal _ (renumD [0, 1, 2]) rfl
  · have HF := ac_field false false w x e e' bs bs' Z Z' n n' k k' hZ hn hk ((fieldW_congr (by simp [h1]) (fun h => by simp at h)).trans hst) hZ' hn' hk' hl (by simp) hx
    refine acalls_of_aw Tryz.func124 rfl rfl ?_
    repeat' first | refine st ?_ | refine stMW [0, 1] HF ?_ | refine Jb ?_ | refine Je ?_ | refine run_nil ?_ | refine Jz ?_ | refine Jw ?_
    all_goals first | exact pm_normal _ (renumD [0, 1, 2]) rfl
def b8 (x : Int) : UInt8 := UInt8.ofNat (IntKind.u8.wrap x).toNat
theorem wrap8' (c : Int) : 0 ≤ IntKind.u8.wrap c ∧ IntKind.u8.wrap c ≤ 255 := by
  simp only [IntKind.wrap, IntKind.signed, IntKind.bits]
  constructor
  · simp; omega
  · simp; omega
theorem u8v_b8 (x : Int) : u8v (b8 x) = .int .u8 (IntKind.u8.wrap x) := by
  have h := wrap8' x
  simp only [u8v, b8]
  congr 1
  have : (UInt8.ofNat (IntKind.u8.wrap x).toNat).toNat = (IntKind.u8.wrap x).toNat := by
    rw [UInt8.toNat_ofNat']
    omega
  rw [this]
  omega
def flgW (bs : List Int) (e : Int) (b : Bool) : List Int × Int := fieldW bs e true true 1 (if b then 1 else 0)
end Go.Proofs.YtdbcbclapipgdaaGreatDoor
