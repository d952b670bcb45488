/- Bits: the writer; Bits: the reference's writer. -/
import Derived.Test.YtdbcbclapipgdaaGreatDoorVO
import Derived.Test.YtdbcbclapipgdaaGreatDoorJ
import Derived.Test.YtdbcbclapipgdaaGreatDoorC2
set_option linter.unusedVariables false
set_option linter.unusedSimpArgs false
namespace Go.Proofs.YtdbcbclapipgdaaGreatDoor
open Go Av
set_option maxRecDepth 20000
theorem ok_shr_lit {P : Program} {ρ : Operand → Option Value} {m : Mem} {d : Option Tmp} {t : TypeId} {pp : String} {af : Array Edge} {g : Option (Nat × Bool)} {xt yt : TypeId} {x y : Operand} {k k' : IntKind} {a b : Int} (c : Int) (hx : ρ x = some (.int k a)) (hy : ρ y = some (.int k' b)) (h : 0 ≤ b) (hc : (2 : Int) ^ (min b.toNat k.bits) = c) :
    OpOK P ⟨d, .binOp .shr xt x y yt, t, pp, af, g⟩ ρ m (.int k (a / c)) m := by
  rw [← hc]
  exact ok_shr hx hy h
/-- How many bits a number has. -/
def bl (x : Nat) : Int := if x = 0 then 0 else (Nat.log2 x : Int) + 1
theorem bl_div (x k : Nat) (h : 2 ^ k ≤ x) : bl x = k + bl (x / 2 ^ k) := by
  have h2 : 0 < 2 ^ k := Nat.pos_of_ne_zero (by simp)
  have hx : x ≠ 0 := by omega
  have hd : x / 2 ^ k ≠ 0 := by have := Nat.div_pos h h2; omega
  unfold bl
  rw [if_neg hx, if_neg hd]
  have e : Nat.log2 x = k + Nat.log2 (x / 2 ^ k) := by
    rw [Nat.log2_eq_iff hx]
    obtain ⟨a, b⟩ := (Nat.log2_eq_iff hd).1 rfl
    generalize Nat.log2 (x / 2 ^ k) = q at a b
    constructor
    · rw [Nat.add_comm, Nat.pow_add]
      exact (Nat.le_div_iff_mul_le h2).1 a
    · rw [show k + q + 1 = (q + 1) + k by omega, Nat.pow_add]
      exact (Nat.div_lt_iff_lt_mul h2).1 b
  rw [e]
  omega
def tab : ByteArray := ⟨(([0, 1, 2, 2, 3, 3, 3, 3, 4, 4, 4, 4, 4, 4, 4, 4, 5, 5, 5, 5, 5, 5, 5, 5, 5, 5, 5, 5, 5, 5, 5, 5, 6, 6, 6, 6, 6, 6, 6, 6, 6, 6, 6, 6, 6, 6, 6, 6, 6, 6, 6, 6, 6, 6, 6, 6, 6, 6, 6, 6, 6, 6, 6, 6].append [7, 7, 7, 7, 7, 7, 7, 7, 7, 7, 7, 7, 7, 7, 7, 7, 7, 7, 7, 7, 7, 7, 7, 7, 7, 7, 7, 7, 7, 7, 7, 7, 7, 7, 7, 7, 7, 7, 7, 7, 7, 7, 7, 7, 7, 7, 7, 7, 7, 7, 7, 7, 7, 7, 7, 7, 7, 7, 7, 7, 7, 7, 7, 7]).append ([8, 8, 8, 8, 8, 8, 8, 8, 8, 8, 8, 8, 8, 8, 8, 8, 8, 8, 8, 8, 8, 8, 8, 8, 8, 8, 8, 8, 8, 8, 8, 8, 8, 8, 8, 8, 8, 8, 8, 8, 8, 8, 8, 8, 8, 8, 8, 8, 8, 8, 8, 8, 8, 8, 8, 8, 8, 8, 8, 8, 8, 8, 8, 8].append [8, 8, 8, 8, 8, 8, 8, 8, 8, 8, 8, 8, 8, 8, 8, 8, 8, 8, 8, 8, 8, 8, 8, 8, 8, 8, 8, 8, 8, 8, 8, 8, 8, 8, 8, 8, 8, 8, 8, 8, 8, 8, 8, 8, 8, 8, 8, 8, 8, 8, 8, 8, 8, 8, 8, 8, 8, 8, 8, 8, 8, 8, 8, 8])).toArray⟩
theorem tab_bl : ∀ y : Fin 256, ((byteAt tab y.val).toNat : Int) = bl y.val := by decide +kernel
theorem tab_bl' (y : Int) (h : 0 ≤ y ∧ y < 256) : bl y.toNat = ((byteAt ⟨(([0, 1, 2, 2, 3, 3, 3, 3, 4, 4, 4, 4, 4, 4, 4, 4, 5, 5, 5, 5, 5, 5, 5, 5, 5, 5, 5, 5, 5, 5, 5, 5, 6, 6, 6, 6, 6, 6, 6, 6, 6, 6, 6, 6, 6, 6, 6, 6, 6, 6, 6, 6, 6, 6, 6, 6, 6, 6, 6, 6, 6, 6, 6, 6].append [7, 7, 7, 7, 7, 7, 7, 7, 7, 7, 7, 7, 7, 7, 7, 7, 7, 7, 7, 7, 7, 7, 7, 7, 7, 7, 7, 7, 7, 7, 7, 7, 7, 7, 7, 7, 7, 7, 7, 7, 7, 7, 7, 7, 7, 7, 7, 7, 7, 7, 7, 7, 7, 7, 7, 7, 7, 7, 7, 7, 7, 7, 7, 7]).append ([8, 8, 8, 8, 8, 8, 8, 8, 8, 8, 8, 8, 8, 8, 8, 8, 8, 8, 8, 8, 8, 8, 8, 8, 8, 8, 8, 8, 8, 8, 8, 8, 8, 8, 8, 8, 8, 8, 8, 8, 8, 8, 8, 8, 8, 8, 8, 8, 8, 8, 8, 8, 8, 8, 8, 8, 8, 8, 8, 8, 8, 8, 8, 8].append [8, 8, 8, 8, 8, 8, 8, 8, 8, 8, 8, 8, 8, 8, 8, 8, 8, 8, 8, 8, 8, 8, 8, 8, 8, 8, 8, 8, 8, 8, 8, 8, 8, 8, 8, 8, 8, 8, 8, 8, 8, 8, 8, 8, 8, 8, 8, 8, 8, 8, 8, 8, 8, 8, 8, 8, 8, 8, 8, 8, 8, 8, 8, 8])).toArray⟩ y.toNat).toNat : Int) := (tab_bl ⟨y.toNat, by omega⟩).symm
theorem bl_step {x : Int} (k c : Nat) (hc : 2 ^ k = c) (h : (c : Int) ≤ x) : bl x.toNat = k + bl (x / c).toNat := by
  obtain ⟨n, rfl⟩ : ∃ n : Nat, x = n := ⟨x.toNat, by omega⟩
  rw [Int.toNat_natCast, bl_div n k (by omega), hc, ← Int.natCast_ediv, Int.toNat_natCast]
theorem bl32 {x : Int} (h : 4294967296 ≤ x) : bl x.toNat = 32 + bl (x / 4294967296).toNat := bl_step 32 4294967296 (by decide) h
theorem bl16 {x : Int} (h : 65536 ≤ x) : bl x.toNat = 16 + bl (x / 65536).toNat := bl_step 16 65536 (by decide) h
theorem bl8 {x : Int} (h : 256 ≤ x) : bl x.toNat = 8 + bl (x / 256).toNat := bl_step 8 256 (by decide) h
theorem ok_conv_u8 {P : Program} {ρ : Operand → Option Value} {m : Mem} {d : Option Tmp} {t : TypeId} {pp : String} {af : Array Edge} {g : Option (Nat × Bool)} {src dst : TypeId} {x : Operand} {k' : IntKind} {b : UInt8} {d0 : TypeDesc} [Ty P src d0] [Ty P dst (.int k')] (hx : ρ x = some (.int .u8 (b.toNat : Int))) (h : k'.min ≤ 0 ∧ 255 ≤ k'.max) :
    OpOK P ⟨d, .convert src dst x, t, pp, af, g⟩ ρ m (.int k' (b.toNat : Int)) m := by
  have := b.toNat_lt
  exact ok_conv_in hx (by omega) (by omega)
set_option maxHeartbeats 1000000 in
theorem ac_len64 (x : Int) (hx : 0 ≤ x ∧ x < 18446744073709551616) : ACalls Tryz.prog 196 [.int .u64 x] [] (.int .i64 (bl x.toNat)) [] := by
  refine acalls_pure Tryz.func196 rfl rfl rfl ?_
  repeat' first | intro h1 | refine st (h := ok_conv_u8 rfl (by decide)) ?_ | refine st (h := ok_str_index rfl rfl (show 0 ≤ _ ∧ _ < ((256 : Nat) : Int) from ⟨by omega, by omega⟩)) ?_ | refine st (h := ok_shr_lit 4294967296 rfl rfl (by decide) (by decide)) ?_ | refine st (h := ok_shr_lit 65536 rfl rfl (by decide) (by decide)) ?_ | refine st (h := ok_shr_lit 256 rfl rfl (by decide) (by decide)) ?_ | refine st ?_ | refine stm ?_ | refine Ja ?_ | refine Jb ?_ | refine Jc ?_ | refine Jd ?_ | refine Je ?_ | refine Jf ?_ | refine Jg ?_ | refine Jh ?_ ?_ | refine Ji ?_ ?_ | refine Jj ?_ ?_ | refine run_nil ?_ | refine Jz ?_ | refine Jw ?_ | refine aw_block ?_ | refine Jq ?_ | refine Jr ?_ | refine Js ?_ | refine Jt ?_ | refine Ju ?_ ?_ | refine Jv ?_ ?_ | refine Jy ?_ | refine aw_exit ?_ | refine aw_ret ?_ | refine pp_ret ?_ | refine pp_normal ?_
  all_goals
    try rw [bl32 (x := x) (by assumption)]
    first | rw [bl16 (x := x / 4294967296) (by assumption)] | rw [bl16 (x := x) (by assumption)] | skip
    first | rw [bl8 (x := x / 4294967296 / 65536) (by assumption)] | rw [bl8 (x := x / 4294967296) (by assumption)] | rw [bl8 (x := x / 65536) (by assumption)] | rw [bl8 (x := x) (by assumption)] | skip
    rw [tab_bl' _ ⟨by omega, by omega⟩]
    simp only [retOf]
    congr 1
    generalize byteAt _ _ = B
    have hlt : B.toNat < 256 := B.toNat_lt
    rw [wrap64 (by omega)]
    try omega
theorem ac_len (x : Int) (hx : 0 ≤ x ∧ x < 18446744073709551616) : ACalls Tryz.prog 170 [.int .u64 x] [] (.int .i64 (bl x.toNat)) [] := by
  have h := ac_len64 x hx
  refine acalls_pure Tryz.func170 rfl rfl rfl ?_
  repeat' first | intro h1 | refine st ?_ | refine st_call (h) ?_ | refine stm ?_ | refine Ja ?_ | refine Jb ?_ | refine Jc ?_ | refine Jd ?_ | refine Je ?_ | refine Jf ?_ | refine Jg ?_ | refine Jh ?_ ?_ | refine Ji ?_ ?_ | refine Jj ?_ ?_ | refine run_nil ?_ | refine Jz ?_ | refine Jw ?_ | refine aw_block ?_ | refine Jq ?_ | refine Jr ?_ | refine Js ?_ | refine Jt ?_ | refine Ju ?_ ?_ | refine Jv ?_ ?_ | refine Jy ?_ | refine aw_exit ?_ | refine aw_ret ?_ | refine pp_ret ?_ | refine pp_normal ?_
  all_goals rfl
theorem bl_bd (x : Nat) (h : x < 9223372036854775808) : 0 ≤ bl x ∧ bl x ≤ 63 := by
  unfold bl
  split
  · omega
  · rename_i h0
    have : Nat.log2 x < 63 := (Nat.log2_lt h0).2 h
    omega
/-- The least width of a number. -/
def wdth (x : Int) : Int := if x < 0 then 0 else max 1 (bl x.toNat)
theorem ac_width (x : Int) (hx : -9223372036854775808 ≤ x ∧ x ≤ 9223372036854775807) : ACalls Tryz.prog 168 [.int .i64 x] [] (.int .i64 (wdth x)) [] := by
  by_cases h0 : x < 0
  · rw [wdth, if_pos h0]
    refine acalls_pure Tryz.func168 rfl rfl rfl ?_
    repeat' first | intro h1 | refine st ?_ | refine stm ?_ | refine Ja ?_ | refine Jb ?_ | refine Jc ?_ | refine Jd ?_ | refine Je ?_ | refine Jf ?_ | refine Jg ?_ | refine Jh ?_ ?_ | refine Ji ?_ ?_ | refine Jj ?_ ?_ | refine run_nil ?_ | refine Jz ?_ | refine Jw ?_ | refine aw_block ?_ | refine Jq ?_ | refine Jr ?_ | refine Js ?_ | refine Jt ?_ | refine Ju ?_ ?_ | refine Jv ?_ ?_ | refine Jy ?_ | refine aw_exit ?_ | refine aw_ret ?_ | refine pp_ret ?_ | refine pp_normal ?_
    all_goals first | rfl | (exfalso; omega)
  · rw [wdth, if_neg h0]
    have h := ac_len x (by omega)
    refine acalls_pure Tryz.func168 rfl rfl rfl ?_
    repeat' first | intro h1 | refine st ?_ | refine st_call (h) ?_ | refine stm ?_ | refine Ja ?_ | refine Jb ?_ | refine Jc ?_ | refine Jd ?_ | refine Je ?_ | refine Jf ?_ | refine Jg ?_ | refine Jh ?_ ?_ | refine Ji ?_ ?_ | refine Jj ?_ ?_ | refine run_nil ?_ | refine Jz ?_ | refine Jw ?_ | refine aw_block ?_ | refine Jq ?_ | refine Jr ?_ | refine Js ?_ | refine Jt ?_ | refine Ju ?_ ?_ | refine Jv ?_ ?_ | refine Jy ?_ | refine aw_exit ?_ | refine aw_ret ?_ | refine pp_ret ?_ | refine pp_normal ?_
    all_goals first | rfl | (exfalso; omega)
structure Wg where
  x : Int
  n : Int
theorem bl_half (x : Int) (h : 2 ≤ x) : bl x.toNat = 1 + bl (x / 2).toNat := bl_step 1 2 (by decide) h
theorem bl_low (x : Int) (h : 0 ≤ x ∧ x < 2) : max 1 (bl x.toNat) = 1 := by
  have : x.toNat = 0 ∨ x.toNat = 1 := by omega
  rcases this with h | h <;> rw [h] <;> decide
theorem bl_pos (x : Int) (h : 1 ≤ x) : 1 ≤ bl x.toNat := by
  unfold bl
  rw [if_neg (by omega)]
  omega
theorem ac_rwidth (x : Int) (hx : -9223372036854775808 ≤ x ∧ x ≤ 9223372036854775807) : ACalls Tryz.prog 172 [.int .i64 x] [] (.int .i64 (wdth x)) [] := by
  by_cases h0 : x < 0
  · rw [wdth, if_pos h0]
    refine acalls_pure Tryz.func172 rfl rfl rfl ?_
    repeat' first | intro h1 | refine st ?_ | refine stm ?_ | refine Ja ?_ | refine Jb ?_ | refine Jc ?_ | refine Jd ?_ | refine Je ?_ | refine Jf ?_ | refine Jg ?_ | refine Jh ?_ ?_ | refine Ji ?_ ?_ | refine Jj ?_ ?_ | refine run_nil ?_ | refine Jz ?_ | refine Jw ?_ | refine aw_block ?_ | refine Jq ?_ | refine Jr ?_ | refine Js ?_ | refine Jt ?_ | refine Ju ?_ ?_ | refine Jv ?_ ?_ | refine Jy ?_ | refine aw_exit ?_ | refine aw_ret ?_ | refine pp_ret ?_ | refine pp_normal ?_
    all_goals first | rfl | (exfalso; omega)
  · obtain ⟨v, hv⟩ : ∃ v, wdth x = v := ⟨_, rfl⟩
    have hv' : v = max 1 (bl x.toNat) := by rw [← hv, wdth, if_neg h0]
    have hb := bl_bd x.toNat (by omega)
    rw [hv]
    refine acalls_pure Tryz.func172 rfl rfl rfl ?_
    repeat' first | intro h1 | refine st ?_ | refine stm ?_ | refine Ja ?_ | refine Jb ?_ | refine Jc ?_ | refine Jd ?_ | refine Je ?_ | refine Jf ?_ | refine Jg ?_ | refine Jh ?_ ?_ | refine Ji ?_ ?_ | refine Jj ?_ ?_ | refine run_nil ?_ | refine Jz ?_ | refine Jw ?_ | refine aw_block ?_ | refine Jq ?_ | refine Jr ?_ | refine Js ?_ | refine Jt ?_ | refine Ju ?_ ?_ | refine Jv ?_ ?_ | refine Jy ?_ | refine aw_exit ?_ | refine aw_ret ?_ | refine pp_ret ?_ | refine pp_normal ?_
    refine aw_loopg
      (S := fun y : Wg => [(0, .int .i64 y.x), (3, .int .i64 y.n)])
      (B := fun _ : Wg => [])
      (R := fun y : Wg => 0 ≤ y.x ∧ y.x ≤ 9223372036854775807 ∧ 1 ≤ y.n ∧ y.n - 1 + max 1 (bl y.x.toNat) = v)
      (μ := fun y : Wg => y.x.toNat) ⟨x, 1⟩ (fitsD []) ⟨by dsimp only; omega, by dsimp only; omega, by dsimp only; omega, by dsimp only; omega⟩ ?_
    have hv63 : v ≤ 63 := by omega
    clear hv hv'
    rintro ⟨z, n⟩ ⟨g1, g2, g3, g4⟩
    dsimp only at *
    by_cases h2 : 2 ≤ z
    · have e1 := bl_half z h2
      have e2 := bl_pos (z / 2) (by omega)
      have e3 := bl_bd z.toNat (by omega)
      repeat' first | intro h1 | refine st ?_ | refine stm ?_ | refine Ja ?_ | refine Jb ?_ | refine Jc ?_ | refine Jd ?_ | refine Je ?_ | refine Jf ?_ | refine Jg ?_ | refine Jh ?_ ?_ | refine Ji ?_ ?_ | refine Jj ?_ ?_ | refine run_nil ?_ | refine Jz ?_ | refine Jw ?_ | refine aw_block ?_ | refine Jq ?_ | refine Jr ?_ | refine Js ?_ | refine Jt ?_ | refine Ju ?_ ?_ | refine Jv ?_ ?_ | refine Jy ?_ | refine aw_exit ?_ | refine aw_ret ?_ | refine pp_ret ?_ | refine pp_normal ?_
      refine Exists.intro ⟨_, _⟩ ⟨fitsD [], ⟨by dsimp only; omega, by dsimp only; omega, by dsimp only; omega, by dsimp only; omega⟩, by dsimp only; omega⟩
    · have e1 := bl_low z (by omega)
      repeat' first | intro h1 | refine st ?_ | refine stm ?_ | refine Ja ?_ | refine Jb ?_ | refine Jc ?_ | refine Jd ?_ | refine Je ?_ | refine Jf ?_ | refine Jg ?_ | refine Jh ?_ ?_ | refine Ji ?_ ?_ | refine Jj ?_ ?_ | refine run_nil ?_ | refine Jz ?_ | refine Jw ?_ | refine aw_block ?_ | refine Jq ?_ | refine Jr ?_ | refine Js ?_ | refine Jt ?_ | refine Ju ?_ ?_ | refine Jv ?_ ?_ | refine Jy ?_ | refine aw_exit ?_ | refine aw_ret ?_ | refine pp_ret ?_ | refine pp_normal ?_
      rw [show n = v by omega]
      rfl
theorem ac_limit (x : Int) : ACalls Tryz.prog 167 [.int .i64 x] [] (.bool (decide (1 ≤ x ∧ x ≤ 4095))) [] := by
  by_cases h0 : 1 ≤ x ∧ x ≤ 4095
  · rw [decide_eq_true h0]
    refine acalls_pure Tryz.func167 rfl rfl rfl ?_
    repeat' first | intro h1 | refine st ?_ | refine stm ?_ | refine Ja ?_ | refine Jb ?_ | refine Jc ?_ | refine Jd ?_ | refine Je ?_ | refine Jf ?_ | refine Jg ?_ | refine Jh ?_ ?_ | refine Ji ?_ ?_ | refine Jj ?_ ?_ | refine run_nil ?_ | refine Jz ?_ | refine Jw ?_ | refine aw_block ?_ | refine Jq ?_ | refine Jr ?_ | refine Js ?_ | refine Jt ?_ | refine Ju ?_ ?_ | refine Jv ?_ ?_ | refine Jy ?_ | refine aw_exit ?_ | refine aw_ret ?_ | refine pp_ret ?_ | refine pp_normal ?_
    all_goals first | rfl | (exfalso; omega) | (simp [retOf]; omega)
  · rw [decide_eq_false h0]
    refine acalls_pure Tryz.func167 rfl rfl rfl ?_
    repeat' first | intro h1 | refine st ?_ | refine stm ?_ | refine Ja ?_ | refine Jb ?_ | refine Jc ?_ | refine Jd ?_ | refine Je ?_ | refine Jf ?_ | refine Jg ?_ | refine Jh ?_ ?_ | refine Ji ?_ ?_ | refine Jj ?_ ?_ | refine run_nil ?_ | refine Jz ?_ | refine Jw ?_ | refine aw_block ?_ | refine Jq ?_ | refine Jr ?_ | refine Js ?_ | refine Jt ?_ | refine Ju ?_ ?_ | refine Jv ?_ ?_ | refine Jy ?_ | refine aw_exit ?_ | refine aw_ret ?_ | refine pp_ret ?_ | refine pp_normal ?_
    all_goals first | rfl | (exfalso; omega) | (simp [retOf]; omega)
/-- A writer behind a field: its bits, its error. -/
def fieldW (bs : List Int) (e : Int) (right fits : Bool) (w x : Int) : List Int × Int :=
  if e ≠ 0 then (bs, e) else if right = false then (bs, 1) else if fits = false then (bs, 2) else if bs.length + w > 524288 then (bs, 8) else (bs ++ bitsOf w.toNat x, 0)
def unsW (bs : List Int) (e w x : Int) : List Int × Int := fieldW bs e (decide (1 ≤ w ∧ w ≤ 63)) (decide (0 ≤ x ∧ x < 2 ^ w.toNat)) w x
def b8 (x : Int) : UInt8 := UInt8.ofNat (IntKind.u8.wrap x).toNat
theorem wrap8' (c : Int) : 0 ≤ IntKind.u8.wrap c ∧ IntKind.u8.wrap c ≤ 255 := by
  simp only [IntKind.wrap, IntKind.signed, IntKind.bits]
  constructor
  · simp; omega
  · simp; omega
theorem u8v_b8 (x : Int) : u8v (b8 x) = .int .u8 (IntKind.u8.wrap x) := by
  have h := wrap8' x
  simp only [u8v, b8]
  congr 1
  have : (UInt8.ofNat (IntKind.u8.wrap x).toNat).toNat = (IntKind.u8.wrap x).toNat := by
    rw [UInt8.toNat_ofNat']
    omega
  rw [this]
  omega
theorem pow_bd (w : Int) (h : 2 ≤ w ∧ w ≤ 63) : (1 : Int) ≤ 2 ^ (w - 1).toNat ∧ (2 : Int) ^ (w - 1).toNat ≤ 4611686018427387904 := by
  have h1 : (2 : Nat) ^ (w - 1).toNat ≤ 2 ^ 62 := Nat.pow_le_pow_right (by omega) (by omega)
  have h2 : 0 < (2 : Nat) ^ (w - 1).toNat := Nat.pos_of_ne_zero (by simp)
  have h3 : ((2 ^ (w - 1).toNat : Nat) : Int) = (2 : Int) ^ (w - 1).toNat := by push_cast; rfl
  omega
def flgW (bs : List Int) (e : Int) (b : Bool) : List Int × Int := fieldW bs e true true 1 (if b then 1 else 0)
theorem pkN_rng (bs : List Int) : ∀ k, ∀ z ∈ pkN bs k, 0 ≤ z ∧ z ≤ 255
  | 0, z, h => by simp [pkN] at h
  | k + 1, z, h => by
    have ih := pkN_rng bs k
    rw [pkN, pkS] at h
    rcases List.mem_or_eq_of_mem_set h with h | h
    · split at h
      · rcases List.mem_append.1 h with h | h
        · exact ih z h
        · simp at h; omega
      · exact ih z h
    · rw [h]
      exact wrap8' _
theorem bytes_u8 (Z : List Int) (h : ∀ z ∈ Z, 0 ≤ z ∧ z ≤ 255) : Z.map (Value.int .u8) = (Z.map b8).map u8v := by
  rw [List.map_map]
  apply List.map_congr_left
  intro z hz
  have := h z hz
  show Value.int .u8 z = u8v (b8 z)
  rw [u8v_b8, wrap_id (by simp [IntKind.min, IntKind.signed]; omega) (by simp [IntKind.max, IntKind.signed, IntKind.bits]; omega)]
def strBits (s : ByteArray) : Nat → List Int
  | 0 => []
  | i + 1 => strBits s i ++ bitsOf 8 (byteAt s i).toNat
theorem strBits_len (s i) : (strBits s i).length = 8 * i := by induction i with
  | zero => rfl
  | succ i ih => rw [strBits, List.length_append, ih, bitsOf_len]; omega
def txtW (bs : List Int) (e m : Int) (s : ByteArray) : List Int × Int :=
  if e ≠ 0 then (bs, e) else if ¬ (1 ≤ m ∧ m ≤ 4095) then (bs, 1) else if m < s.size ∨ bs.length + wdth m + 8 * s.size > 524288 then (bs, 8) else (bs ++ bitsOf (wdth m).toNat s.size ++ strBits s s.size, 0)
theorem wdth_bd (m : Int) (h : 0 ≤ m ∧ m ≤ 9223372036854775807) : 1 ≤ wdth m ∧ wdth m ≤ 63 := by
  have := bl_bd m.toNat (by omega)
  unfold wdth
  rw [if_neg (by omega)]
  omega
structure Qg where
  i : Int
  bs : List Int
  n : Nat
set_option maxHeartbeats 2000000 in
theorem ac_rput (w : Nat) (x e : Int) (bs bs' : List Int) (n n' : Nat) (hx : -9223372036854775808 ≤ x ∧ x ≤ 9223372036854775807) (hw : w ≤ 63) (hn : n = bs.length) (hb : bs ++ bitsOf w x = bs') (hn' : n' = bs'.length) (hle : bs'.length ≤ 600000) :
    ACalls Tryz.prog 173 [.pointer (some ⟨0, 0, none⟩), .int .i64 w, .int .i64 x] [some ⟨[.slice (some ⟨1, 0, none⟩) n n, .int .i64 e], true, 1⟩, some ⟨List.map (Value.int .u8) bs, true, 1⟩] (.tuple #[]) [some ⟨[.slice (some ⟨2, 0, none⟩) n' n', .int .i64 e], true, 1⟩, none, some ⟨List.map (Value.int .u8) bs', true, 1⟩] := by
  have hbl : bs'.length = bs.length + w := by rw [← hb, List.length_append, bitsOf_len]
  refine acalls_of_aw Tryz.func173 rfl rfl ?_
  repeat' first | intro h1 | refine st ?_ | refine stm ?_ | refine Ja ?_ | refine Jb ?_ | refine Jc ?_ | refine Jd ?_ | refine Je ?_ | refine Jf ?_ | refine Jg ?_ | refine Jh ?_ ?_ | refine Ji ?_ ?_ | refine Jj ?_ ?_ | refine run_nil ?_ | refine sd ?_ | refine sdl ?_ | refine sdm (n := 1) ?_ | refine sdm ?_ | refine sdb ?_ | refine Jk ?_ | refine Jl ?_ | refine Jm ?_ | refine Jn ?_ ?_ | refine Jo ?_ ?_ | refine Jp ?_ ?_ | refine rund_nil ?_ | refine Jz ?_ | refine Jw ?_ | refine J0 (id := 3) [0,0,2,6,14,0,0,96,224,480,992,2046,4095,8191,16383] 11 ?_ | refine aw_block ?_ | refine Jq ?_ | refine Jr ?_ | refine Js ?_ | refine Jt ?_ | refine Ju ?_ ?_ | refine Jv ?_ ?_ | refine Jy ?_ | refine aw_exit ?_ | refine aw_ret ?_ | refine pp_ret ?_ | refine pp_normal ?_
  refine aw_loopg
    (S := fun y : Qg => [(0, .pointer (some ⟨0, 0, none⟩)), (2, .int .i64 x), (6, .int .i64 y.i)])
    (B := fun y : Qg => [some ⟨[.slice (some ⟨2, 0, none⟩) y.n y.n, .int .i64 e], true, 1⟩, none, some ⟨List.map (Value.int .u8) y.bs, true, 1⟩])
    (R := fun y : Qg => -1 ≤ y.i ∧ y.i < w ∧ y.n = y.bs.length ∧ y.bs ++ bitsOf (y.i + 1).toNat x = bs')
    (μ := fun y : Qg => (y.i + 1).toNat) ⟨(w : Int) - 1, bs, n⟩ (fitsD [0, 1, 1]) ⟨by dsimp only; omega, by dsimp only; omega, hn, by dsimp only; rw [show ((w : Int) - 1 + 1).toNat = w by omega]; exact hb⟩ ?_
  clear hn hb
  rintro ⟨i, bs, n⟩ ⟨g1, g2, hn, hb⟩
  dsimp only at *
  have hl2 : bs.length + (i + 1).toNat = bs'.length := by rw [← hb, List.length_append, bitsOf_len]
  by_cases hi : 0 ≤ i
  · have hb1 : bs ++ [x / 2 ^ i.toNat % 2] ++ bitsOf i.toNat x = bs' := by
      rw [← hb, show (i + 1).toNat = i.toNat + 1 by omega, bitsOf, List.append_assoc]
      rfl
    have ha := bv_and1 .i64 (.inr rfl) (x / 2 ^ (min i.toNat IntKind.i64.bits))
    have e3 : min i.toNat IntKind.i64.bits = i.toNat := Nat.min_eq_left (by show i.toNat ≤ 64; omega)
    have e4 : IntKind.u8.wrap (x / 2 ^ i.toNat % 2) = x / 2 ^ i.toNat % 2 := wrap_id (by simp [IntKind.min, IntKind.signed]; omega) (by simp [IntKind.max, IntKind.signed, IntKind.bits]; omega)
    rw [e3] at ha
    have hq : List.take (n * 1) (List.drop 0 (List.map (Value.int .u8) bs)) = List.map (Value.int .u8) bs := take_full (by simp; omega)
    repeat' first | intro h1 | refine st ?_ | refine stm ?_ | refine Ja ?_ | refine Jb ?_ | refine Jc ?_ | refine Jd ?_ | refine Je ?_ | refine Jf ?_ | refine Jg ?_ | refine Jh ?_ ?_ | refine Ji ?_ ?_ | refine Jj ?_ ?_ | refine run_nil ?_ | refine sd ?_ | refine sdl ?_ | refine sdm (n := 1) ?_ | refine sdm ?_ | refine sdb ?_ | refine Jk ?_ | refine Jl ?_ | refine Jm ?_ | refine Jn ?_ ?_ | refine Jo ?_ ?_ | refine Jp ?_ ?_ | refine rund_nil ?_ | refine Jz ?_ | refine Jw ?_ | refine J0 (id := 3) [0,0,2,6,14,0,0,96,224,480,992,2046,4095,8191,16383] 11 ?_ | refine aw_block ?_ | refine Jq ?_ | refine Jr ?_ | refine Js ?_ | refine Jt ?_ | refine Ju ?_ ?_ | refine Jv ?_ ?_ | refine Jy ?_ | refine aw_exit ?_ | refine aw_ret ?_ | refine pp_ret ?_ | refine pp_normal ?_
    refine Exists.intro ⟨i - 1, bs ++ [x / 2 ^ i.toNat % 2], _⟩ ⟨fitsD [0, 1, 4] (h4 := .blk rfl (WkL.refl _) rfl (.hole (.blk rfl (.ofEq (by
      refine Eq.trans ?_ (renL_map (fun _ => rfl) _).symm
      dsimp only
      rw [List.map_append]
      simp only [e3, ha, e4]
      rfl)) rfl .nil))), ⟨by dsimp only; omega, by dsimp only; omega, ?_, ?_⟩, by dsimp only; omega⟩
    · dsimp only
      rw [List.length_append, List.length_singleton]
      omega
    · dsimp only
      rw [show (i - 1 + 1).toNat = i.toNat by omega]
      exact hb1
  · obtain rfl : i = -1 := by omega
    repeat' first | intro h1 | refine st ?_ | refine stm ?_ | refine Ja ?_ | refine Jb ?_ | refine Jc ?_ | refine Jd ?_ | refine Je ?_ | refine Jf ?_ | refine Jg ?_ | refine Jh ?_ ?_ | refine Ji ?_ ?_ | refine Jj ?_ ?_ | refine run_nil ?_ | refine sd ?_ | refine sdl ?_ | refine sdm (n := 1) ?_ | refine sdm ?_ | refine sdb ?_ | refine Jk ?_ | refine Jl ?_ | refine Jm ?_ | refine Jn ?_ ?_ | refine Jo ?_ ?_ | refine Jp ?_ ?_ | refine rund_nil ?_ | refine Jz ?_ | refine Jw ?_ | refine J0 (id := 3) [0,0,2,6,14,0,0,96,224,480,992,2046,4095,8191,16383] 11 ?_ | refine aw_block ?_ | refine Jq ?_ | refine Jr ?_ | refine Js ?_ | refine Jt ?_ | refine Ju ?_ ?_ | refine Jv ?_ ?_ | refine Jy ?_ | refine aw_exit ?_ | refine aw_ret ?_ | refine pp_ret ?_ | refine pp_normal ?_
    have hbb : bs = bs' := by rw [← hb]; simp [bitsOf]
    subst hbb
    subst hn hn'
    exact pm_normal _ (renumD [0, 1, 2]) rfl
theorem ac_roomE (w e : Int) (bs : List Int) (n : Nat) (he : e ≠ 0) : ACalls Tryz.prog 171 [.pointer (some ⟨0, 0, none⟩), .int .i64 w] [some ⟨[.slice (some ⟨1, 0, none⟩) n n, .int .i64 e], true, 1⟩, some ⟨List.map (Value.int .u8) bs, true, 1⟩] (.bool false) [some ⟨[.slice (some ⟨1, 0, none⟩) n n, .int .i64 e], true, 1⟩, some ⟨List.map (Value.int .u8) bs, true, 1⟩] := by
  refine acalls_of_aw Tryz.func171 rfl rfl ?_
  repeat' first | intro h1 | refine st ?_ | refine stm ?_ | refine Ja ?_ | refine Jb ?_ | refine Jc ?_ | refine Jd ?_ | refine Je ?_ | refine Jf ?_ | refine Jg ?_ | refine Jh ?_ ?_ | refine Ji ?_ ?_ | refine Jj ?_ ?_ | refine run_nil ?_ | refine Jz ?_ | refine Jw ?_ | refine aw_block ?_ | refine Jq ?_ | refine Jr ?_ | refine Js ?_ | refine Jt ?_ | refine Ju ?_ ?_ | refine Jv ?_ ?_ | refine Jy ?_ | refine aw_exit ?_ | refine aw_ret ?_ | refine pp_ret ?_ | refine pp_normal ?_
  all_goals first | (refine pm_ret _ (renumD [0, 1]) ?_; simp [retOf, ren, he]; done) | (exfalso; omega)
theorem ac_roomF (w : Int) (bs : List Int) (n : Nat) (hn : n = bs.length) (hw : 0 ≤ w ∧ w ≤ 9000000000) (h : bs.length + w > 524288) (hl : bs.length ≤ 524288) : ACalls Tryz.prog 171 [.pointer (some ⟨0, 0, none⟩), .int .i64 w] [some ⟨[.slice (some ⟨1, 0, none⟩) n n, .int .i64 0], true, 1⟩, some ⟨List.map (Value.int .u8) bs, true, 1⟩] (.bool false) [some ⟨[.slice (some ⟨1, 0, none⟩) n n, .int .i64 8], true, 1⟩, some ⟨List.map (Value.int .u8) bs, true, 1⟩] := by
  refine acalls_of_aw Tryz.func171 rfl rfl ?_
  repeat' first | intro h1 | refine st ?_ | refine stm ?_ | refine Ja ?_ | refine Jb ?_ | refine Jc ?_ | refine Jd ?_ | refine Je ?_ | refine Jf ?_ | refine Jg ?_ | refine Jh ?_ ?_ | refine Ji ?_ ?_ | refine Jj ?_ ?_ | refine run_nil ?_ | refine Jz ?_ | refine Jw ?_ | refine aw_block ?_ | refine Jq ?_ | refine Jr ?_ | refine Js ?_ | refine Jt ?_ | refine Ju ?_ ?_ | refine Jv ?_ ?_ | refine Jy ?_ | refine aw_exit ?_ | refine aw_ret ?_ | refine pp_ret ?_ | refine pp_normal ?_
  all_goals first | (refine pm_ret _ (renumD [0, 1]) ?_; simp [retOf, ren]; done) | (exfalso; omega)
theorem ac_roomT (w : Int) (bs : List Int) (n : Nat) (hn : n = bs.length) (hw : 0 ≤ w ∧ w ≤ 9000000000) (h : ¬ bs.length + w > 524288) (hl : bs.length ≤ 524288) : ACalls Tryz.prog 171 [.pointer (some ⟨0, 0, none⟩), .int .i64 w] [some ⟨[.slice (some ⟨1, 0, none⟩) n n, .int .i64 0], true, 1⟩, some ⟨List.map (Value.int .u8) bs, true, 1⟩] (.bool true) [some ⟨[.slice (some ⟨1, 0, none⟩) n n, .int .i64 0], true, 1⟩, some ⟨List.map (Value.int .u8) bs, true, 1⟩] := by
  refine acalls_of_aw Tryz.func171 rfl rfl ?_
  repeat' first | intro h1 | refine st ?_ | refine stm ?_ | refine Ja ?_ | refine Jb ?_ | refine Jc ?_ | refine Jd ?_ | refine Je ?_ | refine Jf ?_ | refine Jg ?_ | refine Jh ?_ ?_ | refine Ji ?_ ?_ | refine Jj ?_ ?_ | refine run_nil ?_ | refine Jz ?_ | refine Jw ?_ | refine aw_block ?_ | refine Jq ?_ | refine Jr ?_ | refine Js ?_ | refine Jt ?_ | refine Ju ?_ ?_ | refine Jv ?_ ?_ | refine Jy ?_ | refine aw_exit ?_ | refine aw_ret ?_ | refine pp_ret ?_ | refine pp_normal ?_
  all_goals first | (refine pm_ret _ (renumD [0, 1]) ?_; simp [retOf, ren]; done) | (exfalso; omega)
set_option maxHeartbeats 1000000 in
theorem ac_runsigned (w x : Int) (e e' : Int) (bs bs' : List Int) (n n' : Nat) (hn : n = bs.length) (hst : unsW bs e w x = (bs', e')) (hn' : n' = bs'.length) (hl : bs.length ≤ 524288) (hw : -9223372036854775808 ≤ w ∧ w ≤ 9223372036854775807) (hx : -9223372036854775808 ≤ x ∧ x ≤ 9223372036854775807) :
    ACalls Tryz.prog 129 [.pointer (some ⟨0, 0, none⟩), .int .i64 w, .int .i64 x] [some ⟨[.slice (some ⟨1, 0, none⟩) n n, .int .i64 e], true, 1⟩, some ⟨List.map (Value.int .u8) bs, true, 1⟩] (.tuple #[]) [some ⟨[.slice (some ⟨2, 0, none⟩) n' n', .int .i64 e'], true, 1⟩, none, some ⟨List.map (Value.int .u8) bs', true, 1⟩] := by
  unfold unsW fieldW at hst
  by_cases he : e = 0
  · subst he
    rw [if_neg (by simp)] at hst
    by_cases hr : 1 ≤ w ∧ w ≤ 63
    · rw [if_neg (by simpa using hr)] at hst
      have hsh : w < 63 → IntKind.i64.wrap (1 * 2 ^ (min w.toNat IntKind.i64.bits)) = 2 ^ w.toNat := fun h => by
        have em : min w.toNat IntKind.i64.bits = w.toNat := by show min w.toNat 64 = _; omega
        obtain ⟨p1, p2⟩ := pow_bd (w + 1) ⟨by omega, by omega⟩
        rw [show (w + 1 - 1).toNat = w.toNat by omega] at p1 p2
        rw [em, Int.one_mul]
        exact wrap64 (by omega)
      have h63 : w = 63 → (2 : Int) ^ w.toNat = 9223372036854775808 := fun h => by rw [h]; rfl
      by_cases hf : 0 ≤ x ∧ x < 2 ^ w.toNat
      · rw [if_neg (by simpa using hf)] at hst
        have hf' : w < 63 → x < IntKind.i64.wrap (1 * 2 ^ (min w.toNat IntKind.i64.bits)) := fun h => by rw [hsh h]; exact hf.2
        by_cases hs : bs.length + w > 524288
        · rw [if_pos hs] at hst
          obtain ⟨rfl, rfl⟩ := Prod.mk.inj hst
          subst hn'
          have HR := ac_roomF w bs n hn (by omega) hs hl
          subst hn
          refine acalls_of_aw Tryz.func129 rfl rfl ?_
          repeat' first | intro h1 | refine st ?_ | refine stMW [0, 1] HR ?_ | refine stm ?_ | refine Ja ?_ | refine Jb ?_ | refine Jc ?_ | refine Jd ?_ | refine Je ?_ | refine Jf ?_ | refine Jg ?_ | refine Jh ?_ ?_ | refine Ji ?_ ?_ | refine Jj ?_ ?_ | refine run_nil ?_ | refine Jz ?_ | refine Jw ?_ | refine aw_block ?_ | refine Jq ?_ | refine Jr ?_ | refine Js ?_ | refine Jt ?_ | refine Ju ?_ ?_ | refine Jv ?_ ?_ | refine Jy ?_ | refine aw_exit ?_ | refine aw_ret ?_ | refine pp_ret ?_ | refine pp_normal ?_
          all_goals first | exact pm_normal _ (renumD [0, 1, 1]) rfl | exact pm_ret _ (renumD [0, 1, 1]) rfl | (exfalso; omega)
        · rw [if_neg hs] at hst
          obtain ⟨hb, rfl⟩ := Prod.mk.inj hst
          have hl1 := congrArg List.length hb
          rw [List.length_append, bitsOf_len] at hl1
          have HR := ac_roomT w bs n hn (by omega) hs hl
          have HP := ac_rput w.toNat x 0 bs bs' n n' hx (by omega) hn hb hn' (by omega)
          rw [show ((w.toNat : Nat) : Int) = w by omega] at HP
          refine acalls_of_aw Tryz.func129 rfl rfl ?_
          repeat' first | intro h1 | refine st ?_ | refine stMW [0, 1] HR ?_ | refine stMW [0, 1] HP ?_ | refine stm ?_ | refine Ja ?_ | refine Jb ?_ | refine Jc ?_ | refine Jd ?_ | refine Je ?_ | refine Jf ?_ | refine Jg ?_ | refine Jh ?_ ?_ | refine Ji ?_ ?_ | refine Jj ?_ ?_ | refine run_nil ?_ | refine Jz ?_ | refine Jw ?_ | refine aw_block ?_ | refine Jq ?_ | refine Jr ?_ | refine Js ?_ | refine Jt ?_ | refine Ju ?_ ?_ | refine Jv ?_ ?_ | refine Jy ?_ | refine aw_exit ?_ | refine aw_ret ?_ | refine pp_ret ?_ | refine pp_normal ?_
          all_goals first | exact pm_normal _ (renumD [0, 1, 2]) rfl | (exfalso; omega)
      · rw [if_pos (by simpa using hf)] at hst
        obtain ⟨rfl, rfl⟩ := Prod.mk.inj hst
        subst hn hn'
        have hf' : w < 63 → ¬ (0 ≤ x ∧ x < IntKind.i64.wrap (1 * 2 ^ (min w.toNat IntKind.i64.bits))) := fun h => by rw [hsh h]; exact hf
        have hf2 : w = 63 → x < 0 := fun h => by have := h63 h; omega
        refine acalls_of_aw Tryz.func129 rfl rfl ?_
        repeat' first | intro h1 | refine st ?_ | refine stm ?_ | refine Ja ?_ | refine Jb ?_ | refine Jc ?_ | refine Jd ?_ | refine Je ?_ | refine Jf ?_ | refine Jg ?_ | refine Jh ?_ ?_ | refine Ji ?_ ?_ | refine Jj ?_ ?_ | refine run_nil ?_ | refine Jz ?_ | refine Jw ?_ | refine aw_block ?_ | refine Jq ?_ | refine Jr ?_ | refine Js ?_ | refine Jt ?_ | refine Ju ?_ ?_ | refine Jv ?_ ?_ | refine Jy ?_ | refine aw_exit ?_ | refine aw_ret ?_ | refine pp_ret ?_ | refine pp_normal ?_
        all_goals first | exact pm_ret _ (renumD [0, 1, 1]) rfl | (exfalso; omega)
    · rw [if_pos (by simpa using hr)] at hst
      obtain ⟨rfl, rfl⟩ := Prod.mk.inj hst
      subst hn hn'
      refine acalls_of_aw Tryz.func129 rfl rfl ?_
      repeat' first | intro h1 | refine st ?_ | refine stm ?_ | refine Ja ?_ | refine Jb ?_ | refine Jc ?_ | refine Jd ?_ | refine Je ?_ | refine Jf ?_ | refine Jg ?_ | refine Jh ?_ ?_ | refine Ji ?_ ?_ | refine Jj ?_ ?_ | refine run_nil ?_ | refine Jz ?_ | refine Jw ?_ | refine aw_block ?_ | refine Jq ?_ | refine Jr ?_ | refine Js ?_ | refine Jt ?_ | refine Ju ?_ ?_ | refine Jv ?_ ?_ | refine Jy ?_ | refine aw_exit ?_ | refine aw_ret ?_ | refine pp_ret ?_ | refine pp_normal ?_
      all_goals first | exact pm_ret _ (renumD [0, 1, 1]) rfl | (exfalso; omega)
  · rw [if_pos he] at hst
    obtain ⟨rfl, rfl⟩ := Prod.mk.inj hst
    subst hn hn'
    refine acalls_of_aw Tryz.func129 rfl rfl ?_
    repeat' first | intro h1 | refine st ?_ | refine stm ?_ | refine Ja ?_ | refine Jb ?_ | refine Jc ?_ | refine Jd ?_ | refine Je ?_ | refine Jf ?_ | refine Jg ?_ | refine Jh ?_ ?_ | refine Ji ?_ ?_ | refine Jj ?_ ?_ | refine run_nil ?_ | refine Jz ?_ | refine Jw ?_ | refine aw_block ?_ | refine Jq ?_ | refine Jr ?_ | refine Js ?_ | refine Jt ?_ | refine Ju ?_ ?_ | refine Jv ?_ ?_ | refine Jy ?_ | refine aw_exit ?_ | refine aw_ret ?_ | refine pp_ret ?_ | refine pp_normal ?_
    all_goals first | exact pm_ret _ (renumD [0, 1, 1]) rfl | (exfalso; omega)
theorem ac_rnewW : ACalls Tryz.prog 126 [] [] (.pointer (some ⟨0, 0, none⟩)) [some ⟨[.slice (some ⟨1, 0, none⟩) 0 0, .int .i64 0], true, 1⟩, some ⟨List.map (Value.int .u8) [], true, 1⟩] := by
  refine acalls_of_aw Tryz.func126 rfl rfl ?_
  refine aw_ghost 1 rfl ?_
  repeat' first | intro h1 | refine st ?_ | refine stm ?_ | refine Ja ?_ | refine Jb ?_ | refine Jc ?_ | refine Jd ?_ | refine Je ?_ | refine Jf ?_ | refine Jg ?_ | refine Jh ?_ ?_ | refine Ji ?_ ?_ | refine Jj ?_ ?_ | refine run_nil ?_ | refine Jz ?_ | refine Jw ?_ | refine aw_block ?_ | refine Jq ?_ | refine Jr ?_ | refine Js ?_ | refine Jt ?_ | refine Ju ?_ ?_ | refine Jv ?_ ?_ | refine Jy ?_ | refine aw_exit ?_ | refine aw_ret ?_ | refine pp_ret ?_ | refine pp_normal ?_
  exact pm_ret _ (renumD [1, 0]) rfl
theorem ac_rflag (v : Bool) (e e' : Int) (bs bs' : List Int) (n n' : Nat) (hn : n = bs.length) (hst : flgW bs e v = (bs', e')) (hn' : n' = bs'.length) (hl : bs.length ≤ 524288) :
    ACalls Tryz.prog 127 [.pointer (some ⟨0, 0, none⟩), .bool v] [some ⟨[.slice (some ⟨1, 0, none⟩) n n, .int .i64 e], true, 1⟩, some ⟨List.map (Value.int .u8) bs, true, 1⟩] (.tuple #[]) [some ⟨[.slice (some ⟨2, 0, none⟩) n' n', .int .i64 e'], true, 1⟩, none, some ⟨List.map (Value.int .u8) bs', true, 1⟩] := by
  unfold flgW fieldW at hst
  by_cases he : e = 0
  · subst he
    rw [if_neg (by simp), if_neg (by simp), if_neg (by simp)] at hst
    by_cases hs : bs.length + (1 : Int) > 524288
    · rw [if_pos hs] at hst
      obtain ⟨rfl, rfl⟩ := Prod.mk.inj hst
      have HR := ac_roomF 1 bs n hn (by omega) hs hl
      subst hn hn'
      refine acalls_of_aw Tryz.func127 rfl rfl ?_
      repeat' first | intro h1 | refine st ?_ | refine stMW [0, 1] HR ?_ | refine stm ?_ | refine Ja ?_ | refine Jb ?_ | refine Jc ?_ | refine Jd ?_ | refine Je ?_ | refine Jf ?_ | refine Jg ?_ | refine Jh ?_ ?_ | refine Ji ?_ ?_ | refine Jj ?_ ?_ | refine run_nil ?_ | refine Jz ?_ | refine Jw ?_ | refine aw_block ?_ | refine Jq ?_ | refine Jr ?_ | refine Js ?_ | refine Jt ?_ | refine Ju ?_ ?_ | refine Jv ?_ ?_ | refine Jy ?_ | refine aw_exit ?_ | refine aw_ret ?_ | refine pp_ret ?_ | refine pp_normal ?_
      all_goals first | exact pm_ret _ (renumD [0, 1, 1]) rfl | (exfalso; omega)
    · rw [if_neg hs] at hst
      obtain ⟨hb, rfl⟩ := Prod.mk.inj hst
      have HR := ac_roomT 1 bs n hn (by omega) hs hl
      have hl1 := congrArg List.length hb
      rw [List.length_append, bitsOf_len] at hl1
      cases v
      · have hb2 : bs ++ [0] = bs' := hb
        refine acalls_of_aw Tryz.func127 rfl rfl ?_
        repeat' first | intro h1 | refine st ?_ | refine stMW [0, 1] HR ?_ | refine stm ?_ | refine Ja ?_ | refine Jb ?_ | refine Jc ?_ | refine Jd ?_ | refine Je ?_ | refine Jf ?_ | refine Jg ?_ | refine Jh ?_ ?_ | refine Ji ?_ ?_ | refine Jj ?_ ?_ | refine run_nil ?_ | refine Jz ?_ | refine Jw ?_ | refine aw_block ?_ | refine Jq ?_ | refine Jr ?_ | refine Js ?_ | refine Jt ?_ | refine Ju ?_ ?_ | refine Jv ?_ ?_ | refine Jy ?_ | refine aw_exit ?_ | refine aw_ret ?_ | refine pp_ret ?_ | refine pp_normal ?_
        all_goals (
          obtain rfl : n' = n + 1 := by rw [← hb2] at hn'; simp at hn'; omega
          refine pm_normal _ (renumD [0, 1, 3] (h4 := .blk rfl (WkL.refl _) rfl (.hole (.blk rfl (.ofEq (by refine Eq.trans ?_ (renL_map (fun _ => rfl) _).symm; rw [← hb2, List.map_append]; rfl)) rfl .nil)))) rfl)
      · have hb2 : bs ++ [1] = bs' := hb
        refine acalls_of_aw Tryz.func127 rfl rfl ?_
        repeat' first | intro h1 | refine st ?_ | refine stMW [0, 1] HR ?_ | refine stm ?_ | refine Ja ?_ | refine Jb ?_ | refine Jc ?_ | refine Jd ?_ | refine Je ?_ | refine Jf ?_ | refine Jg ?_ | refine Jh ?_ ?_ | refine Ji ?_ ?_ | refine Jj ?_ ?_ | refine run_nil ?_ | refine Jz ?_ | refine Jw ?_ | refine aw_block ?_ | refine Jq ?_ | refine Jr ?_ | refine Js ?_ | refine Jt ?_ | refine Ju ?_ ?_ | refine Jv ?_ ?_ | refine Jy ?_ | refine aw_exit ?_ | refine aw_ret ?_ | refine pp_ret ?_ | refine pp_normal ?_
        all_goals (
          obtain rfl : n' = n + 1 := by rw [← hb2] at hn'; simp at hn'; omega
          refine pm_normal _ (renumD [0, 1, 3] (h4 := .blk rfl (WkL.refl _) rfl (.hole (.blk rfl (.ofEq (by refine Eq.trans ?_ (renL_map (fun _ => rfl) _).symm; rw [← hb2, List.map_append]; rfl)) rfl .nil)))) rfl)
  · rw [if_pos he] at hst
    obtain ⟨rfl, rfl⟩ := Prod.mk.inj hst
    have HR := ac_roomE 1 e bs n he
    subst hn hn'
    refine acalls_of_aw Tryz.func127 rfl rfl ?_
    repeat' first | intro h1 | refine st ?_ | refine stMW [0, 1] HR ?_ | refine stm ?_ | refine Ja ?_ | refine Jb ?_ | refine Jc ?_ | refine Jd ?_ | refine Je ?_ | refine Jf ?_ | refine Jg ?_ | refine Jh ?_ ?_ | refine Ji ?_ ?_ | refine Jj ?_ ?_ | refine run_nil ?_ | refine Jz ?_ | refine Jw ?_ | refine aw_block ?_ | refine Jq ?_ | refine Jr ?_ | refine Js ?_ | refine Jt ?_ | refine Ju ?_ ?_ | refine Jv ?_ ?_ | refine Jy ?_ | refine aw_exit ?_ | refine aw_ret ?_ | refine pp_ret ?_ | refine pp_normal ?_
    all_goals first | exact pm_ret _ (renumD [0, 1, 1]) rfl | (exfalso; omega)
structure Ug where
  i : Nat
  bs : List Int
  n : Nat
end Go.Proofs.YtdbcbclapipgdaaGreatDoor
