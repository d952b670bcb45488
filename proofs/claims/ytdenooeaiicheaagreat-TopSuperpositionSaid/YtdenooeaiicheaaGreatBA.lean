/- Bits: the writer. -/
import Derived.Test.YtdenooeaiicheaaGreatVL
import Derived.Test.YtdenooeaiicheaaGreatP
set_option linter.unusedVariables false
set_option linter.unusedSimpArgs false
namespace Go.Proofs.YtdenooeaiicheaaGreat
open Go Av
set_option maxRecDepth 20000
structure Pg where
  i : Int
  bs : List Int
  Z : List Int
  n : Nat
  k : Int
set_option maxHeartbeats 2000000 in
theorem ac_put (w : Nat) (x e : Int) (bs bs' Z Z' : List Int) (n n' : Nat) (k k' : Int) (hx : 0 ≤ x) (hw : w ≤ 64) (hZ : pack bs = Z) (hn : n = Z.length) (hk : k = bs.length) (hb : bs ++ bitsOf w x = bs') (hZ' : pack bs' = Z') (hn' : n' = Z'.length) (hk' : k' = bs'.length) (hle : bs'.length ≤ 600000) :
    ACalls Tryz.prog 127 [.pointer (some ⟨0, 0, none⟩), .int .i64 w, .int .u64 x] [some ⟨[.slice (some ⟨1, 0, none⟩) n n, .int .i64 k, .int .i64 e], true, 1⟩, some ⟨List.map (Value.int .u8) Z, true, 1⟩] (.tuple #[]) [some ⟨[.slice (some ⟨2, 0, none⟩) n' n', .int .i64 k', .int .i64 e], true, 1⟩, none, some ⟨List.map (Value.int .u8) Z', true, 1⟩] := by
  have hbl : bs'.length = bs.length + w := by rw [← hb, List.length_append, bitsOf_len]
  refine acalls_of_aw Tryz.func127 rfl rfl ?_
  repeat' first | refine st ?_ | refine run_nil ?_ | refine Jz ?_ | refine Jw ?_ | refine aw_block ?_
  refine aw_loopg
    (S := fun y : Pg => [(0, .pointer (some ⟨0, 0, none⟩)), (2, .int .u64 x), (6, .int .i64 y.i)])
    (B := fun y : Pg => [some ⟨[.slice (some ⟨2, 0, none⟩) y.n y.n, .int .i64 y.k, .int .i64 e], true, 1⟩, none, some ⟨List.map (Value.int .u8) y.Z, true, 1⟩])
    (R := fun y : Pg => -1 ≤ y.i ∧ y.i < w ∧ pack y.bs = y.Z ∧ y.n = y.Z.length ∧ y.k = y.bs.length ∧ y.bs ++ bitsOf (y.i + 1).toNat x = bs')
    (μ := fun y : Pg => (y.i + 1).toNat) ⟨(w : Int) - 1, bs, Z, n, k⟩ (fitsD [0, 1, 1]) ⟨by dsimp only; omega, by dsimp only; omega, hZ, hn, hk, by dsimp only; rw [show ((w : Int) - 1 + 1).toNat = w by omega]; exact hb⟩ ?_
  clear hZ hn hk hb
  rintro ⟨i, bs, Z, n, k⟩ ⟨g1, g2, hZ, hn, hk, hb⟩
  dsimp only at *
  have hZl : Z.length = (bs.length + 7) / 8 := by rw [← hZ, pack_len]
  have hl2 : bs.length + (i + 1).toNat = bs'.length := by rw [← hb, List.length_append, bitsOf_len]
  by_cases hi : 0 ≤ i
  · have hb1 : bs ++ [x / 2 ^ i.toNat % 2] ++ bitsOf i.toNat x = bs' := by
      rw [← hb, show (i + 1).toNat = i.toNat + 1 by omega, bitsOf, List.append_assoc]
      rfl
    have ha := bv_and1 .u64 (.inl rfl) (x / 2 ^ (min i.toNat IntKind.u64.bits))
    rw [show min i.toNat IntKind.u64.bits = i.toNat from Nat.min_eq_left (by show i.toNat ≤ 64; omega)] at ha
    have e1 : min (7 - k % 8).toNat IntKind.u8.bits = 7 - bs.length % 8 := by show min (7 - k % 8).toNat 8 = _; omega
    have e2 : (k / 8).toNat = bs.length / 8 := by omega
    have e3 : min i.toNat IntKind.u64.bits = i.toNat := Nat.min_eq_left (by show i.toNat ≤ 64; omega)
    have e4 : IntKind.u8.wrap (x / 2 ^ i.toNat % 2) = x / 2 ^ i.toNat % 2 := wrap_id (by simp [IntKind.min, IntKind.signed]; omega) (by simp [IntKind.max, IntKind.signed, IntKind.bits]; omega)
    by_cases h8 : bs.length % 8 = 0
    · have h8' : k % 8 = 0 := by omega
      repeat' first | refine run_step (ok_append (cs := List.map (Value.int .u8) (Z ++ [0])) (olds := List.map (Value.int .u8) Z) rfl rfl rfl rfl rfl rfl (Src.slc rfl Ty.eq rfl (Nat.le_of_ble_eq_true rfl) rfl rfl rfl) (by simp; omega) (take_full (by simp; omega)) (by rw [List.map_append]; rfl) (by omega) (by (repeat constructor))) (Nat.le_of_ble_eq_true rfl) ?_ | refine st ?_ | refine stm ?_ | refine run_nil ?_ | refine sd ?_ | refine sdl ?_ | refine sdb ?_ | refine rund_nil ?_ | refine Jz ?_ | refine Jw ?_ | refine J0 (id := 5) [0,1,3,7,0,16,48,112,240,511,1023,0,0,6144,14336,30720,0,65536,196608,458752,983040,2031616,4192256,8388607,16777215,33554431] 25 ?_ | refine aw_block ?_ | refine Js ?_ | refine Jy ?_
      refine Exists.intro ⟨i - 1, bs ++ [x / 2 ^ i.toNat % 2], pkS Z bs.length (x / 2 ^ i.toNat % 2), _, _⟩ ⟨fitsD [0, 1, 4] (h4 := .blk rfl (WkL.refl _) rfl (.hole (.blk rfl (.ofEq (by
        refine Eq.trans ?_ (renL_map (fun _ => rfl) _).symm
        rw [pkS, if_pos h8]
        simp only [e1, e2, e3, ha, e4])) rfl .nil))), ⟨by dsimp only; omega, by dsimp only; omega, by dsimp only; rw [pack_snoc, hZ], ?_, ?_, ?_⟩, by dsimp only; omega⟩
      · dsimp only
        rw [pkS_len, if_pos h8]
        omega
      · dsimp only
        rw [List.length_append, List.length_singleton]
        omega
      · dsimp only
        rw [show (i - 1 + 1).toNat = i.toNat by omega]
        exact hb1
    · have h8' : ¬ k % 8 = 0 := by omega
      repeat' first | refine st ?_ | refine stm ?_ | refine run_nil ?_ | refine sd ?_ | refine sdl ?_ | refine sdb ?_ | refine rund_nil ?_ | refine Jz ?_ | refine Jw ?_ | refine J0 (id := 5) [0,1,3,7,0,16,48,112,240,511,1023,0,0,6144,14336,30720,0,65536,196608,458752,983040,2031616,4192256,8388607,16777215,33554431] 25 ?_ | refine aw_block ?_ | refine Js ?_ | refine Jt ?_ | refine Jy ?_
      refine Exists.intro ⟨i - 1, bs ++ [x / 2 ^ i.toNat % 2], pkS Z bs.length (x / 2 ^ i.toNat % 2), _, _⟩ ⟨fitsD [0, 1, 2] (h4 := .blk rfl (WkL.refl _) rfl (.hole (.blk rfl (.ofEq (by
        refine Eq.trans ?_ (renL_map (fun _ => rfl) _).symm
        rw [pkS, if_neg h8]
        simp only [e1, e2, e3, ha, e4])) rfl .nil))), ⟨by dsimp only; omega, by dsimp only; omega, by dsimp only; rw [pack_snoc, hZ], ?_, ?_, ?_⟩, by dsimp only; omega⟩
      · dsimp only
        rw [pkS_len, if_neg h8]
        omega
      · dsimp only
        rw [List.length_append, List.length_singleton]
        omega
      · dsimp only
        rw [show (i - 1 + 1).toNat = i.toNat by omega]
        exact hb1
  · obtain rfl : i = -1 := by omega
    repeat' first | refine st ?_ | refine run_nil ?_ | refine Jz ?_ | refine Jw ?_ | refine Jr ?_ | refine aw_exit ?_
    have hbb : bs = bs' := by rw [← hb]; simp [bitsOf]
    subst hbb
    rw [hZ] at hZ'
    subst hZ' hn hn' hk hk'
    exact pm_normal _ (renumD [0, 1, 2]) rfl
theorem ok_shr_lit {P : Program} {ρ : Operand → Option Value} {m : Mem} {d : Option Tmp} {t : TypeId} {pp : String} {af : Array Edge} {g : Option (Nat × Bool)} {xt yt : TypeId} {x y : Operand} {k k' : IntKind} {a b : Int} (c : Int) (hx : ρ x = some (.int k a)) (hy : ρ y = some (.int k' b)) (h : 0 ≤ b) (hc : (2 : Int) ^ (min b.toNat k.bits) = c) :
    OpOK P ⟨d, .binOp .shr xt x y yt, t, pp, af, g⟩ ρ m (.int k (a / c)) m := by
  rw [← hc]
  exact ok_shr hx hy h
/-- How many bits a number has. -/
def bl (x : Nat) : Int := if x = 0 then 0 else (Nat.log2 x : Int) + 1
theorem bl_div (x k : Nat) (h : 2 ^ k ≤ x) : bl x = k + bl (x / 2 ^ k) := by
  have h2 : 0 < 2 ^ k := Nat.pos_of_ne_zero (by simp)
  have hx : x ≠ 0 := by omega
  have hd : x / 2 ^ k ≠ 0 := by have := Nat.div_pos h h2; omega
  unfold bl
  rw [if_neg hx, if_neg hd]
  have e : Nat.log2 x = k + Nat.log2 (x / 2 ^ k) := by
    rw [Nat.log2_eq_iff hx]
    obtain ⟨a, b⟩ := (Nat.log2_eq_iff hd).1 rfl
    generalize Nat.log2 (x / 2 ^ k) = q at a b
    constructor
    · rw [Nat.add_comm, Nat.pow_add]
      exact (Nat.le_div_iff_mul_le h2).1 a
    · rw [show k + q + 1 = (q + 1) + k by omega, Nat.pow_add]
      exact (Nat.div_lt_iff_lt_mul h2).1 b
  rw [e]
  omega
def tab : ByteArray := ⟨(([0, 1, 2, 2, 3, 3, 3, 3, 4, 4, 4, 4, 4, 4, 4, 4, 5, 5, 5, 5, 5, 5, 5, 5, 5, 5, 5, 5, 5, 5, 5, 5, 6, 6, 6, 6, 6, 6, 6, 6, 6, 6, 6, 6, 6, 6, 6, 6, 6, 6, 6, 6, 6, 6, 6, 6, 6, 6, 6, 6, 6, 6, 6, 6].append [7, 7, 7, 7, 7, 7, 7, 7, 7, 7, 7, 7, 7, 7, 7, 7, 7, 7, 7, 7, 7, 7, 7, 7, 7, 7, 7, 7, 7, 7, 7, 7, 7, 7, 7, 7, 7, 7, 7, 7, 7, 7, 7, 7, 7, 7, 7, 7, 7, 7, 7, 7, 7, 7, 7, 7, 7, 7, 7, 7, 7, 7, 7, 7]).append ([8, 8, 8, 8, 8, 8, 8, 8, 8, 8, 8, 8, 8, 8, 8, 8, 8, 8, 8, 8, 8, 8, 8, 8, 8, 8, 8, 8, 8, 8, 8, 8, 8, 8, 8, 8, 8, 8, 8, 8, 8, 8, 8, 8, 8, 8, 8, 8, 8, 8, 8, 8, 8, 8, 8, 8, 8, 8, 8, 8, 8, 8, 8, 8].append [8, 8, 8, 8, 8, 8, 8, 8, 8, 8, 8, 8, 8, 8, 8, 8, 8, 8, 8, 8, 8, 8, 8, 8, 8, 8, 8, 8, 8, 8, 8, 8, 8, 8, 8, 8, 8, 8, 8, 8, 8, 8, 8, 8, 8, 8, 8, 8, 8, 8, 8, 8, 8, 8, 8, 8, 8, 8, 8, 8, 8, 8, 8, 8])).toArray⟩
theorem tab_bl : ∀ y : Fin 256, ((byteAt tab y.val).toNat : Int) = bl y.val := by decide +kernel
theorem tab_bl' (y : Int) (h : 0 ≤ y ∧ y < 256) : bl y.toNat = ((byteAt ⟨(([0, 1, 2, 2, 3, 3, 3, 3, 4, 4, 4, 4, 4, 4, 4, 4, 5, 5, 5, 5, 5, 5, 5, 5, 5, 5, 5, 5, 5, 5, 5, 5, 6, 6, 6, 6, 6, 6, 6, 6, 6, 6, 6, 6, 6, 6, 6, 6, 6, 6, 6, 6, 6, 6, 6, 6, 6, 6, 6, 6, 6, 6, 6, 6].append [7, 7, 7, 7, 7, 7, 7, 7, 7, 7, 7, 7, 7, 7, 7, 7, 7, 7, 7, 7, 7, 7, 7, 7, 7, 7, 7, 7, 7, 7, 7, 7, 7, 7, 7, 7, 7, 7, 7, 7, 7, 7, 7, 7, 7, 7, 7, 7, 7, 7, 7, 7, 7, 7, 7, 7, 7, 7, 7, 7, 7, 7, 7, 7]).append ([8, 8, 8, 8, 8, 8, 8, 8, 8, 8, 8, 8, 8, 8, 8, 8, 8, 8, 8, 8, 8, 8, 8, 8, 8, 8, 8, 8, 8, 8, 8, 8, 8, 8, 8, 8, 8, 8, 8, 8, 8, 8, 8, 8, 8, 8, 8, 8, 8, 8, 8, 8, 8, 8, 8, 8, 8, 8, 8, 8, 8, 8, 8, 8].append [8, 8, 8, 8, 8, 8, 8, 8, 8, 8, 8, 8, 8, 8, 8, 8, 8, 8, 8, 8, 8, 8, 8, 8, 8, 8, 8, 8, 8, 8, 8, 8, 8, 8, 8, 8, 8, 8, 8, 8, 8, 8, 8, 8, 8, 8, 8, 8, 8, 8, 8, 8, 8, 8, 8, 8, 8, 8, 8, 8, 8, 8, 8, 8])).toArray⟩ y.toNat).toNat : Int) := (tab_bl ⟨y.toNat, by omega⟩).symm
theorem bl_step {x : Int} (k c : Nat) (hc : 2 ^ k = c) (h : (c : Int) ≤ x) : bl x.toNat = k + bl (x / c).toNat := by
  obtain ⟨n, rfl⟩ : ∃ n : Nat, x = n := ⟨x.toNat, by omega⟩
  rw [Int.toNat_natCast, bl_div n k (by omega), hc, ← Int.natCast_ediv, Int.toNat_natCast]
theorem bl32 {x : Int} (h : 4294967296 ≤ x) : bl x.toNat = 32 + bl (x / 4294967296).toNat := bl_step 32 4294967296 (by decide) h
theorem bl16 {x : Int} (h : 65536 ≤ x) : bl x.toNat = 16 + bl (x / 65536).toNat := bl_step 16 65536 (by decide) h
theorem bl8 {x : Int} (h : 256 ≤ x) : bl x.toNat = 8 + bl (x / 256).toNat := bl_step 8 256 (by decide) h
theorem ok_conv_u8 {P : Program} {ρ : Operand → Option Value} {m : Mem} {d : Option Tmp} {t : TypeId} {pp : String} {af : Array Edge} {g : Option (Nat × Bool)} {src dst : TypeId} {x : Operand} {k' : IntKind} {b : UInt8} {d0 : TypeDesc} [Ty P src d0] [Ty P dst (.int k')] (hx : ρ x = some (.int .u8 (b.toNat : Int))) (h : k'.min ≤ 0 ∧ 255 ≤ k'.max) :
    OpOK P ⟨d, .convert src dst x, t, pp, af, g⟩ ρ m (.int k' (b.toNat : Int)) m := by
  have := b.toNat_lt
  exact ok_conv_in hx (by omega) (by omega)
set_option maxHeartbeats 1000000 in
theorem ac_len64 (x : Int) (hx : 0 ≤ x ∧ x < 18446744073709551616) : ACalls Tryz.prog 132 [.int .u64 x] [] (.int .i64 (bl x.toNat)) [] := by
  refine acalls_pure Tryz.func132 rfl rfl rfl ?_
  repeat' first | intro h1 | refine st (h := ok_conv_u8 rfl (by decide)) ?_ | refine st (h := ok_str_index rfl rfl (show 0 ≤ _ ∧ _ < ((256 : Nat) : Int) from ⟨by omega, by omega⟩)) ?_ | refine st (h := ok_shr_lit 4294967296 rfl rfl (by decide) (by decide)) ?_ | refine st (h := ok_shr_lit 65536 rfl rfl (by decide) (by decide)) ?_ | refine st (h := ok_shr_lit 256 rfl rfl (by decide) (by decide)) ?_ | refine st ?_ | refine run_nil ?_ | refine Jz ?_ | refine Jw ?_ | refine Ju ?_ ?_ | refine Jy ?_ | refine aw_ret ?_ | refine pp_ret ?_
  all_goals
    try rw [bl32 (x := x) (by assumption)]
    first | rw [bl16 (x := x / 4294967296) (by assumption)] | rw [bl16 (x := x) (by assumption)] | skip
    first | rw [bl8 (x := x / 4294967296 / 65536) (by assumption)] | rw [bl8 (x := x / 4294967296) (by assumption)] | rw [bl8 (x := x / 65536) (by assumption)] | rw [bl8 (x := x) (by assumption)] | skip
    rw [tab_bl' _ ⟨by omega, by omega⟩]
    simp only [retOf]
    congr 1
    generalize byteAt _ _ = B
    have hlt : B.toNat < 256 := B.toNat_lt
    rw [wrap64 (by omega)]
    try omega
theorem ac_len (x : Int) (hx : 0 ≤ x ∧ x < 18446744073709551616) : ACalls Tryz.prog 119 [.int .u64 x] [] (.int .i64 (bl x.toNat)) [] := by
  have h := ac_len64 x hx
  refine acalls_pure Tryz.func119 rfl rfl rfl ?_
  repeat' first | refine st ?_ | refine st_call (h) ?_ | refine run_nil ?_ | refine Jz ?_ | refine Jw ?_ | refine Jr ?_ | refine Jy ?_ | refine aw_ret ?_ | refine pp_ret ?_
  all_goals rfl
theorem bl_bd (x : Nat) (h : x < 9223372036854775808) : 0 ≤ bl x ∧ bl x ≤ 63 := by
  unfold bl
  split
  · omega
  · rename_i h0
    have : Nat.log2 x < 63 := (Nat.log2_lt h0).2 h
    omega
theorem bl_le (x w : Nat) : bl x ≤ w ↔ x < 2 ^ w := by
  unfold bl
  split
  · rename_i h0
    subst h0
    have : 0 < 2 ^ w := Nat.pos_of_ne_zero (by simp)
    omega
  · rename_i h0
    rw [← Nat.log2_lt h0]
    omega
/-- The least width of a number. -/
def wdth (x : Int) : Int := if x < 0 then 0 else max 1 (bl x.toNat)
theorem ac_width (x : Int) (hx : -9223372036854775808 ≤ x ∧ x ≤ 9223372036854775807) : ACalls Tryz.prog 126 [.int .i64 x] [] (.int .i64 (wdth x)) [] := by
  by_cases h0 : x < 0
  · rw [wdth, if_pos h0]
    refine acalls_pure Tryz.func126 rfl rfl rfl ?_
    repeat' first | refine st ?_ | refine run_nil ?_ | refine Jz ?_ | refine Jw ?_ | refine Js ?_ | refine aw_ret ?_ | refine pp_ret ?_
    all_goals first | rfl
  · rw [wdth, if_neg h0]
    have h := ac_len x (by omega)
    refine acalls_pure Tryz.func126 rfl rfl rfl ?_
    repeat' first | refine st ?_ | refine st_call (h) ?_ | refine run_nil ?_ | refine Jz ?_ | refine Jw ?_ | refine Jt ?_ | refine Jy ?_ | refine aw_ret ?_ | refine pp_ret ?_
    all_goals first | rfl
structure Wg where
  x : Int
  n : Int
theorem ac_limit (x : Int) : ACalls Tryz.prog 125 [.int .i64 x] [] (.bool (decide (1 ≤ x ∧ x ≤ 4095))) [] := by
  by_cases h0 : 1 ≤ x ∧ x ≤ 4095
  · rw [decide_eq_true h0]
    refine acalls_pure Tryz.func125 rfl rfl rfl ?_
    repeat' first | refine st ?_ | refine Ja ?_ | refine Jd ?_ | refine run_nil ?_ | refine Jz ?_ | refine Jw ?_ | refine aw_ret ?_ | refine pp_ret ?_
    all_goals first | (simp [retOf]; omega)
  · rw [decide_eq_false h0]
    refine acalls_pure Tryz.func125 rfl rfl rfl ?_
    repeat' first | intro h1 | refine st ?_ | refine Ja ?_ | refine Jb ?_ | refine Jh ?_ ?_ | refine run_nil ?_ | refine Jz ?_ | refine Jw ?_ | refine aw_ret ?_ | refine pp_ret ?_
    all_goals first | rfl | (simp [retOf]; omega)
theorem bitsOf_mod (w : Nat) (x : Int) (hw : w ≤ 64) : bitsOf w (x % 18446744073709551616) = bitsOf w x := by
  induction w with
  | zero => rfl
  | succ w ih =>
    rw [bitsOf, bitsOf, ih (by omega)]
    congr 1
    have h2 : (18446744073709551616 : Int) = 2 ^ w * (2 * 2 ^ (63 - w)) := by
      have : (2 : Int) ^ w * (2 * 2 ^ (63 - w)) = 2 ^ (w + 1 + (63 - w)) := by rw [Int.pow_add, Int.pow_succ, Int.mul_assoc]
      rw [this, show w + 1 + (63 - w) = 64 by omega]
      rfl
    have h3 : (0 : Int) < 2 ^ w := Int.pow_pos (by omega)
    have e := Int.emod_add_mul_ediv x 18446744073709551616
    generalize x / 18446744073709551616 = q at e
    generalize x % 18446744073709551616 = r at e
    rw [← e, h2, Int.mul_assoc, Int.add_mul_ediv_left _ _ (by omega), Int.mul_assoc, Int.add_mul_emod_self_left]
/-- A writer behind a field: its bits, its error. -/
def fieldW (bs : List Int) (e : Int) (right fits : Bool) (w x : Int) : List Int × Int :=
  if e ≠ 0 then (bs, e) else if right = false then (bs, 1) else if fits = false then (bs, 2) else if bs.length + w > 524288 then (bs, 8) else (bs ++ bitsOf w.toNat x, 0)
set_option maxHeartbeats 1000000 in
theorem ac_field (right fits : Bool) (w x e e' : Int) (bs bs' Z Z' : List Int) (n n' : Nat) (k k' : Int) (hZ : pack bs = Z) (hn : n = Z.length) (hk : k = bs.length) (hst : fieldW bs e right fits w x = (bs', e')) (hZ' : pack bs' = Z') (hn' : n' = Z'.length) (hk' : k' = bs'.length)
    (hl : bs.length ≤ 524288) (hw : right = true → 1 ≤ w ∧ w ≤ 63) (hx : -9223372036854775808 ≤ x ∧ x ≤ 9223372036854775807) :
    ACalls Tryz.prog 117 [.pointer (some ⟨0, 0, none⟩), .bool right, .bool fits, .int .i64 w, .int .i64 x] [some ⟨[.slice (some ⟨1, 0, none⟩) n n, .int .i64 k, .int .i64 e], true, 1⟩, some ⟨List.map (Value.int .u8) Z, true, 1⟩] (.tuple #[]) [some ⟨[.slice (some ⟨2, 0, none⟩) n' n', .int .i64 k', .int .i64 e'], true, 1⟩, none, some ⟨List.map (Value.int .u8) Z', true, 1⟩] := by
  unfold fieldW at hst
  by_cases he : e = 0
  · subst he
    rw [if_neg (by simp)] at hst
    cases right
    · rw [if_pos rfl] at hst
      obtain ⟨rfl, rfl⟩ := Prod.mk.inj hst
      rw [hZ] at hZ'; subst hZ' hn hn' hk hk'
      refine acalls_of_aw Tryz.func117 rfl rfl ?_
      repeat' first | refine st ?_ | refine stm ?_ | refine run_nil ?_ | refine Jz ?_ | refine Jw ?_ | refine aw_block ?_ | refine Jq ?_ | refine Jr ?_
      exact pm_normal _ (renumD [0, 1, 1]) rfl
    · rw [if_neg (by simp)] at hst
      have hw := hw rfl
      cases fits
      · rw [if_pos rfl] at hst
        obtain ⟨rfl, rfl⟩ := Prod.mk.inj hst
        rw [hZ] at hZ'; subst hZ' hn hn' hk hk'
        refine acalls_of_aw Tryz.func117 rfl rfl ?_
        repeat' first | refine st ?_ | refine stm ?_ | refine run_nil ?_ | refine Jz ?_ | refine Jw ?_ | refine aw_block ?_ | refine Jq ?_ | refine Jr ?_
        exact pm_normal _ (renumD [0, 1, 1]) rfl
      · rw [if_neg (by simp)] at hst
        by_cases hs : bs.length + w > 524288
        · rw [if_pos hs] at hst
          obtain ⟨rfl, rfl⟩ := Prod.mk.inj hst
          rw [hZ] at hZ'; subst hZ' hn hn' hk hk'
          refine acalls_of_aw Tryz.func117 rfl rfl ?_
          repeat' first | refine st ?_ | refine stm ?_ | refine run_nil ?_ | refine Jz ?_ | refine Jw ?_ | refine aw_block ?_ | refine Jr ?_ | refine Js ?_
          exact pm_normal _ (renumD [0, 1, 1]) rfl
        · rw [if_neg hs] at hst
          obtain ⟨hb, rfl⟩ := Prod.mk.inj hst
          have hwr : IntKind.u64.wrap x = x % 18446744073709551616 := by simp [IntKind.wrap, IntKind.signed, IntKind.bits]
          have hbl := congrArg List.length hb
          rw [List.length_append, bitsOf_len] at hbl
          have HP := ac_put w.toNat (IntKind.u64.wrap x) 0 bs bs' Z Z' n n' k k' (by rw [hwr]; omega) (by omega) hZ hn hk (by rw [hwr, bitsOf_mod _ _ (by omega)]; exact hb) hZ' hn' hk' (by omega)
          rw [show ((w.toNat : Nat) : Int) = w by omega] at HP
          refine acalls_of_aw Tryz.func117 rfl rfl ?_
          repeat' first | refine st ?_ | refine stMW [0, 1] HP ?_ | refine run_nil ?_ | refine Jz ?_ | refine Jw ?_ | refine aw_block ?_ | refine Jr ?_ | refine Jt ?_
          exact pm_normal _ (renumD [0, 1, 2]) rfl
  · rw [if_pos he] at hst
    obtain ⟨rfl, rfl⟩ := Prod.mk.inj hst
    rw [hZ] at hZ'; subst hZ' hn hn' hk hk'
    refine acalls_of_aw Tryz.func117 rfl rfl ?_
    repeat' first | refine st ?_ | refine run_nil ?_ | refine Jz ?_ | refine Jw ?_ | refine aw_block ?_ | refine Js ?_ | refine Jy ?_
    exact pm_normal _ (renumD [0, 1, 1]) rfl
def unsW (bs : List Int) (e w x : Int) : List Int × Int := fieldW bs e (decide (1 ≤ w ∧ w ≤ 63)) (decide (0 ≤ x ∧ x < 2 ^ w.toNat)) w x
def sgnW (bs : List Int) (e w x : Int) : List Int × Int := fieldW bs e (decide (2 ≤ w ∧ w ≤ 63)) (decide (-(2 ^ (w - 1).toNat) ≤ x ∧ x < 2 ^ (w - 1).toNat)) w x
theorem fieldW_congr {bs : List Int} {e w x : Int} {r r' f f' : Bool} (hr : r = r') (hf : r = true → f = f') : fieldW bs e r f w x = fieldW bs e r' f' w x := by
  subst hr
  unfold fieldW
  cases r
  · simp
  · rw [hf rfl]
theorem bl_lt (x w : Int) (hx : 0 ≤ x) (hw : 0 ≤ w) : bl x.toNat ≤ w ↔ x < 2 ^ w.toNat := by
  have h := bl_le x.toNat w.toNat
  rw [show ((w.toNat : Nat) : Int) = w by omega] at h
  rw [h]
  have : ((2 ^ w.toNat : Nat) : Int) = (2 : Int) ^ w.toNat := by push_cast; rfl
  omega
set_option maxHeartbeats 1000000 in
theorem ac_unsigned (w x : Int) (e e' : Int) (bs bs' Z Z' : List Int) (n n' : Nat) (k k' : Int) (hZ : pack bs = Z) (hn : n = Z.length) (hk : k = bs.length) (hst : unsW bs e w x = (bs', e')) (hZ' : pack bs' = Z') (hn' : n' = Z'.length) (hk' : k' = bs'.length) (hl : bs.length ≤ 524288) (hw : -9223372036854775808 ≤ w ∧ w ≤ 9223372036854775807) (hx : -9223372036854775808 ≤ x ∧ x ≤ 9223372036854775807) :
    ACalls Tryz.prog 104 [.pointer (some ⟨0, 0, none⟩), .int .i64 w, .int .i64 x] [some ⟨[.slice (some ⟨1, 0, none⟩) n n, .int .i64 k, .int .i64 e], true, 1⟩, some ⟨List.map (Value.int .u8) Z, true, 1⟩] (.tuple #[]) [some ⟨[.slice (some ⟨2, 0, none⟩) n' n', .int .i64 k', .int .i64 e'], true, 1⟩, none, some ⟨List.map (Value.int .u8) Z', true, 1⟩] := by
  unfold unsW at hst
  by_cases h1 : 1 ≤ w
  · by_cases h2 : w ≤ 63
    · by_cases h3 : 0 ≤ x
      · have HL := ac_len x (by omega)
        have HF := ac_field (decide (w ≤ 63)) (decide (bl x.toNat ≤ w)) w x e e' bs bs' Z Z' n n' k k' hZ hn hk ((fieldW_congr (by simp [h1, h2]) (fun _ => by rw [decide_eq_decide, bl_lt x w h3 (by omega)]; simp [h3])).trans hst) hZ' hn' hk' hl (by simp; omega) hx
        refine acalls_of_aw Tryz.func104 rfl rfl ?_
        repeat' first | refine st ?_ | refine st_call (HL) ?_ | refine stMW [0, 1] HF ?_ | refine Ja ?_ | refine Jd ?_ | refine run_nil ?_ | refine Jz ?_ | refine Jw ?_
        all_goals first | exact pm_normal _ (renumD [0, 1, 2]) rfl
      · have HF := ac_field (decide (w ≤ 63)) false w x e e' bs bs' Z Z' n n' k k' hZ hn hk ((fieldW_congr (by simp [h1, h2]) (fun _ => by simp [h3])).trans hst) hZ' hn' hk' hl (by simp; omega) hx
        refine acalls_of_aw Tryz.func104 rfl rfl ?_
        repeat' first | refine st ?_ | refine stMW [0, 1] HF ?_ | refine Ja ?_ | refine Jb ?_ | refine Jd ?_ | refine Je ?_ | refine run_nil ?_ | refine Jz ?_ | refine Jw ?_
        all_goals first | exact pm_normal _ (renumD [0, 1, 2]) rfl
    · have HF := ac_field (decide (w ≤ 63)) false w x e e' bs bs' Z Z' n n' k k' hZ hn hk ((fieldW_congr (by simp [h2]) (fun h => by simp [h2] at h)).trans hst) hZ' hn' hk' hl (by simp; omega) hx
      refine acalls_of_aw Tryz.func104 rfl rfl ?_
      repeat' first | refine st ?_ | refine stMW [0, 1] HF ?_ | refine Ja ?_ | refine Jb ?_ | refine Jd ?_ | refine Je ?_ | refine run_nil ?_ | refine Jz ?_ | refine Jw ?_
      all_goals first | exact pm_normal _ (renumD [0, 1, 2]) rfl
  · have HF := ac_field false false w x e e' bs bs' Z Z' n n' k k' hZ hn hk ((fieldW_congr (by simp [h1]) (fun h => by simp at h)).trans hst) hZ' hn' hk' hl (by simp) hx
    refine acalls_of_aw Tryz.func104 rfl rfl ?_
    repeat' first | refine st ?_ | refine stMW [0, 1] HF ?_ | refine Jb ?_ | refine Je ?_ | refine run_nil ?_ | refine Jz ?_ | refine Jw ?_
    all_goals first | exact pm_normal _ (renumD [0, 1, 2]) rfl
def b8 (x : Int) : UInt8 := UInt8.ofNat (IntKind.u8.wrap x).toNat
theorem wrap8' (c : Int) : 0 ≤ IntKind.u8.wrap c ∧ IntKind.u8.wrap c ≤ 255 := by
  simp only [IntKind.wrap, IntKind.signed, IntKind.bits]
  constructor
  · simp; omega
  · simp; omega
theorem u8v_b8 (x : Int) : u8v (b8 x) = .int .u8 (IntKind.u8.wrap x) := by
  have h := wrap8' x
  simp only [u8v, b8]
  congr 1
  have : (UInt8.ofNat (IntKind.u8.wrap x).toNat).toNat = (IntKind.u8.wrap x).toNat := by
    rw [UInt8.toNat_ofNat']
    omega
  rw [this]
  omega
theorem pow_bd (w : Int) (h : 2 ≤ w ∧ w ≤ 63) : (1 : Int) ≤ 2 ^ (w - 1).toNat ∧ (2 : Int) ^ (w - 1).toNat ≤ 4611686018427387904 := by
  have h1 : (2 : Nat) ^ (w - 1).toNat ≤ 2 ^ 62 := Nat.pow_le_pow_right (by omega) (by omega)
  have h2 : 0 < (2 : Nat) ^ (w - 1).toNat := Nat.pos_of_ne_zero (by simp)
  have h3 : ((2 ^ (w - 1).toNat : Nat) : Int) = (2 : Int) ^ (w - 1).toNat := by push_cast; rfl
  omega
set_option maxHeartbeats 1000000 in
theorem ac_signed (w x : Int) (e e' : Int) (bs bs' Z Z' : List Int) (n n' : Nat) (k k' : Int) (hZ : pack bs = Z) (hn : n = Z.length) (hk : k = bs.length) (hst : sgnW bs e w x = (bs', e')) (hZ' : pack bs' = Z') (hn' : n' = Z'.length) (hk' : k' = bs'.length) (hl : bs.length ≤ 524288) (hw : -9223372036854775808 ≤ w ∧ w ≤ 9223372036854775807) (hx : -9223372036854775808 ≤ x ∧ x ≤ 9223372036854775807) :
    ACalls Tryz.prog 102 [.pointer (some ⟨0, 0, none⟩), .int .i64 w, .int .i64 x] [some ⟨[.slice (some ⟨1, 0, none⟩) n n, .int .i64 k, .int .i64 e], true, 1⟩, some ⟨List.map (Value.int .u8) Z, true, 1⟩] (.tuple #[]) [some ⟨[.slice (some ⟨2, 0, none⟩) n' n', .int .i64 k', .int .i64 e'], true, 1⟩, none, some ⟨List.map (Value.int .u8) Z', true, 1⟩] := by
  unfold sgnW at hst
  by_cases h1 : 2 ≤ w
  · by_cases h2 : w ≤ 63
    · obtain ⟨p1, p2⟩ := pow_bd w ⟨h1, h2⟩
      have em : min (max w 1 - 1).toNat IntKind.i64.bits = (w - 1).toNat := by show min (max w 1 - 1).toNat 64 = _; omega
      obtain ⟨p, hp⟩ : ∃ p, (2 : Int) ^ (w - 1).toNat = p := ⟨_, rfl⟩
      rw [hp] at hst p1 p2
      have hL : IntKind.i64.wrap (-1 * 2 ^ (min (max w 1 - 1).toNat IntKind.i64.bits)) = -p := by rw [em, hp]; exact (wrap64 (by omega)).trans (by omega)
      have hU : IntKind.i64.wrap (1 * 2 ^ (min (max w 1 - 1).toNat IntKind.i64.bits)) = p := by rw [em, hp]; exact (wrap64 (by omega)).trans (by omega)
      by_cases h3 : -p ≤ x
      · have HF := ac_field (decide (w ≤ 63)) (decide (x ≤ IntKind.i64.wrap (1 * 2 ^ (min (max w 1 - 1).toNat IntKind.i64.bits)) - 1)) w x e e' bs bs' Z Z' n n' k k' hZ hn hk ((fieldW_congr (by simp [h1, h2]) (fun _ => by rw [hU, decide_eq_decide]; constructor <;> (intro; omega))).trans hst) hZ' hn' hk' hl (by simp; omega) hx
        refine acalls_of_aw Tryz.func102 rfl rfl ?_
        repeat' first | refine st ?_ | refine stMW [0, 1] HF ?_ | refine Ja ?_ | refine Jd ?_ | refine run_nil ?_ | refine Jz ?_ | refine Jw ?_
        all_goals first | exact pm_normal _ (renumD [0, 1, 2]) rfl
      · have HF := ac_field (decide (w ≤ 63)) false w x e e' bs bs' Z Z' n n' k k' hZ hn hk ((fieldW_congr (by simp [h1, h2]) (fun _ => by simp [h3])).trans hst) hZ' hn' hk' hl (by simp; omega) hx
        refine acalls_of_aw Tryz.func102 rfl rfl ?_
        repeat' first | refine st ?_ | refine stMW [0, 1] HF ?_ | refine Ja ?_ | refine Jb ?_ | refine Jd ?_ | refine Je ?_ | refine run_nil ?_ | refine Jz ?_ | refine Jw ?_
        all_goals first | exact pm_normal _ (renumD [0, 1, 2]) rfl
    · have HF := ac_field (decide (w ≤ 63)) false w x e e' bs bs' Z Z' n n' k k' hZ hn hk ((fieldW_congr (by simp [h2]) (fun h => by simp [h2] at h)).trans hst) hZ' hn' hk' hl (by simp; omega) hx
      refine acalls_of_aw Tryz.func102 rfl rfl ?_
      repeat' first | refine st ?_ | refine stMW [0, 1] HF ?_ | refine Ja ?_ | refine Jb ?_ | refine Jd ?_ | refine Je ?_ | refine run_nil ?_ | refine Jz ?_ | refine Jw ?_
      all_goals first | exact pm_normal _ (renumD [0, 1, 2]) rfl
  · have HF := ac_field false false w x e e' bs bs' Z Z' n n' k k' hZ hn hk ((fieldW_congr (by simp [h1]) (fun h => by simp at h)).trans hst) hZ' hn' hk' hl (by simp) hx
    refine acalls_of_aw Tryz.func102 rfl rfl ?_
    repeat' first | refine st ?_ | refine stMW [0, 1] HF ?_ | refine Jb ?_ | refine Je ?_ | refine run_nil ?_ | refine Jz ?_ | refine Jw ?_
    all_goals first | exact pm_normal _ (renumD [0, 1, 2]) rfl
def flgW (bs : List Int) (e : Int) (b : Bool) : List Int × Int := fieldW bs e true true 1 (if b then 1 else 0)
theorem ac_flag (v : Bool) (e e' : Int) (bs bs' Z Z' : List Int) (n n' : Nat) (k k' : Int) (hZ : pack bs = Z) (hn : n = Z.length) (hk : k = bs.length) (hst : flgW bs e v = (bs', e')) (hZ' : pack bs' = Z') (hn' : n' = Z'.length) (hk' : k' = bs'.length) (hl : bs.length ≤ 524288) :
    ACalls Tryz.prog 106 [.pointer (some ⟨0, 0, none⟩), .bool v] [some ⟨[.slice (some ⟨1, 0, none⟩) n n, .int .i64 k, .int .i64 e], true, 1⟩, some ⟨List.map (Value.int .u8) Z, true, 1⟩] (.tuple #[]) [some ⟨[.slice (some ⟨2, 0, none⟩) n' n', .int .i64 k', .int .i64 e'], true, 1⟩, none, some ⟨List.map (Value.int .u8) Z', true, 1⟩] := by
  unfold flgW at hst
  have HF := ac_field true true 1 (if v then 1 else 0) e e' bs bs' Z Z' n n' k k' hZ hn hk hst hZ' hn' hk' hl (by simp) (by cases v <;> decide)
  cases v
  · refine acalls_of_aw Tryz.func106 rfl rfl ?_
    repeat' first | refine st ?_ | refine stMW [0, 1] HF ?_ | refine run_nil ?_ | refine Jz ?_ | refine Jw ?_ | refine Jr ?_ | refine Jy ?_
    exact pm_normal _ (renumD [0, 1, 2]) rfl
  · refine acalls_of_aw Tryz.func106 rfl rfl ?_
    repeat' first | refine st ?_ | refine stMW [0, 1] HF ?_ | refine run_nil ?_ | refine Jz ?_ | refine Jw ?_ | refine Jq ?_
    exact pm_normal _ (renumD [0, 1, 2]) rfl
theorem ac_newW : ACalls Tryz.prog 55 [] [] (.pointer (some ⟨0, 0, none⟩)) [some ⟨[.slice (some ⟨1, 0, none⟩) 0 0, .int .i64 0, .int .i64 0], true, 1⟩, some ⟨List.map (Value.int .u8) [], true, 1⟩] := by
  refine acalls_of_aw Tryz.func55 rfl rfl ?_
  refine aw_ghost 1 rfl ?_
  repeat' first | refine st ?_ | refine stm ?_ | refine run_nil ?_ | refine Jz ?_ | refine Jw ?_ | refine aw_ret ?_
  exact pm_ret _ (renumD [1, 0]) rfl
theorem pkN_rng (bs : List Int) : ∀ k, ∀ z ∈ pkN bs k, 0 ≤ z ∧ z ≤ 255
  | 0, z, h => by simp [pkN] at h
  | k + 1, z, h => by
    have ih := pkN_rng bs k
    rw [pkN, pkS] at h
    rcases List.mem_or_eq_of_mem_set h with h | h
    · split at h
      · rcases List.mem_append.1 h with h | h
        · exact ih z h
        · simp at h; omega
      · exact ih z h
    · rw [h]
      exact wrap8' _
theorem bytes_u8 (Z : List Int) (h : ∀ z ∈ Z, 0 ≤ z ∧ z ≤ 255) : Z.map (Value.int .u8) = (Z.map b8).map u8v := by
  rw [List.map_map]
  apply List.map_congr_left
  intro z hz
  have := h z hz
  show Value.int .u8 z = u8v (b8 z)
  rw [u8v_b8, wrap_id (by simp [IntKind.min, IntKind.signed]; omega) (by simp [IntKind.max, IntKind.signed, IntKind.bits]; omega)]
theorem ac_bytesE (n : Nat) (k e : Int) (Z : List Int) (he : e ≠ 0) : ACalls Tryz.prog 57 [.pointer (some ⟨0, 0, none⟩)] [some ⟨[.slice (some ⟨1, 0, none⟩) n n, .int .i64 k, .int .i64 e], false, 1⟩, some ⟨List.map (Value.int .u8) Z, false, 1⟩] (.tuple #[.string ⟨#[]⟩, .int .i64 e]) [none, none] := by
  refine acalls_law Tryz.func57 rfl rfl rfl ?_
  repeat' first | refine st ?_ | refine run_nil ?_ | refine sd ?_ | refine sdl ?_ | refine rund_nil ?_ | refine Jz ?_ | refine Jw ?_ | refine J0 (id := 2) [0,1,3,7,0,31] 6 ?_ | refine Js ?_ | refine aw_ret ?_ | refine pp_ret ?_
  all_goals first | rfl
theorem ac_bytes (n : Nat) (k : Int) (bs Z : List Int) (hZ : pack bs = Z) (hn : n = Z.length) : ACalls Tryz.prog 57 [.pointer (some ⟨0, 0, none⟩)] [some ⟨[.slice (some ⟨1, 0, none⟩) n n, .int .i64 k, .int .i64 0], false, 1⟩, some ⟨List.map (Value.int .u8) Z, false, 1⟩] (.tuple #[.string ⟨(Z.map b8).toArray⟩, .int .i64 0]) [none, none] := by
  have hb := bytes_u8 Z (hZ ▸ pkN_rng bs bs.length)
  refine acalls_law Tryz.func57 rfl rfl rfl ?_
  repeat' first | refine st (h := ok_bytes_str (l := Z.map b8) rfl rfl (by simp; omega) ((take_full (by simp; omega)).trans hb)) ?_ | refine st ?_ | refine run_nil ?_ | refine Jz ?_ | refine Jw ?_ | refine Jr ?_ | refine Jy ?_ | refine aw_ret ?_ | refine pp_ret ?_
  all_goals first | rfl
def strBits (s : ByteArray) : Nat → List Int
  | 0 => []
  | i + 1 => strBits s i ++ bitsOf 8 (byteAt s i).toNat
theorem strBits_len (s i) : (strBits s i).length = 8 * i := by induction i with
  | zero => rfl
  | succ i ih => rw [strBits, List.length_append, ih, bitsOf_len]; omega
def txtW (bs : List Int) (e m : Int) (s : ByteArray) : List Int × Int :=
  if e ≠ 0 then (bs, e) else if ¬ (1 ≤ m ∧ m ≤ 4095) then (bs, 1) else if m < s.size ∨ bs.length + wdth m + 8 * s.size > 524288 then (bs, 8) else (bs ++ bitsOf (wdth m).toNat s.size ++ strBits s s.size, 0)
theorem wdth_bd (m : Int) (h : 0 ≤ m ∧ m ≤ 9223372036854775807) : 1 ≤ wdth m ∧ wdth m ≤ 63 := by
  have := bl_bd m.toNat (by omega)
  unfold wdth
  rw [if_neg (by omega)]
  omega
structure Tg where
  i : Nat
  bs : List Int
  Z : List Int
  n : Nat
  k : Int
set_option maxHeartbeats 2000000 in
theorem ac_text (m : Int) (s : ByteArray) (e e' : Int) (bs bs' Z Z' : List Int) (n n' : Nat) (k k' : Int) (hZ : pack bs = Z) (hn : n = Z.length) (hk : k = bs.length) (hst : txtW bs e m s = (bs', e')) (hZ' : pack bs' = Z') (hn' : n' = Z'.length) (hk' : k' = bs'.length) (hl : bs.length ≤ 524288) (hm : -9223372036854775808 ≤ m ∧ m ≤ 9223372036854775807) (hs : s.size ≤ 1000000) :
    ACalls Tryz.prog 115 [.pointer (some ⟨0, 0, none⟩), .int .i64 m, .string s] [some ⟨[.slice (some ⟨1, 0, none⟩) n n, .int .i64 k, .int .i64 e], true, 1⟩, some ⟨List.map (Value.int .u8) Z, true, 1⟩] (.tuple #[]) [some ⟨[.slice (some ⟨2, 0, none⟩) n' n', .int .i64 k', .int .i64 e'], true, 1⟩, none, some ⟨List.map (Value.int .u8) Z', true, 1⟩] := by
  unfold txtW at hst
  have HLm := ac_limit m
  by_cases he : e = 0
  · subst he
    rw [if_neg (by simp)] at hst
    by_cases hr : 1 ≤ m ∧ m ≤ 4095
    · rw [if_neg (by simpa using hr)] at hst
      rw [decide_eq_true hr] at HLm
      have HW := ac_width m hm
      have hwb := wdth_bd m (by omega)
      by_cases hf : m < s.size ∨ bs.length + wdth m + 8 * s.size > 524288
      · rw [if_pos hf] at hst
        obtain ⟨rfl, rfl⟩ := Prod.mk.inj hst
        rw [hZ] at hZ'; subst hZ' hn hn' hk hk'
        refine acalls_of_aw Tryz.func115 rfl rfl ?_
        repeat' first | intro h1 | refine st ?_ | refine st_call (HLm) ?_ | refine stm ?_ | refine run_nil ?_ | refine sd ?_ | refine sdl ?_ | refine sd_call (HW) ?_ | refine Jk ?_ | refine Jl ?_ | refine Jo ?_ ?_ | refine rund_nil ?_ | refine Jz ?_ | refine Jw ?_ | refine J0 (id := 9) [0,1,0,7,15,31,63,127,255,31,543,2047,31,4127,12319,32767,65535,131071,262143] 19 ?_ | refine aw_block ?_ | refine Jq ?_ | refine Jr ?_ | refine Js ?_
        all_goals first | exact pm_normal _ (renumD [0, 1, 1]) rfl
      · rw [if_neg hf] at hst
        obtain ⟨hb, rfl⟩ := Prod.mk.inj hst
        obtain ⟨bs1, hb1⟩ : ∃ bs1, bs ++ bitsOf (wdth m).toNat (s.size : Int) = bs1 := ⟨_, rfl⟩
        obtain ⟨Z1, hZ1⟩ : ∃ Z1, pack bs1 = Z1 := ⟨_, rfl⟩
        have hl1 := congrArg List.length hb1
        rw [List.length_append, bitsOf_len] at hl1
        have HP := ac_put (wdth m).toNat (s.size : Int) 0 bs bs1 Z Z1 n Z1.length k bs1.length (by omega) (by omega) hZ hn hk hb1 hZ1 rfl rfl (by omega)
        rw [show (((wdth m).toNat : Nat) : Int) = wdth m by omega] at HP
        rw [hb1] at hb
        have hl2 := congrArg List.length hb
        rw [List.length_append, strBits_len] at hl2
        refine acalls_of_aw Tryz.func115 rfl rfl ?_
        repeat' first | intro h1 | refine st ?_ | refine st_call (HLm) ?_ | refine st_call (HW) ?_ | refine stMW [0, 1] HP ?_ | refine stm ?_ | refine run_nil ?_ | refine sd ?_ | refine sdl ?_ | refine sd_call (HW) ?_ | refine Jk ?_ | refine Jl ?_ | refine Jo ?_ ?_ | refine rund_nil ?_ | refine Jz ?_ | refine Jw ?_ | refine J0 (id := 9) [0,1,0,7,15,31,63,127,255,31,543,2047,31,4127,12319,32767,65535,131071,262143] 19 ?_ | refine aw_block ?_ | refine Jq ?_ | refine Jr ?_ | refine Jt ?_
        refine aw_loopg
          (S := fun y : Tg => [(0, .pointer (some ⟨0, 0, none⟩)), (2, .string s), (15, .int .i64 s.size), (16, .int .i64 y.i)])
          (B := fun y : Tg => [some ⟨[.slice (some ⟨2, 0, none⟩) y.n y.n, .int .i64 y.k, .int .i64 0], true, 1⟩, none, some ⟨List.map (Value.int .u8) y.Z, true, 1⟩])
          (R := fun y : Tg => y.i ≤ s.size ∧ y.bs = bs1 ++ strBits s y.i ∧ pack y.bs = y.Z ∧ y.n = y.Z.length ∧ y.k = y.bs.length)
          (μ := fun y : Tg => s.size - y.i) ⟨0, bs1, Z1, Z1.length, bs1.length⟩ (fitsD [0, 1, 2]) ⟨Nat.zero_le _, by simp [strBits], hZ1, rfl, rfl⟩ ?_
        clear HP hZ hn hk
        rintro ⟨i, bs2, Z2, n2, k2⟩ ⟨g1, g2, g3, g4, g5⟩
        dsimp only at *
        have hl3 := congrArg List.length g2
        rw [List.length_append, strBits_len] at hl3
        by_cases hi : i < s.size
        · obtain ⟨c, hc⟩ : ∃ c, byteAt s i = c := ⟨_, rfl⟩
          have hcl := c.toNat_lt
          obtain ⟨bs3, hb3⟩ : ∃ bs3, bs2 ++ bitsOf 8 (c.toNat : Int) = bs3 := ⟨_, rfl⟩
          obtain ⟨Z3, hZ3⟩ : ∃ Z3, pack bs3 = Z3 := ⟨_, rfl⟩
          have hl4 := congrArg List.length hb3
          rw [List.length_append, bitsOf_len] at hl4
          have HQ := ac_put 8 (c.toNat : Int) 0 bs2 bs3 Z2 Z3 n2 Z3.length k2 bs3.length (by omega) (by omega) g3 g4 g5 hb3 hZ3 rfl rfl (by omega)
          rw [← hc] at HQ
          repeat' first | refine st (h := ok_conv_u8 rfl (by decide)) ?_ | refine st ?_ | refine stMW [0, 2] HQ ?_ | refine run_nil ?_ | refine Jz ?_ | refine Jw ?_ | refine aw_block ?_ | refine Js ?_ | refine Jy ?_
          refine Exists.intro ⟨i + 1, bs3, Z3, Z3.length, bs3.length⟩ ⟨fitsD [0, 1, 3], ⟨hi, by dsimp only; rw [strBits, ← List.append_assoc, ← g2, hc, hb3], hZ3, rfl, rfl⟩, by dsimp only; omega⟩
        · obtain rfl : i = s.size := by omega
          repeat' first | refine st ?_ | refine run_nil ?_ | refine Jz ?_ | refine Jw ?_ | refine Jt ?_ | refine aw_exit ?_
          have hbb : bs2 = bs' := by rw [g2]; exact hb
          subst hbb
          rw [g3] at hZ'
          subst hZ' g4 hn' g5 hk'
          exact pm_normal _ (renumD [0, 1, 2]) rfl
        exfalso
        omega
    · rw [if_pos (by simpa using hr)] at hst
      rw [decide_eq_false hr] at HLm
      obtain ⟨rfl, rfl⟩ := Prod.mk.inj hst
      rw [hZ] at hZ'; subst hZ' hn hn' hk hk'
      refine acalls_of_aw Tryz.func115 rfl rfl ?_
      repeat' first | refine st ?_ | refine st_call (HLm) ?_ | refine stm ?_ | refine run_nil ?_ | refine Jz ?_ | refine Jw ?_ | refine aw_block ?_ | refine Jq ?_ | refine Jr ?_
      exact pm_normal _ (renumD [0, 1, 1]) rfl
  · rw [if_pos he] at hst
    obtain ⟨rfl, rfl⟩ := Prod.mk.inj hst
    rw [hZ] at hZ'; subst hZ' hn hn' hk hk'
    refine acalls_of_aw Tryz.func115 rfl rfl ?_
    repeat' first | refine st ?_ | refine run_nil ?_ | refine Jz ?_ | refine Jw ?_ | refine aw_block ?_ | refine Js ?_ | refine Jy ?_
    exact pm_normal _ (renumD [0, 1, 1]) rfl
end Go.Proofs.YtdenooeaiicheaaGreat
