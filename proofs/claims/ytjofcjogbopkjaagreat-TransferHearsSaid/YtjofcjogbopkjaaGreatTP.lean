/- Bits of numbers. slices.Clone of strings. Transfer: the plain model. -/
import Derived.Test.YtjofcjogbopkjaaGreatVL
import Derived.Test.YtjofcjogbopkjaaGreatVI
import Derived.WalkKit
import Derived.BigCall
import Derived.IntWalk
import Derived.Test.YtjofcjogbopkjaaGreatVK
import Derived.Test.YtjofcjogbopkjaaGreatJ
import Derived.Test.YtjofcjogbopkjaaGreatS8
import Derived.Test.YtjofcjogbopkjaaGreatT1
import Derived.Test.YtjofcjogbopkjaaGreatT4
set_option linter.unusedVariables false
set_option linter.unusedSimpArgs false
namespace Go.Proofs.YtjofcjogbopkjaaGreat
open Go Av
set_option maxRecDepth 20000
theorem ofn (x : Nat) (h : x < 18446744073709551616) : (BitVec.ofInt 64 (x : Int)).toNat = x := by rw [BitVec.toNat_ofInt]; omega
theorem wrapU (x : Nat) (h : x < 18446744073709551616) : IntKind.u64.wrap (x : Int) = x := by
  simp only [IntKind.wrap, IntKind.signed, IntKind.bits]
  simp
  omega
theorem and_u (a b : Nat) (ha : a < 18446744073709551616) (hb : b < 18446744073709551616) : bitv .and .u64 (a : Int) (b : Int) = ((a &&& b : Nat) : Int) := by
  show IntKind.u64.wrap ((BitVec.ofInt 64 (a : Int) &&& BitVec.ofInt 64 (b : Int)).toNat : Int) = _
  rw [BitVec.toNat_and, ofn a ha, ofn b hb, wrapU]
  exact Nat.lt_of_le_of_lt Nat.and_le_left ha
theorem or_u (a b : Nat) (ha : a < 18446744073709551616) (hb : b < 18446744073709551616) : bitv .or .u64 (a : Int) (b : Int) = ((a ||| b : Nat) : Int) := by
  show IntKind.u64.wrap ((BitVec.ofInt 64 (a : Int) ||| BitVec.ofInt 64 (b : Int)).toNat : Int) = _
  have h : a ||| b < 2 ^ 64 := Nat.or_lt_two_pow ha hb
  rw [BitVec.toNat_or, ofn a ha, ofn b hb, wrapU _ h]
theorem andNot_u (a b : Nat) (ha : a < 18446744073709551616) (hb : b < 18446744073709551616) : bitv .andNot .u64 (a : Int) (b : Int) = ((a &&& (2 ^ 64 - (b + 1)) : Nat) : Int) := by
  show IntKind.u64.wrap ((BitVec.ofInt 64 (a : Int) &&& ~~~ BitVec.ofInt 64 (b : Int)).toNat : Int) = _
  rw [BitVec.toNat_and, BitVec.toNat_not, ofn a ha, ofn b hb, show 2 ^ 64 - 1 - b = 2 ^ 64 - (b + 1) by omega, wrapU]
  exact Nat.lt_of_le_of_lt Nat.and_le_left ha
/-- One bit of a number. -/
theorem bit_and (B i : Nat) (hB : B < 18446744073709551616) (hi : i < 64) : bitv .and .u64 ((B : Int) / 2 ^ (min ((i : Int)).toNat IntKind.u64.bits)) 1 = if B.testBit i then 1 else 0 := by
  have e : (B : Int) / 2 ^ (min ((i : Int)).toNat IntKind.u64.bits) = ((B / 2 ^ i : Nat) : Int) := by
    have : min ((i : Int)).toNat IntKind.u64.bits = i := by simp only [IntKind.bits]; omega
    rw [this]; simp
  rw [e]
  have h1 := and_u (B / 2 ^ i) 1 (Nat.lt_of_le_of_lt (Nat.div_le_self _ _) hB) (by decide)
  have h2 : B.testBit i = decide (B / 2 ^ i % 2 = 1) := by rw [Nat.testBit_eq_decide_div_mod_eq]
  rw [show ((1 : Nat) : Int) = 1 from rfl] at h1
  rw [h1, h2, Nat.and_one_is_mod]
  rcases Nat.mod_two_eq_zero_or_one (B / 2 ^ i) with h | h <;> rw [h] <;> rfl
theorem shl_one (i : Nat) (hi : i < 64) : IntKind.u64.wrap (1 * 2 ^ (min ((i : Int)).toNat IntKind.u64.bits)) = ((2 ^ i : Nat) : Int) := by
  have e : min ((i : Int)).toNat IntKind.u64.bits = i := by simp only [IntKind.bits]; omega
  rw [e, Int.one_mul]
  have h : 2 ^ i < 2 ^ 64 := Nat.pow_lt_pow_right (by decide) hi
  have h2 := wrapU (2 ^ i) h
  rw [← h2]
  simp
theorem full_u (n : Nat) (hn : n ≤ 64) : (18446744073709551615 : Int) / 2 ^ (min ((64 - (n : Int))).toNat IntKind.u64.bits) = ((2 ^ n - 1 : Nat) : Int) := by
  have e : min ((64 - (n : Int))).toNat IntKind.u64.bits = 64 - n := by simp only [IntKind.bits]; omega
  rw [e]
  have h : ∀ n : Fin 65, (18446744073709551615 : Int) / 2 ^ (64 - n.val) = ((2 ^ n.val - 1 : Nat) : Int) := by decide
  exact h ⟨n, by omega⟩
theorem pow_le64 (n : Nat) (hn : n ≤ 64) : 2 ^ n ≤ 18446744073709551616 := Nat.pow_le_pow_right (n := 2) (by decide) hn
theorem andNot_full (B k : Nat) (hB : B < 18446744073709551616) (hk : k ≤ 64) : bitv .andNot .u64 (B : Int) ((2 ^ k - 1 : Nat) : Int) = 0 ↔ B < 2 ^ k := by
  have hp := pow_le64 k hk
  have h0 : 0 < 2 ^ k := Nat.pow_pos (by decide)
  rw [andNot_u B _ hB (by omega)]
  have hx : 2 ^ k - 1 < 2 ^ 64 := by omega
  constructor
  · intro h
    have h' : B &&& (2 ^ 64 - (2 ^ k - 1 + 1)) = 0 := by omega
    apply Nat.lt_pow_two_of_testBit
    intro i hi
    have := congrArg (fun x => x.testBit i) h'
    simp only [Nat.testBit_and, Nat.zero_testBit, Nat.testBit_two_pow_sub_succ hx, Nat.testBit_two_pow_sub_one] at this
    cases hb : B.testBit i with
    | false => rfl
    | true =>
      have hi64 : i < 64 := by
        rcases Nat.lt_or_ge i 64 with h | h
        · exact h
        · rw [Nat.testBit_lt_two_pow (Nat.lt_of_lt_of_le hB (Nat.pow_le_pow_right (n := 2) (by decide) h))] at hb
          exact absurd hb (by decide)
      rw [hb, decide_eq_true hi64, decide_eq_false (by omega)] at this
      exact absurd this (by decide)
  · intro h
    have : B &&& (2 ^ 64 - (2 ^ k - 1 + 1)) = 0 := by
      apply Nat.eq_of_testBit_eq
      intro i
      simp only [Nat.testBit_and, Nat.zero_testBit, Nat.testBit_two_pow_sub_succ hx, Nat.testBit_two_pow_sub_one]
      rcases Nat.lt_or_ge i k with hi | hi
      · rw [decide_eq_true hi]; simp
      · rw [Nat.testBit_lt_two_pow (Nat.lt_of_lt_of_le h (Nat.pow_le_pow_right (n := 2) (by decide) hi))]; rfl
    omega
theorem full_andNot (B k : Nat) (hk : k ≤ 64) (hB : B < 2 ^ k) : bitv .andNot .u64 ((2 ^ k - 1 : Nat) : Int) (B : Int) = ((2 ^ k - 1 - B : Nat) : Int) := by
  have hp := pow_le64 k hk
  rw [andNot_u _ B (by omega) (by omega)]
  have : (2 ^ k - 1) &&& (2 ^ 64 - (B + 1)) = 2 ^ k - 1 - B := by
    apply Nat.eq_of_testBit_eq
    intro i
    rw [show 2 ^ k - 1 - B = 2 ^ k - (B + 1) by omega, Nat.testBit_and, Nat.testBit_two_pow_sub_succ (show B < 2 ^ 64 by omega), Nat.testBit_two_pow_sub_succ hB, Nat.testBit_two_pow_sub_one]
    rcases Nat.lt_or_ge i k with hi | hi
    · rw [decide_eq_true hi, decide_eq_true (show i < 64 by omega)]; simp
    · rw [decide_eq_false (show ¬ i < k by omega)]; simp
  rw [this]
theorem or_lt {B i k : Nat} (hB : B < 2 ^ k) (hi : i < k) : B ||| 2 ^ i < 2 ^ k := Nat.or_lt_two_pow hB (Nat.pow_lt_pow_right (by decide) hi)
/-- All bits are set. -/
theorem all_bits {B k : Nat} (hB : B < 2 ^ k) : B = 2 ^ k - 1 ↔ ∀ i : Nat, i < k → B.testBit i = true := by
  constructor
  · rintro h i hi
    rw [h, Nat.testBit_two_pow_sub_one]
    exact decide_eq_true hi
  · intro h
    apply Nat.eq_of_testBit_eq
    intro i
    rw [Nat.testBit_two_pow_sub_one]
    rcases Nat.lt_or_ge i k with hi | hi
    · rw [h i hi, decide_eq_true hi]
    · rw [Nat.testBit_lt_two_pow (Nat.lt_of_lt_of_le hB (Nat.pow_le_pow_right (n := 2) (by decide) hi)), decide_eq_false (by omega)]
theorem mod_step (B i : Nat) : B % 2 ^ (i + 1) = B % 2 ^ i + (if B.testBit i then 2 ^ i else 0) := by
  rw [Nat.pow_succ, Nat.mod_mul, Nat.testBit_eq_decide_div_mod_eq]
  rcases Nat.mod_two_eq_zero_or_one (B / 2 ^ i) with h | h <;> rw [h] <;> simp
/-- The bits that are not set, one after the other. -/
theorem lack_step (B i : Nat) (h : B.testBit i = false) : (2 ^ i - 1 - B % 2 ^ i) ||| 2 ^ i = 2 ^ (i + 1) - 1 - B % 2 ^ (i + 1) := by
  have h0 : 0 < 2 ^ i := Nat.pow_pos (by decide)
  have hm := Nat.mod_lt B h0
  rw [mod_step, h, if_neg (by decide), Nat.or_comm]
  have := Nat.two_pow_add_eq_or_of_lt (i := i) (b := 2 ^ i - 1 - B % 2 ^ i) (by omega) 1
  rw [Nat.mul_one] at this
  rw [← this, Nat.pow_succ]
  omega
theorem lack_keep (B i : Nat) (h : B.testBit i = true) : 2 ^ i - 1 - B % 2 ^ i = 2 ^ (i + 1) - 1 - B % 2 ^ (i + 1) := by
  have h0 : 0 < 2 ^ i := Nat.pow_pos (by decide)
  have hm := Nat.mod_lt B h0
  rw [mod_step, h, if_pos rfl, Nat.pow_succ]
  omega
theorem ok_str_eqlD {P : Program} {ρ : Operand → Option Value} {m : Mem} {d : Option Tmp} {t : TypeId} {pp : String} {af : Array Edge} {g : Option (Nat × Bool)} {xt yt : TypeId} {x y : Operand} {a b : ByteArray} {c : Bool} (hx : ρ x = some (.string a)) (hy : ρ y = some (.string b)) (h : decide (a = b) = c) : OpOK P ⟨d, .binOp .eql xt x y yt, t, pp, af, g⟩ ρ m (.bool c) m := by
  subst h
  exact ok_str_eql hx hy
theorem ok_str_neqD {P : Program} {ρ : Operand → Option Value} {m : Mem} {d : Option Tmp} {t : TypeId} {pp : String} {af : Array Edge} {g : Option (Nat × Bool)} {xt yt : TypeId} {x y : Operand} {a b : ByteArray} {c : Bool} (hx : ρ x = some (.string a)) (hy : ρ y = some (.string b)) (h : decide (a = b) = c) : OpOK P ⟨d, .binOp .neq xt x y yt, t, pp, af, g⟩ ρ m (.bool (!c)) m := by
  subst h
  have := ok_str_neq (P := P) (m := m) (d := d) (t := t) (pp := pp) (af := af) (g := g) (xt := xt) (yt := yt) hx hy
  have e : (!decide (a = b)) = decide (a ≠ b) := by by_cases h : a = b <;> simp [h]
  rw [e]
  exact this
end Go.Proofs.YtjofcjogbopkjaaGreat
namespace Go.Proofs.YtjofcjogbopkjaaGreat
open Go Av
set_option maxRecDepth 20000
theorem run_equalIn_slc {P : Program} (w : World) (d : Nat) (t e : TypeId) (a : Addr) (n c : Nat) (h : P.underlying t = some (.slice e)) : (Op.equalIn (d + 1) t (.slice (some a) n c) (.slice none 0 0)).run P w = .ok false w := by
  simp only [Op.equalIn, Sem.run_bind, run_und h, Result.andThen_ok, Sem.run_pure]
theorem run_equalIn_nil {P : Program} (w : World) (d : Nat) (t e : TypeId) (h : P.underlying t = some (.slice e)) : (Op.equalIn (d + 1) t (.slice none 0 0) (.slice none 0 0)).run P w = .ok true w := by
  simp only [Op.equalIn, Sem.run_bind, run_und h, Result.andThen_ok, Sem.run_pure]
  rfl
open Go.RowKit in
theorem clone0_any (ad : Option Addr) (cap : Nat) (w : World) (hc : ad = none → cap = 0) : Calls Tryz.prog 26 #[.slice ad 0 cap] w fun e w' => (e = .returned (.slice none 0 0) ∨ ∃ b, e = .returned (.slice (some ⟨b, 0, none⟩) 0 0)) ∧ RowKit.Below w.heap.size w w' := by
  cases ad with
  | none =>
    obtain rfl := hc rfl
    have q : (binOp .eql 22 (.slice none 0 0) (.slice none 0 0)).run Tryz.prog w = .ok (.bool true) w := by
      have hr : (Op.equalIn 10000 22 (.slice none 0 0) (.slice none 0 0)).run Tryz.prog w = .ok true w := run_equalIn_nil (P := Tryz.prog) w 9999 22 _ (Ty.eq (P := Tryz.prog) (t := 22))
      simp only [binOp, Op.equal, Op.maxDepth]
      simp [hr]
    go_enter Tryz.func26, Tryz.ntmps26
    go_wp2
    go_ret
    exact ⟨.inl rfl, RowKit.Below.refl _ _⟩
  | some a =>
    have q : (binOp .eql 22 (.slice (some a) 0 cap) (.slice none 0 0)).run Tryz.prog w = .ok (.bool false) w := by
      have hr : (Op.equalIn 10000 22 (.slice (some a) 0 cap) (.slice none 0 0)).run Tryz.prog w = .ok false w := run_equalIn_slc (P := Tryz.prog) w 9999 22 _ a 0 cap (Ty.eq (P := Tryz.prog) (t := 22))
      simp only [binOp, Op.equal, Op.maxDepth]
      simp [hr]
    go_enter Tryz.func26, Tryz.ntmps26
    go_wp2
    go_ret
    exact ⟨.inr ⟨_, rfl⟩, (RowKit.Below.refl _ w).alloc (Nat.le_refl _) _⟩
/-- A slice that is not empty, against nil. -/
theorem ok_slc_eql {P : Program} {ρ : Operand → Option Value} {m : Mem} {d : Option Tmp} {t : TypeId} {pp : String} {af : Array Edge} {g : Option (Nat × Bool)} {xt yt e : TypeId} {x y : Operand} {id o n c : Nat} [Ty P xt (.slice e)] (hx : ρ x = some (.slice (some ⟨id, o, none⟩) n c)) (hy : ρ y = some (.slice none 0 0)) (hn : n ≠ 0) : OpOK P ⟨d, .binOp .eql xt x y yt, t, pp, af, g⟩ ρ m (.bool false) m := .val fun _ _ μ A w _ _ ho => by
  have h1 := ho x _ (by simp [Op.operands]) hx
  have h2 := ho y _ (by simp [Op.operands]) hy
  generalize hX : A.eval x = X at h1
  generalize hY : A.eval y = Y at h2
  cases h2
  cases h1 with
  | slcNil => exact absurd rfl hn
  | slc =>
    have hr := fun a n c => run_equalIn_slc w 9999 xt e a n c (Ty.eq (P := P) (t := xt))
    refine ⟨_, ?_, .bool _⟩
    simp only [execOp, hX, hY, eqGuard, binOp, Op.equal, Op.maxDepth]
    split <;> simp [hr]
theorem ac_clone0 : ACalls Tryz.prog 26 [.slice (some ⟨0, 0, none⟩) 0 0] [some ⟨[], false, 1⟩] (.slice (some ⟨1, 0, none⟩) 0 0) [none, some ⟨[], true, 1⟩] := by
  constructor
  intro F w0 μ w ys hd hm hl hv
  have hsz : 0 < ys.size := by rw [hl]; simp
  have h0 := hv 0 _ ys[0] rfl (Array.getElem?_eq_getElem hsz)
  obtain ⟨ad, cap, hy, hc⟩ : ∃ ad cap, ys[0] = .slice ad 0 cap ∧ (ad = none → cap = 0) := by
    generalize ys[0] = y at h0
    cases h0 with
    | slc => exact ⟨_, _, rfl, fun h => by simp at h⟩
    | slcNil => exact ⟨_, _, rfl, fun _ => rfl⟩
  have e : ys = #[.slice ad 0 cap] := by
    apply Array.ext (by simpa using hl)
    intro i h1 h2
    have : i = 0 := by simp at h2; omega
    subst this
    simpa using hy
  subst e
  refine (clone0_any ad cap w hc).mono fun e w' ⟨he, hb⟩ => ?_
  have hk := hm.keep hb.os hb.tape hb.output hb.size fun k hk => hb.block k hk
  have hd1 : Dom (fun i => if i < 1 then μ i else none) 1 := fun i hi => if_neg (by omega)
  have hm1 : RepM F w0 (fun i => if i < 1 then μ i else none) [none] w' := ⟨hk.os, hk.tape, hk.output, hk.size, hk.frame, hk.up, fun i B hB => by cases i <;> simp [live] at hB, fun i j B B' L L' hB => by cases i <;> simp [live] at hB⟩
  have hx1 : ∀ L : Av.Loc, Ext 1 μ (Mu.set (fun i => if i < 1 then μ i else none) 1 L) := fun L i hi => by
    have : i ≠ 1 := by simp at hi; omega
    simp [Mu.set, this, hi]
  rcases he with he | ⟨b, he⟩
  · exact ⟨_, .slice none 0 0, he, hx1 _, by simpa using Mu.set_dom hd1, hm1.ghost hd1 1, .slcNil⟩
  · exact ⟨_, .slice (some ⟨b, 0, none⟩) 0 0, he, hx1 _, by simpa using Mu.set_dom hd1, hm1.ghost hd1 1 b 0, .slc (L := (⟨b, 0, 0, 1, true⟩ : Av.Loc)) Mu.set_same (Nat.le_refl _) (fun _ => rfl) (fun _ => rfl) (fun _ => by simp)⟩
theorem ac_cloneN (L : List ByteArray) (n : Nat) (hn : L.length = n) (hb : n ≤ 1000000) (h0 : n ≠ 0) : ACalls Tryz.prog 26 [.slice (some ⟨0, 0, none⟩) n n] [some ⟨List.map Value.string L, false, 1⟩] (.slice (some ⟨1, 0, none⟩) n n) [none, some ⟨List.map Value.string L, true, 1⟩] := by
  refine acalls_of_aw Tryz.func26 rfl rfl ?_
  repeat' first | refine st (h := ok_slc_eql rfl rfl h0) ?_ | refine stm (h := by (apply ok_append0 (xs := List.map Value.string L); rfl; rfl; rfl; rfl; rfl; rfl; (focus (refine Src.slc rfl Ty.eq rfl (by simp [hn]) (take_full (by simp [hn])) (by simp [Value.oneCell']) rfl)); (focus (exact Nat.le_refl _)); omega; (focus ((repeat constructor); first | done | fail)))) ?_ | refine st ?_ | refine stm ?_ | refine run_nil ?_ | refine Jz ?_ | refine Jw ?_ | refine Jr ?_ | refine Jy ?_ | refine aw_ret ?_
  all_goals first | exact pm_ret _ (renumD [0, 2]) rfl
theorem ac_cloneS (L : List ByteArray) (n : Nat) (hn : L.length = n) (hb : n ≤ 1000000) : ACalls Tryz.prog 26 [.slice (some ⟨0, 0, none⟩) n n] [some ⟨List.map Value.string L, false, 1⟩] (.slice (some ⟨1, 0, none⟩) n n) [none, some ⟨List.map Value.string L, true, 1⟩] := by
  by_cases h0 : n = 0
  · subst h0
    obtain rfl := List.eq_nil_of_length_eq_zero hn
    exact ac_clone0
  · exact ac_cloneN L n hn hb h0
end Go.Proofs.YtjofcjogbopkjaaGreat
namespace Go.Proofs.YtjofcjogbopkjaaGreat
open Go Av
set_option maxRecDepth 20000
/-- A store. -/
structure Sto where
  ver : Int
  id : ByteArray
  kn : Bool
  mv : Int
  ms : Int
  mg : Int
  mq : Int
  L : List ByteArray
  data : ByteArray
  bits : Nat
  P : List ByteArray
deriving DecidableEq
/-- An update. -/
structure Upd where
  kind : Int
  ver : Int
  id : ByteArray
  page : Int
  pkt : Int
  bits : Nat
  data : ByteArray
deriving DecidableEq
def sto0 : Sto := ⟨0, ⟨#[]⟩, false, 0, 0, 0, 0, [], ⟨#[]⟩, 0, []⟩
def upd0 : Upd := ⟨0, 0, ⟨#[]⟩, 0, 0, 0, ⟨#[]⟩⟩
def valU (kind ver : Int) (id : ByteArray) (page pkt : Int) (bits : Nat) (data : ByteArray) : Bool := decide (1 ≤ ver ∧ ver ≤ 65535 ∧ id.size = 32) &&
  (if kind = 1 then decide ((0 ≤ page ∧ page ≤ 64) ∧ pkt = 0 ∧ bits = 0 ∧ data.size = 0)
   else if kind = 2 then decide (((page = -1 ∧ bits = 0) ∨ ((0 ≤ page ∧ page < 64) ∧ bits ≠ 0)) ∧ pkt = 0 ∧ data.size = 0)
   else if kind = 3 then decide ((1 ≤ data.size ∧ data.size ≤ 4096) ∧ page = 0 ∧ pkt = 0 ∧ bits = 0)
   else if kind = 4 then decide ((0 ≤ page ∧ page < 64) ∧ (0 ≤ pkt ∧ pkt < 64) ∧ (1 ≤ data.size ∧ data.size ≤ 96) ∧ bits = 0) else false)
/-- A manifest is zero. -/
def noM (mv ms mg mq : Int) (n : Nat) : Bool := decide (mv = 0 ∧ ms = 0 ∧ mg = 0 ∧ mq = 0 ∧ n = 0)
/-- Nothing is known. -/
def noK (mv ms mg mq : Int) (n : Nat) (ds bits p : Nat) : Bool := decide (noM mv ms mg mq n = true ∧ ds = 0 ∧ bits = 0 ∧ p = 0)
/-- How many pages are complete. -/
def dnN (ms mg : Int) (n ds : Nat) : Int := if (ds : Int) = ms then n else (ds : Int) / mg
def dnB (ms mg : Int) (ds : Nat) : Bool := decide ((ds : Int) = ms ∨ ((ds : Int) < ms ∧ (ds : Int) % mg = 0))
/-- A packet's length. -/
def pkL (ms mg mq i p : Int) : Int := spT ms mg mq i p 0 - spF mg mq i p 0
/-- How many packets a page has. -/
def pkC (ms mg mq i : Int) : Int := (lenM ms mg i + mq - 1) / mq
/-- The packets of the next page are right. -/
def opnB (ms mg mq i : Int) (bits : Nat) (P : List ByteArray) : Bool :=
  decide ((P.length : Int) = pkC ms mg mq i ∧ bits < 2 ^ P.length ∧ bits ≠ 2 ^ P.length - 1 ∧ ∀ j : Nat, j < P.length → ((P.getD j ⟨#[]⟩).size : Int) = if bits.testBit j then pkL ms mg mq i j else 0)
/-- The pages are right. -/
def pgsB (mv ms mg : Int) (L : List ByteArray) (data : ByteArray) (k : Nat) : Bool := decide (∀ i : Nat, i < k → vfE mv ms mg 0 i L (pgS data mg i) = 0)
/-- A store with a manifest is right. -/
def knB (s : Sto) : Bool :=
  decide (chkM s.mv s.ms s.mg s.mq s.L = 0 ∧ s.mv = s.ver ∧ dig 0 (idB (encS s.mv s.ms s.mg s.mq s.L)).data.toList = s.id) && dnB s.ms s.mg s.data.size && pgsB s.mv s.ms s.mg s.L s.data (dnN s.ms s.mg s.L.length s.data.size).toNat &&
  (if dnN s.ms s.mg s.L.length s.data.size = s.L.length then decide (s.bits = 0 ∧ s.P.length = 0) else opnB s.ms s.mg s.mq (dnN s.ms s.mg s.L.length s.data.size) s.bits s.P)
def zeB (s : Sto) : Bool := decide (s.ver = 0 ∧ s.id.size = 0 ∧ s.kn = false ∧ noM s.mv s.ms s.mg s.mq s.L.length = true ∧ s.data.size = 0 ∧ s.bits = 0 ∧ s.P.length = 0)
/-- A store is right. -/
def chS (s : Sto) : Bool := zeB s || (decide (1 ≤ s.ver ∧ s.ver ≤ 65535 ∧ s.id.size = 32) && (if s.kn then knB s else noK s.mv s.ms s.mg s.mq s.L.length s.data.size s.bits s.P.length))
def cpB (s : Sto) : Bool := s.kn && decide ((s.data.size : Int) = s.ms)
/-- The announcement of a store. -/
def annU (s : Sto) : Upd := ⟨1, s.ver, s.id, if s.kn then dnN s.ms s.mg s.L.length s.data.size else 0, 0, 0, ⟨#[]⟩⟩
/-- The request of a store. -/
def askU (s : Sto) : Upd := ⟨2, s.ver, s.id, if s.kn then dnN s.ms s.mg s.L.length s.data.size else -1, 0, if s.kn then (2 ^ s.P.length - 1) - s.bits else 0, ⟨#[]⟩⟩
/-- A store with empty packets for its next page. -/
def nxS (s : Sto) : Sto := { s with bits := 0, P := if dnN s.ms s.mg s.L.length s.data.size = s.L.length then [] else List.replicate (pkC s.ms s.mg s.mq (dnN s.ms s.mg s.L.length s.data.size)).toNat ⟨#[]⟩ }
/-- A store behind a packet. -/
def puS (s : Sto) (u : Upd) : Sto :=
  let n := dnN s.ms s.mg s.L.length s.data.size
  if u.page ≠ n ∨ (s.P.length : Int) ≤ u.pkt ∨ s.bits.testBit u.pkt.toNat = true ∨ (u.data.size : Int) ≠ pkL s.ms s.mg s.mq n u.pkt then s
  else
    let P := s.P.set u.pkt.toNat u.data
    let b := s.bits ||| 2 ^ u.pkt.toNat
    if b ≠ 2 ^ s.P.length - 1 then { s with bits := b, P := P }
    else nxS { s with bits := b, P := P, data := if vfE s.mv s.ms s.mg 0 n s.L (joinS P) = 0 then s.data ++ joinS P else s.data }
/-- The store behind a manifest. -/
def maS (s : Sto) (d : ByteArray) : Sto :=
  let v := valS (d.extract 0 2)
  let z := valS (d.extract 2 6)
  let g := valS (d.extract 6 8)
  let k := valS (d.extract 8 9)
  let L := clL d (deN d)
  if deE d = 0 ∧ v = s.ver ∧ dig 0 (idB (encS v z g k L)).data.toList = s.id then nxS { s with kn := true, mv := v, ms := z, mg := g, mq := k, L := L } else s
/-- The store behind an update, of those that are right. -/
def heS (s : Sto) (u : Upd) : Sto :=
  if u.kind = 1 ∧ s.ver < u.ver then { sto0 with ver := u.ver, id := u.id }
  else if u.kind = 3 ∧ (u.ver = s.ver ∧ u.id = s.id) ∧ s.kn = false then maS s u.data
  else if u.kind = 4 ∧ (u.ver = s.ver ∧ u.id = s.id) ∧ s.kn = true ∧ cpB s = false then puS s u
  else s
def heE (s : Sto) (u : Upd) : Bool := decide (u.kind = 1 ∧ zeB s = false ∧ u = annU s)
def okU (u : Upd) : Bool := valU u.kind u.ver u.id u.page u.pkt u.bits u.data
end Go.Proofs.YtjofcjogbopkjaaGreat
