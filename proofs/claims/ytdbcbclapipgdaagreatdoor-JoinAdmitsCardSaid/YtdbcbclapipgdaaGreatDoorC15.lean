/- Join: names, numbers in decimal (plain); Join: names, secrets, numbers in decimal; Join: requests and answers checked, the states of joiners; Join: codes. -/
import Derived.Test.YtdbcbclapipgdaaGreatDoorVO
import Derived.Test.YtdbcbclapipgdaaGreatDoorJ
import Derived.Test.YtdbcbclapipgdaaGreatDoorSH
import Derived.Test.YtdbcbclapipgdaaGreatDoorC5
import Derived.Test.YtdbcbclapipgdaaGreatDoorC12
set_option linter.unusedVariables false
set_option linter.unusedSimpArgs false
namespace Go.Proofs.YtdbcbclapipgdaaGreatDoor
open Go Av
set_option maxRecDepth 20000
/-- The characters of names. -/
def nmc (c : Nat) : Bool := decide (97 ≤ c ∧ c ≤ 122 ∨ 48 ≤ c ∧ c ≤ 57 ∨ c = 45)
theorem nmc_iff {c : Nat} : nmc c = true ↔ (97 ≤ c ∧ c ≤ 122 ∨ 48 ≤ c ∧ c ≤ 57 ∨ c = 45) := decide_eq_true_iff
/-- All bytes of a string are characters of names. -/
def nmA (s : ByteArray) : Bool := decide (∀ i, i < s.size → nmc (byteAt s i).toNat = true)
/-- Names. -/
def nmB (s : ByteArray) : Bool := decide (1 ≤ s.size ∧ s.size ≤ 32 ∧ 97 ≤ (byteAt s 0).toNat ∧ (byteAt s 0).toNat ≤ 122) && nmA s
/-- Secrets. -/
def scB (s : ByteArray) : Bool := decide (1 ≤ s.size ∧ s.size ≤ 32)
theorem byteAt_lt (s : ByteArray) (i : Nat) (h : i < s.size) : byteAt s i = s[i] := by
  have h' : i < s.data.size := h
  show s.data.toList.getD i 0 = s.data[i]
  simp [List.getD, getElem?_pos s.data i h']
theorem idx_name (s : ByteArray) : ∀ (f pos : Nat), s.size ≤ pos + f → (0 ≤ Lib.idxFuncFrom (fun c => !nmc c) true s f pos ↔ ∃ i, pos ≤ i ∧ i < s.size ∧ nmc (byteAt s i).toNat = false)
  | 0, pos, h => by
    refine ⟨fun h1 => ?_, fun ⟨i, h1, h2, _⟩ => by omega⟩
    have e : Lib.idxFuncFrom (fun c => !nmc c) true s 0 pos = -1 := rfl
    rw [e] at h1
    omega
  | f + 1, pos, h => by
    unfold Lib.idxFuncFrom
    by_cases hp : pos < s.size
    · rw [if_pos hp]
      have hb := byteAt_lt s pos hp
      by_cases ha : (s[pos]'hp).toNat < 128
      · rw [decode_ascii s pos hp ha]
        dsimp only
        cases hn : nmc (s[pos]'hp).toNat with
        | false => exact ⟨fun _ => ⟨pos, Nat.le_refl _, hp, by rw [hb]; exact hn⟩, fun _ => by rw [if_pos (by rfl)]; omega⟩
        | true =>
          rw [if_neg (by simp), idx_name s f (pos + 1) (by omega)]
          refine ⟨fun ⟨i, h1, h2, h3⟩ => ⟨i, by omega, h2, h3⟩, fun ⟨i, h1, h2, h3⟩ => ⟨i, ?_, h2, h3⟩⟩
          rcases Nat.lt_or_ge pos i with h4 | h4
          · omega
          · obtain rfl : i = pos := by omega
            rw [hb, hn] at h3
            cases h3
      · have h1 := (decode_high s pos hp (by omega)).1
        have e : ∀ c, 128 ≤ c → nmc c = false := fun c hc => decide_eq_false (by omega)
        rw [if_pos (by rw [e _ h1]; rfl)]
        exact ⟨fun _ => ⟨pos, Nat.le_refl _, hp, by rw [hb]; exact e _ (by omega)⟩, fun _ => by omega⟩
    · rw [if_neg hp]
      exact ⟨fun h => by omega, fun ⟨i, h1, h2, _⟩ => by omega⟩
theorem idx_nmA (s : ByteArray) : decide (0 ≤ Lib.idxFunc (fun c => !nmc c) true s) = !nmA s := by
  have h := idx_name s s.size 0 (by omega)
  unfold Lib.idxFunc
  cases hA : nmA s with
  | true =>
    refine decide_eq_false fun h1 => ?_
    obtain ⟨i, _, h2, h3⟩ := h.1 h1
    rw [of_decide_eq_true hA i h2] at h3
    cases h3
  | false =>
    refine decide_eq_true (h.2 ?_)
    have hA := of_decide_eq_false hA
    apply Classical.byContradiction
    intro hn
    refine hA fun i hi => ?_
    cases hc : nmc (byteAt s i).toNat with
    | true => rfl
    | false => exact absurd ⟨i, Nat.zero_le _, hi, hc⟩ hn
/-- Numbers in decimal. -/
def decS (n : Int) : ByteArray := ⟨(Lib.itoa n).toArray⟩
theorem decS_small {n : Int} (h0 : 0 ≤ n) (h : n < 10) : decS n = ⟨#[UInt8.ofNat (48 + n.toNat)]⟩ := by
  unfold decS Lib.itoa
  rw [if_neg (by omega), Lib.decDigits, dif_pos (by omega)]
theorem decS_big {n : Int} (h : 10 ≤ n) : decS n = decS (n / 10) ++ ⟨#[UInt8.ofNat (48 + (n % 10).toNat)]⟩ := by
  unfold decS Lib.itoa
  rw [if_neg (by omega), if_neg (by omega), Lib.decDigits, dif_neg (by omega)]
  have e1 : (n / 10).toNat = n.toNat / 10 := by omega
  have e2 : (n % 10).toNat = n.toNat % 10 := by omega
  rw [e1, e2]
  apply ByteArray.ext
  simp
theorem nDig_le : ∀ (k u : Nat), u < 10 ^ (k + 1) → (Lib.decDigits u).length ≤ k + 1
  | 0, u, h => by rw [Lib.decDigits, dif_pos (by simpa using h)]; simp
  | k + 1, u, h => by
    rw [Lib.decDigits]
    split
    · simp
    · have := nDig_le k (u / 10) (by rw [Nat.pow_succ] at h; omega)
      simp; omega
theorem decS_size {n : Int} (h0 : 0 ≤ n) (h : n ≤ 9223372036854775807) : (decS n).size ≤ 19 := by
  show (Lib.itoa n).toArray.size ≤ 19
  unfold Lib.itoa
  rw [if_neg (by omega)]
  simpa using nDig_le 18 n.toNat (by omega)
theorem ok_str_addD {P : Program} {ρ : Operand → Option Value} {m : Mem} {d : Option Tmp} {t : TypeId} {pp : String} {af : Array Edge} {g : Option (Nat × Bool)} {xt yt : TypeId} {x y : Operand} {s u T : ByteArray} (hx : ρ x = some (.string s)) (hy : ρ y = some (.string u)) (e : s ++ u = T) (h : T.size ≤ 9223372036854775807) : OpOK P ⟨d, .binOp .add xt x y yt, t, pp, af, g⟩ ρ m (.string T) m := by
  subst e
  exact ok_str_add hx hy (by rw [← ByteArray.size_append]; exact h)
theorem Amb.below {w W : World} (h : Amb (fun k => w.heap.size ≤ k) w) (hb : RowKit.Below w.heap.size w W) : Amb (fun k => W.heap.size ≤ k) W :=
  h.mono (fun k hk => Nat.le_trans hb.size hk) fun k hk => hb.block k (Nat.lt_of_not_le hk)
/-- A contract of plain values, over the model's own worlds. -/
theorem calls_pure {P : Program} {f : FuncId} {args : List Value} {r : Value} {W : World} (h : ACalls P f args [] r []) (hp : args.all (plain 6) = true) (hr : plain 6 r = true) (hA : Amb (fun k => W.heap.size ≤ k) W) : Calls P f args.toArray W fun e w' => e = .returned r ∧ RowKit.Below W.heap.size W w' := by
  refine calls_of (μ := fun _ => none) h hr (fun _ _ => rfl) (repM_ro (fun id B hB => by simp [live] at hB) hA) (by simp) fun i x y hx hy => ?_
  have e : y = x := by
    rw [List.getElem?_toArray] at hy
    rw [hx] at hy
    exact (Option.some.inj hy).symm
  rw [e]
  exact plain_refl _ 6 x (List.all_eq_true.1 hp x (List.mem_of_getElem? hx))
set_option maxHeartbeats 1000000 in
theorem ac_nmc (c : Nat) : ACalls Tryz.prog 112 [.int .i32 c] [] (.bool (!nmc c)) [] := by
  obtain ⟨x, hx⟩ : ∃ x, (!nmc c) = x := ⟨_, rfl⟩
  rw [hx]
  unfold nmc at hx
  rw [← decide_not] at hx
  refine acalls_pure Tryz.func112 rfl rfl rfl ?_
  repeat' first | intro h1 | intro h1 | refine st (h := ok_not_dec2 rfl) ?_ | refine st ?_ | refine stm ?_ | refine Ja ?_ | refine Jb ?_ | refine Jc ?_ | refine Jd ?_ | refine Je ?_ | refine Jf ?_ | refine Jg ?_ | refine Jh ?_ ?_ | refine Ji ?_ ?_ | refine Jj ?_ ?_ | refine run_nil ?_ | refine Jz ?_ | refine Jw ?_ | refine aw_block ?_ | refine Jq ?_ | refine Jr ?_ | refine Js ?_ | refine Jt ?_ | refine Ju ?_ ?_ | refine Jv ?_ ?_ | refine Jy ?_ | refine aw_exit ?_ | refine aw_ret ?_ | refine pp_ret ?_ | refine pp_normal ?_
  all_goals first
    | rfl
    | (exfalso; omega)
    | (rw [← hx]; refine congrArg Value.bool ?_; first | exact (decide_eq_true (by omega)).symm | exact (decide_eq_false (by omega)).symm | exact decide_eq_decide.2 (by omega))
    | (rw [← hx]; show Value.bool _ = Value.bool _; congr 1; first | exact (decide_eq_true (by omega)).symm | exact (decide_eq_false (by omega)).symm | exact decide_eq_decide.2 (by omega) | (rw [← decide_not]; exact decide_eq_decide.2 (by omega)))
    | (exfalso; simp only [Bool.not_eq_true', Bool.not_eq_false', decide_eq_true_eq, decide_eq_false_iff_not, Bool.not_false, Bool.not_true] at *; omega)
    | (simp [retOf]; done)
    | (exfalso; simp_all; done)
theorem ac_ContainsN (s : ByteArray) : ACalls Tryz.prog 111 [.string s, .func (.func 112) #[] #[]] [] (.bool (!nmA s)) [] := by
  constructor
  intro F w0 μ w ys hd hm hl hv
  have e : ys = #[.string s, .func (.func 112) #[] #[]] := by
    apply Array.ext (by simpa using hl)
    intro i h1 h2
    have hx : [Value.string s, .func (.func 112) #[] #[]][i]? = some ([Value.string s, .func (.func 112) #[] #[]][i]'(by simpa using h2)) := List.getElem?_eq_getElem (by simpa using h2)
    have hq := hv i _ _ hx (Array.getElem?_eq_getElem h1)
    have hi : i = 0 ∨ i = 1 := by simp at h2; omega
    rcases hi with rfl | rfl
    · exact (plain_eq 6 (.string s) _ rfl hq)
    · have hq : VR μ (.func (.func 112) #[] #[]) ys[1] := hq
      generalize ys[1] = y at hq
      cases hq with
      | func h1 h2 h3 h4 =>
        rename_i xs us
        have e1 : xs = #[] := Array.eq_empty_of_size_eq_zero (by simpa using h1.symm)
        have e2 : us = #[] := Array.eq_empty_of_size_eq_zero (by simpa using h3.symm)
        rw [e1, e2]
        rfl
  subst e
  have hp : PredGrows Tryz.prog 112 #[] (fun c => !nmc c) w := fun W c _ hb => by
    have := calls_pure (W := W) (ac_nmc c) rfl rfl (Amb.below hm.here hb)
    exact this
  refine (Tryz.strings_ContainsFunc_grows 112 #[] (enters_of Tryz.func112 (by kernel_rfl) rfl) (fun c => !nmc c) s w hp).mono fun e w' ⟨he, hb⟩ => ⟨μ, .bool (!nmA s), ?_, Ext.refl _ _, hd, hm.keep hb.os hb.tape hb.output hb.size fun k hk => hb.block k hk, .bool _⟩
  rw [he, idx_nmA]
theorem ok_str_indexD {P : Program} {ρ : Operand → Option Value} {m : Mem} {d : Option Tmp} {t : TypeId} {pp : String} {af : Array Edge} {g : Option (Nat × Bool)} {xt : TypeId} {x y : Operand} {s : ByteArray} {k : IntKind} {i : Int} {c : Nat} [Ty P xt .string] (hx : ρ x = some (.string s)) (hy : ρ y = some (.int k i)) (h : 0 ≤ i ∧ i < s.size) (e : (byteAt s i.toNat).toNat = c) : OpOK P ⟨d, .index xt x y, t, pp, af, g⟩ ρ m (.int .u8 c) m := by
  subst e
  exact ok_str_index hx hy h
set_option maxHeartbeats 1000000 in
theorem ac_name (s : ByteArray) (x : Bool) (hx : nmB s = x) : ACalls Tryz.prog 71 [.string s] [] (.bool x) [] := by
  have H := ac_ContainsN s
  unfold nmB at hx
  obtain ⟨c0, hc0⟩ : ∃ c, (byteAt s 0).toNat = c := ⟨_, rfl⟩
  rw [hc0] at hx
  cases hA : nmA s
  · rw [hA] at H hx
    rw [Bool.and_false] at hx
    subst hx
    refine acalls_pure Tryz.func71 rfl rfl rfl ?_
    repeat' first | intro h1 | intro h1 | refine st (h := ok_not_dec2 rfl) ?_ | refine st (h := ok_str_indexD rfl rfl (by omega) hc0) ?_ | refine st ?_ | refine st_call (H) ?_ | refine sd_call (H) ?_ | refine stm ?_ | refine Ja ?_ | refine Jb ?_ | refine Jc ?_ | refine Jd ?_ | refine Je ?_ | refine Jf ?_ | refine Jg ?_ | refine Jh ?_ ?_ | refine Ji ?_ ?_ | refine Jj ?_ ?_ | refine run_nil ?_ | refine Jz ?_ | refine Jw ?_ | refine aw_block ?_ | refine Jq ?_ | refine Jr ?_ | refine Js ?_ | refine Jt ?_ | refine Ju ?_ ?_ | refine Jv ?_ ?_ | refine Jy ?_ | refine aw_exit ?_ | refine aw_ret ?_ | refine pp_ret ?_ | refine pp_normal ?_
    all_goals first
      | rfl
      | (exfalso; omega)
      | (rw [← hx]; refine congrArg Value.bool ?_; first | exact (decide_eq_true (by omega)).symm | exact (decide_eq_false (by omega)).symm | exact decide_eq_decide.2 (by omega))
      | (rw [← hx]; show Value.bool _ = Value.bool _; congr 1; first | exact (decide_eq_true (by omega)).symm | exact (decide_eq_false (by omega)).symm | exact decide_eq_decide.2 (by omega) | (rw [← decide_not]; exact decide_eq_decide.2 (by omega)))
      | (exfalso; simp only [Bool.not_eq_true', Bool.not_eq_false', decide_eq_true_eq, decide_eq_false_iff_not, Bool.not_false, Bool.not_true] at *; omega)
      | (simp [retOf]; done)
      | (exfalso; simp_all; done)
  · rw [hA] at H hx
    rw [Bool.and_true] at hx
    refine acalls_pure Tryz.func71 rfl rfl rfl ?_
    repeat' first | intro h1 | intro h1 | refine st (h := ok_not_dec2 rfl) ?_ | refine st (h := ok_str_indexD rfl rfl (by omega) hc0) ?_ | refine st ?_ | refine st_call (H) ?_ | refine sd_call (H) ?_ | refine stm ?_ | refine Ja ?_ | refine Jb ?_ | refine Jc ?_ | refine Jd ?_ | refine Je ?_ | refine Jf ?_ | refine Jg ?_ | refine Jh ?_ ?_ | refine Ji ?_ ?_ | refine Jj ?_ ?_ | refine run_nil ?_ | refine Jz ?_ | refine Jw ?_ | refine aw_block ?_ | refine Jq ?_ | refine Jr ?_ | refine Js ?_ | refine Jt ?_ | refine Ju ?_ ?_ | refine Jv ?_ ?_ | refine Jy ?_ | refine aw_exit ?_ | refine aw_ret ?_ | refine pp_ret ?_ | refine pp_normal ?_
    all_goals first
      | rfl
      | (exfalso; omega)
      | (rw [← hx]; refine congrArg Value.bool ?_; first | exact (decide_eq_true (by omega)).symm | exact (decide_eq_false (by omega)).symm | exact decide_eq_decide.2 (by omega))
      | (rw [← hx]; show Value.bool _ = Value.bool _; congr 1; first | exact (decide_eq_true (by omega)).symm | exact (decide_eq_false (by omega)).symm | exact decide_eq_decide.2 (by omega) | (rw [← decide_not]; exact decide_eq_decide.2 (by omega)))
      | (exfalso; simp only [Bool.not_eq_true', Bool.not_eq_false', decide_eq_true_eq, decide_eq_false_iff_not, Bool.not_false, Bool.not_true] at *; omega)
      | (simp [retOf]; done)
      | (exfalso; simp_all; done)
structure Ni where
  i : Nat
set_option maxHeartbeats 2000000 in
theorem ac_rName (s : ByteArray) (x : Bool) (hx : nmB s = x) : ACalls Tryz.prog 24 [.string s] [] (.bool x) [] := by
  unfold nmB at hx
  obtain ⟨c0, hc0⟩ : ∃ c, (byteAt s 0).toNat = c := ⟨_, rfl⟩
  rw [hc0] at hx
  by_cases hs : 1 ≤ s.size ∧ s.size ≤ 32 ∧ 97 ≤ c0 ∧ c0 ≤ 122
  case neg =>
    obtain rfl : x = false := by rw [← hx]; rw [decide_eq_false hs]; rfl
    have hx : decide False = false := rfl
    refine acalls_pure Tryz.func24 rfl rfl rfl ?_
    repeat' first | intro h1 | intro h1 | refine st (h := ok_str_indexD rfl rfl (by omega) hc0) ?_ | refine st ?_ | refine stm ?_ | refine Ja ?_ | refine Jb ?_ | refine Jc ?_ | refine Jd ?_ | refine Je ?_ | refine Jf ?_ | refine Jg ?_ | refine Jh ?_ ?_ | refine Ji ?_ ?_ | refine Jj ?_ ?_ | refine run_nil ?_ | refine Jz ?_ | refine Jw ?_ | refine aw_block ?_ | refine Jq ?_ | refine Jr ?_ | refine Js ?_ | refine Jt ?_ | refine Ju ?_ ?_ | refine Jv ?_ ?_ | refine Jy ?_ | refine aw_exit ?_ | refine aw_ret ?_ | refine pp_ret ?_ | refine pp_normal ?_
    all_goals first
      | rfl
      | (exfalso; omega)
      | (rw [← hx]; refine congrArg Value.bool ?_; first | exact (decide_eq_true (by omega)).symm | exact (decide_eq_false (by omega)).symm | exact decide_eq_decide.2 (by omega))
      | (rw [← hx]; show Value.bool _ = Value.bool _; congr 1; first | exact (decide_eq_true (by omega)).symm | exact (decide_eq_false (by omega)).symm | exact decide_eq_decide.2 (by omega) | (rw [← decide_not]; exact decide_eq_decide.2 (by omega)))
      | (exfalso; simp only [Bool.not_eq_true', Bool.not_eq_false', decide_eq_true_eq, decide_eq_false_iff_not, Bool.not_false, Bool.not_true] at *; omega)
      | (simp [retOf]; done)
      | (exfalso; simp_all; done)
  rw [decide_eq_true hs, Bool.true_and] at hx
  obtain ⟨n, hn⟩ : ∃ n, s.size = n := ⟨_, rfl⟩
  refine acalls_pure Tryz.func24 rfl rfl rfl ?_
  repeat' first | intro h1 | intro h1 | refine st (h := ok_str_indexD rfl rfl (by omega) hc0) ?_ | refine st ?_ | refine stm ?_ | refine Ja ?_ | refine Jb ?_ | refine Jc ?_ | refine Jd ?_ | refine Je ?_ | refine Jf ?_ | refine Jg ?_ | refine Jh ?_ ?_ | refine Ji ?_ ?_ | refine Jj ?_ ?_ | refine run_nil ?_ | refine Jz ?_ | refine Jw ?_ | refine aw_block ?_ | refine Jq ?_ | refine Jr ?_ | refine Js ?_ | refine Jt ?_ | refine Ju ?_ ?_ | refine Jv ?_ ?_ | refine Jy ?_ | refine aw_exit ?_ | refine aw_ret ?_ | refine pp_ret ?_ | refine pp_normal ?_
  all_goals try (exfalso; omega)
  refine aw_loopg
    (S := fun y : Ni => [(0, .string s), (3, .int .i64 y.i)])
    (B := fun _ : Ni => [])
    (R := fun y : Ni => y.i ≤ n ∧ ∀ j, j < y.i → nmc (byteAt s j).toNat = true)
    (μ := fun y : Ni => n - y.i) ⟨0⟩ (fitsD []) ⟨Nat.zero_le _, fun j hj => absurd hj (Nat.not_lt_zero _)⟩ ?_
  rintro ⟨i⟩ ⟨g1, g2⟩
  dsimp only at *
  by_cases hi : i < n
  · obtain ⟨c, hc⟩ : ∃ c, (byteAt s i).toNat = c := ⟨_, rfl⟩
    cases hq : nmc c with
    | true =>
      have hst : ∀ j, j < i + 1 → nmc (byteAt s j).toNat = true := fun j hj => by
        rcases Nat.lt_or_ge j i with h | h
        · exact g2 j h
        · obtain rfl : j = i := by omega
          rw [hc]; exact hq
      have hq := nmc_iff.1 hq
      clear g2
      repeat' first | intro h1 | intro h1 | refine st (h := ok_str_indexD rfl rfl (by omega) hc) ?_ | refine st ?_ | refine stm ?_ | refine Ja ?_ | refine Jb ?_ | refine Jc ?_ | refine Jd ?_ | refine Je ?_ | refine Jf ?_ | refine Jg ?_ | refine Jh ?_ ?_ | refine Ji ?_ ?_ | refine Jj ?_ ?_ | refine run_nil ?_ | refine Jz ?_ | refine Jw ?_ | refine aw_block ?_ | refine Jq ?_ | refine Jr ?_ | refine Js ?_ | refine Jt ?_ | refine Ju ?_ ?_ | refine Jv ?_ ?_ | refine Jy ?_ | refine aw_exit ?_ | refine aw_ret ?_ | refine pp_ret ?_ | refine pp_normal ?_
      all_goals first | exact Exists.intro ⟨i + 1⟩ ⟨fitsD [], ⟨hi, hst⟩, by dsimp only; omega⟩ | (exfalso; omega)
    | false =>
      obtain rfl : x = false := by
        rw [← hx]
        refine decide_eq_false fun h => ?_
        have h2 := h i (by omega)
        rw [hc, hq] at h2
        cases h2
      have hq := of_decide_eq_false hq
      clear g2 hx
      repeat' first | intro h1 | intro h1 | refine st (h := ok_str_indexD rfl rfl (by omega) hc) ?_ | refine st ?_ | refine stm ?_ | refine Ja ?_ | refine Jb ?_ | refine Jc ?_ | refine Jd ?_ | refine Je ?_ | refine Jf ?_ | refine Jg ?_ | refine Jh ?_ ?_ | refine Ji ?_ ?_ | refine Jj ?_ ?_ | refine run_nil ?_ | refine Jz ?_ | refine Jw ?_ | refine aw_block ?_ | refine Jq ?_ | refine Jr ?_ | refine Js ?_ | refine Jt ?_ | refine Ju ?_ ?_ | refine Jv ?_ ?_ | refine Jy ?_ | refine aw_exit ?_ | refine aw_ret ?_ | refine pp_ret ?_ | refine pp_normal ?_
      all_goals first
        | rfl
        | (exfalso; omega)
        | (rw [← hx]; refine congrArg Value.bool ?_; first | exact (decide_eq_true (by omega)).symm | exact (decide_eq_false (by omega)).symm | exact decide_eq_decide.2 (by omega))
        | (rw [← hx]; show Value.bool _ = Value.bool _; congr 1; first | exact (decide_eq_true (by omega)).symm | exact (decide_eq_false (by omega)).symm | exact decide_eq_decide.2 (by omega) | (rw [← decide_not]; exact decide_eq_decide.2 (by omega)))
        | (exfalso; simp only [Bool.not_eq_true', Bool.not_eq_false', decide_eq_true_eq, decide_eq_false_iff_not, Bool.not_false, Bool.not_true] at *; omega)
        | (simp [retOf]; done)
        | (exfalso; simp_all; done)
  · obtain rfl : i = n := by omega
    obtain rfl : x = true := by rw [← hx]; exact decide_eq_true (by rw [hn]; exact g2)
    clear g2 hx
    repeat' first | intro h1 | intro h1 | refine st ?_ | refine stm ?_ | refine Ja ?_ | refine Jb ?_ | refine Jc ?_ | refine Jd ?_ | refine Je ?_ | refine Jf ?_ | refine Jg ?_ | refine Jh ?_ ?_ | refine Ji ?_ ?_ | refine Jj ?_ ?_ | refine run_nil ?_ | refine Jz ?_ | refine Jw ?_ | refine aw_block ?_ | refine Jq ?_ | refine Jr ?_ | refine Js ?_ | refine Jt ?_ | refine Ju ?_ ?_ | refine Jv ?_ ?_ | refine Jy ?_ | refine aw_exit ?_ | refine aw_ret ?_ | refine pp_ret ?_ | refine pp_normal ?_
    all_goals first
      | rfl
      | (exfalso; omega)
      | (rw [← hx]; refine congrArg Value.bool ?_; first | exact (decide_eq_true (by omega)).symm | exact (decide_eq_false (by omega)).symm | exact decide_eq_decide.2 (by omega))
      | (rw [← hx]; show Value.bool _ = Value.bool _; congr 1; first | exact (decide_eq_true (by omega)).symm | exact (decide_eq_false (by omega)).symm | exact decide_eq_decide.2 (by omega) | (rw [← decide_not]; exact decide_eq_decide.2 (by omega)))
      | (exfalso; simp only [Bool.not_eq_true', Bool.not_eq_false', decide_eq_true_eq, decide_eq_false_iff_not, Bool.not_false, Bool.not_true] at *; omega)
      | (simp [retOf]; done)
      | (exfalso; simp_all; done)
theorem ac_secret (s : ByteArray) (x : Bool) (hx : scB s = x) : ACalls Tryz.prog 72 [.string s] [] (.bool x) [] := by
  unfold scB at hx
  refine acalls_pure Tryz.func72 rfl rfl rfl ?_
  repeat' first | intro h1 | intro h1 | refine st ?_ | refine stm ?_ | refine Ja ?_ | refine Jb ?_ | refine Jc ?_ | refine Jd ?_ | refine Je ?_ | refine Jf ?_ | refine Jg ?_ | refine Jh ?_ ?_ | refine Ji ?_ ?_ | refine Jj ?_ ?_ | refine run_nil ?_ | refine Jz ?_ | refine Jw ?_ | refine aw_block ?_ | refine Jq ?_ | refine Jr ?_ | refine Js ?_ | refine Jt ?_ | refine Ju ?_ ?_ | refine Jv ?_ ?_ | refine Jy ?_ | refine aw_exit ?_ | refine aw_ret ?_ | refine pp_ret ?_ | refine pp_normal ?_
  all_goals first
    | rfl
    | (exfalso; omega)
    | (rw [← hx]; refine congrArg Value.bool ?_; first | exact (decide_eq_true (by omega)).symm | exact (decide_eq_false (by omega)).symm | exact decide_eq_decide.2 (by omega))
    | (rw [← hx]; show Value.bool _ = Value.bool _; congr 1; first | exact (decide_eq_true (by omega)).symm | exact (decide_eq_false (by omega)).symm | exact decide_eq_decide.2 (by omega) | (rw [← decide_not]; exact decide_eq_decide.2 (by omega)))
    | (exfalso; simp only [Bool.not_eq_true', Bool.not_eq_false', decide_eq_true_eq, decide_eq_false_iff_not, Bool.not_false, Bool.not_true] at *; omega)
    | (simp [retOf]; done)
    | (exfalso; simp_all; done)
theorem ac_rSecret (s : ByteArray) (x : Bool) (hx : scB s = x) : ACalls Tryz.prog 28 [.string s] [] (.bool x) [] := by
  unfold scB at hx
  refine acalls_pure Tryz.func28 rfl rfl rfl ?_
  repeat' first | intro h1 | intro h1 | refine st ?_ | refine stm ?_ | refine Ja ?_ | refine Jb ?_ | refine Jc ?_ | refine Jd ?_ | refine Je ?_ | refine Jf ?_ | refine Jg ?_ | refine Jh ?_ ?_ | refine Ji ?_ ?_ | refine Jj ?_ ?_ | refine run_nil ?_ | refine Jz ?_ | refine Jw ?_ | refine aw_block ?_ | refine Jq ?_ | refine Jr ?_ | refine Js ?_ | refine Jt ?_ | refine Ju ?_ ?_ | refine Jv ?_ ?_ | refine Jy ?_ | refine aw_exit ?_ | refine aw_ret ?_ | refine pp_ret ?_ | refine pp_normal ?_
  all_goals first
    | rfl
    | (exfalso; omega)
    | (rw [← hx]; refine congrArg Value.bool ?_; first | exact (decide_eq_true (by omega)).symm | exact (decide_eq_false (by omega)).symm | exact decide_eq_decide.2 (by omega))
    | (rw [← hx]; show Value.bool _ = Value.bool _; congr 1; first | exact (decide_eq_true (by omega)).symm | exact (decide_eq_false (by omega)).symm | exact decide_eq_decide.2 (by omega) | (rw [← decide_not]; exact decide_eq_decide.2 (by omega)))
    | (exfalso; simp only [Bool.not_eq_true', Bool.not_eq_false', decide_eq_true_eq, decide_eq_false_iff_not, Bool.not_false, Bool.not_true] at *; omega)
    | (simp [retOf]; done)
    | (exfalso; simp_all; done)
theorem ac_jwithin (n a b : Int) : ACalls Tryz.prog 57 [.int .i64 n, .int .i64 a, .int .i64 b] [] (.bool (decide (a ≤ n ∧ n ≤ b))) [] := by
  obtain ⟨x, hx⟩ : ∃ x, decide (a ≤ n ∧ n ≤ b) = x := ⟨_, rfl⟩
  rw [hx]
  refine acalls_pure Tryz.func57 rfl rfl rfl ?_
  repeat' first | intro h1 | intro h1 | refine st ?_ | refine stm ?_ | refine Ja ?_ | refine Jb ?_ | refine Jc ?_ | refine Jd ?_ | refine Je ?_ | refine Jf ?_ | refine Jg ?_ | refine Jh ?_ ?_ | refine Ji ?_ ?_ | refine Jj ?_ ?_ | refine run_nil ?_ | refine Jz ?_ | refine Jw ?_ | refine aw_block ?_ | refine Jq ?_ | refine Jr ?_ | refine Js ?_ | refine Jt ?_ | refine Ju ?_ ?_ | refine Jv ?_ ?_ | refine Jy ?_ | refine aw_exit ?_ | refine aw_ret ?_ | refine pp_ret ?_ | refine pp_normal ?_
  all_goals first
    | rfl
    | (exfalso; omega)
    | (rw [← hx]; refine congrArg Value.bool ?_; first | exact (decide_eq_true (by omega)).symm | exact (decide_eq_false (by omega)).symm | exact decide_eq_decide.2 (by omega))
    | (rw [← hx]; show Value.bool _ = Value.bool _; congr 1; first | exact (decide_eq_true (by omega)).symm | exact (decide_eq_false (by omega)).symm | exact decide_eq_decide.2 (by omega) | (rw [← decide_not]; exact decide_eq_decide.2 (by omega)))
    | (exfalso; simp only [Bool.not_eq_true', Bool.not_eq_false', decide_eq_true_eq, decide_eq_false_iff_not, Bool.not_false, Bool.not_true] at *; omega)
    | (simp [retOf]; done)
    | (exfalso; simp_all; done)
theorem ac_member (n : Int) : ACalls Tryz.prog 73 [.int .i64 n] [] (.bool (decide (1 ≤ n ∧ n ≤ 31))) [] := by
  obtain ⟨x, hx⟩ : ∃ x, decide (1 ≤ n ∧ n ≤ 31) = x := ⟨_, rfl⟩
  rw [hx]
  refine acalls_pure Tryz.func73 rfl rfl rfl ?_
  repeat' first | intro h1 | intro h1 | refine st ?_ | refine stm ?_ | refine Ja ?_ | refine Jb ?_ | refine Jc ?_ | refine Jd ?_ | refine Je ?_ | refine Jf ?_ | refine Jg ?_ | refine Jh ?_ ?_ | refine Ji ?_ ?_ | refine Jj ?_ ?_ | refine run_nil ?_ | refine Jz ?_ | refine Jw ?_ | refine aw_block ?_ | refine Jq ?_ | refine Jr ?_ | refine Js ?_ | refine Jt ?_ | refine Ju ?_ ?_ | refine Jv ?_ ?_ | refine Jy ?_ | refine aw_exit ?_ | refine aw_ret ?_ | refine pp_ret ?_ | refine pp_normal ?_
  all_goals first
    | rfl
    | (exfalso; omega)
    | (rw [← hx]; refine congrArg Value.bool ?_; first | exact (decide_eq_true (by omega)).symm | exact (decide_eq_false (by omega)).symm | exact decide_eq_decide.2 (by omega))
    | (rw [← hx]; show Value.bool _ = Value.bool _; congr 1; first | exact (decide_eq_true (by omega)).symm | exact (decide_eq_false (by omega)).symm | exact decide_eq_decide.2 (by omega) | (rw [← decide_not]; exact decide_eq_decide.2 (by omega)))
    | (exfalso; simp only [Bool.not_eq_true', Bool.not_eq_false', decide_eq_true_eq, decide_eq_false_iff_not, Bool.not_false, Bool.not_true] at *; omega)
    | (simp [retOf]; done)
    | (exfalso; simp_all; done)
theorem below_gd (w : World) (k : Nat) (os : Array Obj) : RowKit.Below w.heap.size w (Sort.grow (w.drewN k) os) :=
  ⟨rfl, rfl, rfl, by show w.heap.size ≤ (w.heap ++ os).size; simp, fun i hi => by show (w.heap ++ os)[i]? = w.heap[i]?; rw [Array.getElem?_append_left hi]⟩
theorem amb_tab {w : World} (h : Amb (fun k => w.heap.size ≤ k) w) : Lib.TabIs Tryz.prog w "internal/strconv.uint64pow10" .u64 Lib.pow10Tab := by
  obtain ⟨_, c, e, q, h2, h3⟩ := h.tab _ (List.mem_singleton.2 rfl)
  have hg : Tryz.prog.globalNamed "internal/strconv.uint64pow10" = some 0 := by kernel_rfl
  unfold Lib.TabIs World.var?
  rw [hg]
  show (match w.heap[0]? with | some (.cells cs _ _) => some cs | _ => none) = _
  rw [h2]
  show some c = _
  congr 1
  apply Array.ext'
  rw [h3]
  rfl
theorem ac_itoa (n : Int) (h0 : -9223372036854775808 ≤ n) (h1 : n ≤ 9223372036854775807) : ACalls Tryz.prog 107 [.int .i64 n] [] (.string (decS n)) [] := by
  refine acalls_ofT rfl rfl fun w hA => ?_
  refine (Tryz.strconv_Itoa n h0 h1 w (amb_tab hA)).mono fun e w' ⟨he, k, os, hw⟩ => ⟨he, ?_⟩
  subst hw
  exact below_gd w k os
theorem ok_byte_str {P : Program} {ρ : Operand → Option Value} {m : Mem} {d : Option Tmp} {t : TypeId} {pp : String} {af : Array Edge} {g : Option (Nat × Bool)} {src dst : TypeId} {x : Operand} {id : Nat} {e : TypeId} {c : Int} {S : ByteArray} {rwb : Bool} [Ty P src (.slice e)] [Ty P e (.int .u8)] [Ty P dst .string] (hx : ρ x = some (.slice (some ⟨id, 0, none⟩) 1 1)) (hB : live m id = some ⟨[.int .u8 c], rwb, 1⟩) (h : 0 ≤ c ∧ c ≤ 255) (hS : ⟨#[UInt8.ofNat c.toNat]⟩ = S) : OpOK P ⟨d, .convert src dst x, t, pp, af, g⟩ ρ m (.string S) m := by
  subst hS
  refine ok_bytes_str (l := [UInt8.ofNat c.toNat]) hx hB (Nat.le_refl _) ?_
  show [Value.int .u8 c] = [Value.int .u8 (UInt8.ofNat c.toNat).toNat]
  congr 2
  rw [UInt8.toNat_ofNat']
  omega
set_option maxHeartbeats 2000000 in
theorem ac_decimal : ∀ (k : Nat) (n : Int), 0 ≤ n → n.toNat < k → n ≤ 9223372036854775807 → ACalls Tryz.prog 76 [.int .i64 n] [] (.string (decS n)) []
  | 0, n, _, h, _ => absurd h (Nat.not_lt_zero _)
  | k + 1, n, h0, h, h1 => by
    by_cases h10 : n < 10
    · have e := decS_small h0 h10
      obtain ⟨S, hS⟩ : ∃ S, decS n = S := ⟨_, rfl⟩
      rw [hS] at e ⊢
      have e2 : ⟨#[UInt8.ofNat (48 + n).toNat]⟩ = S := by rw [e]; congr 4; omega
      refine acalls_pure Tryz.func76 rfl rfl rfl ?_
      repeat' first | intro h1 | intro h1 | refine st (h := ok_byte_str rfl rfl (by omega) e2) ?_ | refine st ?_ | refine stm ?_ | refine Ja ?_ | refine Jb ?_ | refine Jc ?_ | refine Jd ?_ | refine Je ?_ | refine Jf ?_ | refine Jg ?_ | refine Jh ?_ ?_ | refine Ji ?_ ?_ | refine Jj ?_ ?_ | refine run_nil ?_ | refine sd ?_ | refine sdl ?_ | refine sdm (n := 1) ?_ | refine sdm ?_ | refine sdb ?_ | refine Jk ?_ | refine Jl ?_ | refine Jm ?_ | refine Jn ?_ ?_ | refine Jo ?_ ?_ | refine Jp ?_ ?_ | refine rund_nil ?_ | refine Jz ?_ | refine Jw ?_ | refine Jx (id := 3) [0,1,3,0,8,24,56,120,248,511,1023] 11 ?_ | refine aw_block ?_ | refine Jq ?_ | refine Jr ?_ | refine Js ?_ | refine Jt ?_ | refine Ju ?_ ?_ | refine Jv ?_ ?_ | refine Jy ?_ | refine aw_exit ?_ | refine aw_ret ?_ | refine pp_ret ?_ | refine pp_normal ?_
      all_goals first
        | rfl
        | (exfalso; omega)
    · have e := decS_big (n := n) (by omega)
      have H := ac_decimal k (n / 10) (by omega) (by omega) (by omega)
      have hz := decS_size h0 h1
      obtain ⟨S, hS⟩ : ∃ S, decS n = S := ⟨_, rfl⟩
      obtain ⟨T, hT⟩ : ∃ T, decS (n / 10) = T := ⟨_, rfl⟩
      obtain ⟨R, hR⟩ : ∃ R : ByteArray, ⟨#[UInt8.ofNat (48 + n % 10).toNat]⟩ = R := ⟨_, rfl⟩
      rw [hS] at e hz ⊢
      rw [hT] at e H
      have e2 : T ++ R = S := by rw [e, ← hR]; congr 5; omega
      clear e hS hT
      refine acalls_pure Tryz.func76 rfl rfl rfl ?_
      repeat' first | intro h1 | intro h1 | refine sdl (h := ok_byte_str rfl rfl (by omega) hR) ?_ | refine sdb (h := ok_byte_str rfl rfl (by omega) hR) ?_ | refine st (h := ok_str_addD rfl rfl e2 (by omega)) ?_ | refine sd (h := ok_str_addD rfl rfl e2 (by omega)) ?_ | refine st ?_ | refine st_call (H) ?_ | refine sd_call (H) ?_ | refine stm ?_ | refine Ja ?_ | refine Jb ?_ | refine Jc ?_ | refine Jd ?_ | refine Je ?_ | refine Jf ?_ | refine Jg ?_ | refine Jh ?_ ?_ | refine Ji ?_ ?_ | refine Jj ?_ ?_ | refine run_nil ?_ | refine sd ?_ | refine sdl ?_ | refine sdm (n := 1) ?_ | refine sdm ?_ | refine sdb ?_ | refine Jk ?_ | refine Jl ?_ | refine Jm ?_ | refine Jn ?_ ?_ | refine Jo ?_ ?_ | refine Jp ?_ ?_ | refine rund_nil ?_ | refine Jz ?_ | refine Jw ?_ | refine Jx (id := 3) [0,1,3,0,8,24,56,120,248,511,1023] 11 ?_ | refine aw_block ?_ | refine Jq ?_ | refine Jr ?_ | refine Js ?_ | refine Jt ?_ | refine Ju ?_ ?_ | refine Jv ?_ ?_ | refine Jy ?_ | refine aw_exit ?_ | refine aw_ret ?_ | refine pp_ret ?_ | refine pp_normal ?_
      all_goals first
        | rfl
        | (exfalso; omega)
/-- A request has its form, an answer has its form. -/
def akB (nm : ByteArray) (no : Int) (cd : ByteArray) : Bool := nmB nm && decide ((1 ≤ no ∧ no ≤ 2147483647) ∧ cd.size = 8)
def anB (nm : ByteArray) (no nd : Int) (cd : ByteArray) : Bool := akB nm no cd && decide (1 ≤ nd ∧ nd ≤ 31)
/-- A joiner's numbers are right for its state. -/
def stB (sj pa ep nd no tr si : Int) : Bool :=
  if sj = 0 then decide (pa = -1 ∧ nd = -1 ∧ tr = 0 ∧ ep = 0 ∧ si = 0) else if sj = 1 then decide ((0 ≤ pa ∧ pa ≤ 31) ∧ nd = -1 ∧ tr < 4) else if sj = 2 then decide ((0 ≤ pa ∧ pa ≤ 31) ∧ nd = -1 ∧ 1 ≤ tr ∧ 1 ≤ no) else if sj = 3 then decide ((0 ≤ pa ∧ pa ≤ 31) ∧ (1 ≤ nd ∧ nd ≤ 31) ∧ 1 ≤ no) else false
/-- A joiner is right. -/
def chJ (nm sec : ByteArray) (sj pa ep nd no tr si : Int) : Bool := (nmB nm && scB sec) && (decide ((0 ≤ ep ∧ ep ≤ 65535) ∧ (0 ≤ no ∧ no ≤ 2147483647) ∧ (0 ≤ si ∧ si ≤ 109951162) ∧ 0 ≤ tr ∧ tr ≤ 4) && stB sj pa ep nd no tr si)
theorem and_t {a b : Bool} (h : (a && b) = true) : a = true ∧ b = true := by cases a <;> cases b <;> simp_all
theorem chJ_t {nm sec : ByteArray} {sj pa ep nd no tr si : Int} (h : chJ nm sec sj pa ep nd no tr si = true) : nmB nm = true ∧ scB sec = true ∧ ((0 ≤ ep ∧ ep ≤ 65535) ∧ (0 ≤ no ∧ no ≤ 2147483647) ∧ (0 ≤ si ∧ si ≤ 109951162) ∧ 0 ≤ tr ∧ tr ≤ 4) ∧ stB sj pa ep nd no tr si = true :=
  ⟨(and_t (and_t h).1).1, (and_t (and_t h).1).2, of_decide_eq_true (and_t (and_t h).2).1, (and_t (and_t h).2).2⟩
theorem scB_t {s : ByteArray} (h : scB s = true) : 1 ≤ s.size ∧ s.size ≤ 32 := of_decide_eq_true h
theorem nmB_t {s : ByteArray} (h : nmB s = true) : 1 ≤ s.size ∧ s.size ≤ 32 := by
  have := of_decide_eq_true (and_t h).1
  omega
theorem akB_t {nm cd : ByteArray} {no : Int} (h : akB nm no cd = true) : nmB nm = true ∧ (1 ≤ no ∧ no ≤ 2147483647) ∧ cd.size = 8 := ⟨(and_t h).1, of_decide_eq_true (and_t h).2⟩
theorem anB_t {nm cd : ByteArray} {no nd : Int} (h : anB nm no nd cd = true) : akB nm no cd = true ∧ 1 ≤ nd ∧ nd ≤ 31 := ⟨(and_t h).1, of_decide_eq_true (and_t h).2⟩
set_option maxHeartbeats 1000000 in
theorem ac_asks (nm : ByteArray) (no : Int) (cd : ByteArray) (x : Bool) (hx : akB nm no cd = x) : ACalls Tryz.prog 63 [.agg #[.string nm, .int .i64 no, .string cd]] [] (.bool x) [] := by
  unfold akB at hx
  obtain ⟨a, ha⟩ : ∃ a, nmB nm = a := ⟨_, rfl⟩
  have H := ac_name nm a ha
  have HW := ac_jwithin
  rw [ha] at hx
  clear ha
  cases a
  · rw [Bool.false_and] at hx
    subst hx
    refine acalls_law Tryz.func63 rfl rfl rfl ?_
    repeat' first | intro h1 | intro h1 | refine st ?_ | refine st_call (H) ?_ | refine st_call (HW _ _ _) ?_ | refine sd_call (H) ?_ | refine sd_call (HW _ _ _) ?_ | refine stm ?_ | refine Ja ?_ | refine Jb ?_ | refine Jc ?_ | refine Jd ?_ | refine Je ?_ | refine Jf ?_ | refine Jg ?_ | refine Jh ?_ ?_ | refine Ji ?_ ?_ | refine Jj ?_ ?_ | refine run_nil ?_ | refine Jz ?_ | refine Jw ?_ | refine aw_block ?_ | refine Jq ?_ | refine Jr ?_ | refine Js ?_ | refine Jt ?_ | refine Ju ?_ ?_ | refine Jv ?_ ?_ | refine Jy ?_ | refine aw_exit ?_ | refine aw_ret ?_ | refine pp_ret ?_ | refine pp_normal ?_
    all_goals first
      | rfl
      | (exfalso; omega)
      | (rw [← hx]; refine congrArg Value.bool ?_; first | exact (decide_eq_true (by omega)).symm | exact (decide_eq_false (by omega)).symm | exact decide_eq_decide.2 (by omega))
      | (rw [← hx]; show Value.bool _ = Value.bool _; congr 1; first | exact (decide_eq_true (by omega)).symm | exact (decide_eq_false (by omega)).symm | exact decide_eq_decide.2 (by omega) | (rw [← decide_not]; exact decide_eq_decide.2 (by omega)))
      | (exfalso; simp only [Bool.not_eq_true', Bool.not_eq_false', decide_eq_true_eq, decide_eq_false_iff_not, Bool.not_false, Bool.not_true] at *; omega)
      | (simp [retOf]; done)
      | (exfalso; simp_all; done)
  · rw [Bool.true_and] at hx
    refine acalls_law Tryz.func63 rfl rfl rfl ?_
    repeat' first | intro h1 | intro h1 | refine st ?_ | refine st_call (H) ?_ | refine st_call (HW _ _ _) ?_ | refine sd_call (H) ?_ | refine sd_call (HW _ _ _) ?_ | refine stm ?_ | refine Ja ?_ | refine Jb ?_ | refine Jc ?_ | refine Jd ?_ | refine Je ?_ | refine Jf ?_ | refine Jg ?_ | refine Jh ?_ ?_ | refine Ji ?_ ?_ | refine Jj ?_ ?_ | refine run_nil ?_ | refine Jz ?_ | refine Jw ?_ | refine aw_block ?_ | refine Jq ?_ | refine Jr ?_ | refine Js ?_ | refine Jt ?_ | refine Ju ?_ ?_ | refine Jv ?_ ?_ | refine Jy ?_ | refine aw_exit ?_ | refine aw_ret ?_ | refine pp_ret ?_ | refine pp_normal ?_
    all_goals first
      | rfl
      | (exfalso; omega)
      | (rw [← hx]; refine congrArg Value.bool ?_; first | exact (decide_eq_true (by omega)).symm | exact (decide_eq_false (by omega)).symm | exact decide_eq_decide.2 (by omega))
      | (rw [← hx]; show Value.bool _ = Value.bool _; congr 1; first | exact (decide_eq_true (by omega)).symm | exact (decide_eq_false (by omega)).symm | exact decide_eq_decide.2 (by omega) | (rw [← decide_not]; exact decide_eq_decide.2 (by omega)))
      | (exfalso; simp only [Bool.not_eq_true', Bool.not_eq_false', decide_eq_true_eq, decide_eq_false_iff_not, Bool.not_false, Bool.not_true] at *; omega)
      | (simp [retOf]; done)
      | (exfalso; simp_all; done)
set_option maxHeartbeats 1000000 in
theorem ac_AskForm (nm : ByteArray) (no : Int) (cd : ByteArray) (x : Bool) (hx : akB nm no cd = x) : ACalls Tryz.prog 69 [.agg #[.string nm, .int .i64 no, .string cd]] [] (.bool x) [] := by
  unfold akB at hx
  obtain ⟨a, ha⟩ : ∃ a, nmB nm = a := ⟨_, rfl⟩
  have H := ac_rName nm a ha
  have HW := ac_jwithin
  rw [ha] at hx
  clear ha
  cases a
  · rw [Bool.false_and] at hx
    subst hx
    refine acalls_law Tryz.func69 rfl rfl rfl ?_
    repeat' first | intro h1 | intro h1 | refine st ?_ | refine st_call (H) ?_ | refine st_call (HW _ _ _) ?_ | refine sd_call (H) ?_ | refine sd_call (HW _ _ _) ?_ | refine stm ?_ | refine Ja ?_ | refine Jb ?_ | refine Jc ?_ | refine Jd ?_ | refine Je ?_ | refine Jf ?_ | refine Jg ?_ | refine Jh ?_ ?_ | refine Ji ?_ ?_ | refine Jj ?_ ?_ | refine run_nil ?_ | refine Jz ?_ | refine Jw ?_ | refine aw_block ?_ | refine Jq ?_ | refine Jr ?_ | refine Js ?_ | refine Jt ?_ | refine Ju ?_ ?_ | refine Jv ?_ ?_ | refine Jy ?_ | refine aw_exit ?_ | refine aw_ret ?_ | refine pp_ret ?_ | refine pp_normal ?_
    all_goals first
      | rfl
      | (exfalso; omega)
      | (rw [← hx]; refine congrArg Value.bool ?_; first | exact (decide_eq_true (by omega)).symm | exact (decide_eq_false (by omega)).symm | exact decide_eq_decide.2 (by omega))
      | (rw [← hx]; show Value.bool _ = Value.bool _; congr 1; first | exact (decide_eq_true (by omega)).symm | exact (decide_eq_false (by omega)).symm | exact decide_eq_decide.2 (by omega) | (rw [← decide_not]; exact decide_eq_decide.2 (by omega)))
      | (exfalso; simp only [Bool.not_eq_true', Bool.not_eq_false', decide_eq_true_eq, decide_eq_false_iff_not, Bool.not_false, Bool.not_true] at *; omega)
      | (simp [retOf]; done)
      | (exfalso; simp_all; done)
  · rw [Bool.true_and] at hx
    refine acalls_law Tryz.func69 rfl rfl rfl ?_
    repeat' first | intro h1 | intro h1 | refine st ?_ | refine st_call (H) ?_ | refine st_call (HW _ _ _) ?_ | refine sd_call (H) ?_ | refine sd_call (HW _ _ _) ?_ | refine stm ?_ | refine Ja ?_ | refine Jb ?_ | refine Jc ?_ | refine Jd ?_ | refine Je ?_ | refine Jf ?_ | refine Jg ?_ | refine Jh ?_ ?_ | refine Ji ?_ ?_ | refine Jj ?_ ?_ | refine run_nil ?_ | refine Jz ?_ | refine Jw ?_ | refine aw_block ?_ | refine Jq ?_ | refine Jr ?_ | refine Js ?_ | refine Jt ?_ | refine Ju ?_ ?_ | refine Jv ?_ ?_ | refine Jy ?_ | refine aw_exit ?_ | refine aw_ret ?_ | refine pp_ret ?_ | refine pp_normal ?_
    all_goals first
      | rfl
      | (exfalso; omega)
      | (rw [← hx]; refine congrArg Value.bool ?_; first | exact (decide_eq_true (by omega)).symm | exact (decide_eq_false (by omega)).symm | exact decide_eq_decide.2 (by omega))
      | (rw [← hx]; show Value.bool _ = Value.bool _; congr 1; first | exact (decide_eq_true (by omega)).symm | exact (decide_eq_false (by omega)).symm | exact decide_eq_decide.2 (by omega) | (rw [← decide_not]; exact decide_eq_decide.2 (by omega)))
      | (exfalso; simp only [Bool.not_eq_true', Bool.not_eq_false', decide_eq_true_eq, decide_eq_false_iff_not, Bool.not_false, Bool.not_true] at *; omega)
      | (simp [retOf]; done)
      | (exfalso; simp_all; done)
set_option maxHeartbeats 1000000 in
theorem ac_ansF (nm : ByteArray) (no nd : Int) (cd : ByteArray) (x : Bool) (hx : anB nm no nd cd = x) : ACalls Tryz.prog 60 [.agg #[.string nm, .int .i64 no, .int .i64 nd, .string cd]] [] (.bool x) [] := by
  unfold anB at hx
  obtain ⟨a, ha⟩ : ∃ a, akB nm no cd = a := ⟨_, rfl⟩
  have H := ac_asks nm no cd a ha
  have HW := ac_jwithin nd 1 31
  rw [ha] at hx
  clear ha
  cases a
  · rw [Bool.false_and] at hx
    subst hx
    refine acalls_law Tryz.func60 rfl rfl rfl ?_
    repeat' first | intro h1 | intro h1 | refine st ?_ | refine st_call (H) ?_ | refine st_call (HW) ?_ | refine sd_call (H) ?_ | refine sd_call (HW) ?_ | refine stm ?_ | refine Ja ?_ | refine Jb ?_ | refine Jc ?_ | refine Jd ?_ | refine Je ?_ | refine Jf ?_ | refine Jg ?_ | refine Jh ?_ ?_ | refine Ji ?_ ?_ | refine Jj ?_ ?_ | refine run_nil ?_ | refine Jz ?_ | refine Jw ?_ | refine aw_block ?_ | refine Jq ?_ | refine Jr ?_ | refine Js ?_ | refine Jt ?_ | refine Ju ?_ ?_ | refine Jv ?_ ?_ | refine Jy ?_ | refine aw_exit ?_ | refine aw_ret ?_ | refine pp_ret ?_ | refine pp_normal ?_
    all_goals first
      | rfl
      | (exfalso; omega)
      | (rw [← hx]; refine congrArg Value.bool ?_; first | exact (decide_eq_true (by omega)).symm | exact (decide_eq_false (by omega)).symm | exact decide_eq_decide.2 (by omega))
      | (rw [← hx]; show Value.bool _ = Value.bool _; congr 1; first | exact (decide_eq_true (by omega)).symm | exact (decide_eq_false (by omega)).symm | exact decide_eq_decide.2 (by omega) | (rw [← decide_not]; exact decide_eq_decide.2 (by omega)))
      | (exfalso; simp only [Bool.not_eq_true', Bool.not_eq_false', decide_eq_true_eq, decide_eq_false_iff_not, Bool.not_false, Bool.not_true] at *; omega)
      | (simp [retOf]; done)
      | (exfalso; simp_all; done)
  · rw [Bool.true_and] at hx
    rw [hx] at HW
    refine acalls_law Tryz.func60 rfl rfl rfl ?_
    repeat' first | intro h1 | intro h1 | refine st ?_ | refine st_call (H) ?_ | refine st_call (HW) ?_ | refine sd_call (H) ?_ | refine sd_call (HW) ?_ | refine stm ?_ | refine Ja ?_ | refine Jb ?_ | refine Jc ?_ | refine Jd ?_ | refine Je ?_ | refine Jf ?_ | refine Jg ?_ | refine Jh ?_ ?_ | refine Ji ?_ ?_ | refine Jj ?_ ?_ | refine run_nil ?_ | refine Jz ?_ | refine Jw ?_ | refine aw_block ?_ | refine Jq ?_ | refine Jr ?_ | refine Js ?_ | refine Jt ?_ | refine Ju ?_ ?_ | refine Jv ?_ ?_ | refine Jy ?_ | refine aw_exit ?_ | refine aw_ret ?_ | refine pp_ret ?_ | refine pp_normal ?_
    all_goals first
      | rfl
      | (exfalso; omega)
      | (rw [← hx]; refine congrArg Value.bool ?_; first | exact (decide_eq_true (by omega)).symm | exact (decide_eq_false (by omega)).symm | exact decide_eq_decide.2 (by omega))
      | (rw [← hx]; show Value.bool _ = Value.bool _; congr 1; first | exact (decide_eq_true (by omega)).symm | exact (decide_eq_false (by omega)).symm | exact decide_eq_decide.2 (by omega) | (rw [← decide_not]; exact decide_eq_decide.2 (by omega)))
      | (exfalso; simp only [Bool.not_eq_true', Bool.not_eq_false', decide_eq_true_eq, decide_eq_false_iff_not, Bool.not_false, Bool.not_true] at *; omega)
      | (simp [retOf]; done)
      | (exfalso; simp_all; done)
set_option maxHeartbeats 1000000 in
theorem ac_chk1 (nm sec : ByteArray) (sj pa ep nd no tr si : Int)  (x : Bool) (hx : decide (pa = -1 ∧ nd = -1 ∧ tr = 0 ∧ ep = 0 ∧ si = 0) = x) : ACalls Tryz.prog 84 [.pointer (some ⟨0, 0, none⟩)] [some ⟨[.string nm, .string sec, .int .i64 sj, .int .i64 pa, .int .i64 ep, .int .i64 nd, .int .i64 no, .int .i64 tr, .int .i64 si], false, 1⟩] (.bool x) [none] := by
  refine acalls_law Tryz.func84 rfl rfl rfl ?_
  repeat' first | intro h1 | intro h1 | refine st ?_ | refine stm ?_ | refine Ja ?_ | refine Jb ?_ | refine Jc ?_ | refine Jd ?_ | refine Je ?_ | refine Jf ?_ | refine Jg ?_ | refine Jh ?_ ?_ | refine Ji ?_ ?_ | refine Jj ?_ ?_ | refine run_nil ?_ | refine Jz ?_ | refine Jw ?_ | refine aw_block ?_ | refine Jq ?_ | refine Jr ?_ | refine Js ?_ | refine Jt ?_ | refine Ju ?_ ?_ | refine Jv ?_ ?_ | refine Jy ?_ | refine aw_exit ?_ | refine aw_ret ?_ | refine pp_ret ?_ | refine pp_normal ?_
  all_goals first
    | rfl
    | (exfalso; omega)
    | (rw [← hx]; refine congrArg Value.bool ?_; first | exact (decide_eq_true (by omega)).symm | exact (decide_eq_false (by omega)).symm | exact decide_eq_decide.2 (by omega))
    | (rw [← hx]; show Value.bool _ = Value.bool _; congr 1; first | exact (decide_eq_true (by omega)).symm | exact (decide_eq_false (by omega)).symm | exact decide_eq_decide.2 (by omega) | (rw [← decide_not]; exact decide_eq_decide.2 (by omega)))
    | (exfalso; simp only [Bool.not_eq_true', Bool.not_eq_false', decide_eq_true_eq, decide_eq_false_iff_not, Bool.not_false, Bool.not_true] at *; omega)
    | (simp [retOf]; done)
    | (exfalso; simp_all; done)
set_option maxHeartbeats 1000000 in
theorem ac_chk2 (nm sec : ByteArray) (sj pa ep nd no tr si : Int) (q : Bool) (x : Bool) (hx : decide (q = true ∧ nd = -1 ∧ tr < 4) = x) : ACalls Tryz.prog 85 [.pointer (some ⟨0, 0, none⟩), .pointer (some ⟨1, 0, none⟩)] [some ⟨[.bool q], false, 1⟩, some ⟨[.string nm, .string sec, .int .i64 sj, .int .i64 pa, .int .i64 ep, .int .i64 nd, .int .i64 no, .int .i64 tr, .int .i64 si], false, 1⟩] (.bool x) [none, none] := by
  have HW := ac_jwithin nd 1 31
  cases q
  · obtain rfl : x = false := by rw [← hx]; exact decide_eq_false (by simp)
    clear hx
    refine acalls_law Tryz.func85 rfl rfl rfl ?_
    repeat' first | intro h1 | intro h1 | refine st ?_ | refine st_call (HW) ?_ | refine sd_call (HW) ?_ | refine stm ?_ | refine Ja ?_ | refine Jb ?_ | refine Jc ?_ | refine Jd ?_ | refine Je ?_ | refine Jf ?_ | refine Jg ?_ | refine Jh ?_ ?_ | refine Ji ?_ ?_ | refine Jj ?_ ?_ | refine run_nil ?_ | refine Jz ?_ | refine Jw ?_ | refine aw_block ?_ | refine Jq ?_ | refine Jr ?_ | refine Js ?_ | refine Jt ?_ | refine Ju ?_ ?_ | refine Jv ?_ ?_ | refine Jy ?_ | refine aw_exit ?_ | refine aw_ret ?_ | refine pp_ret ?_ | refine pp_normal ?_
    all_goals first
      | rfl
      | (exfalso; omega)
      | (simp [retOf]; done)
      | (exfalso; simp_all; done)
      | (exfalso; simp only [Bool.not_eq_true', Bool.not_eq_false', decide_eq_true_eq, decide_eq_false_iff_not, Bool.not_false, Bool.not_true] at *; omega)
  simp only [true_and] at hx
  refine acalls_law Tryz.func85 rfl rfl rfl ?_
  repeat' first | intro h1 | intro h1 | refine st ?_ | refine st_call (HW) ?_ | refine sd_call (HW) ?_ | refine stm ?_ | refine Ja ?_ | refine Jb ?_ | refine Jc ?_ | refine Jd ?_ | refine Je ?_ | refine Jf ?_ | refine Jg ?_ | refine Jh ?_ ?_ | refine Ji ?_ ?_ | refine Jj ?_ ?_ | refine run_nil ?_ | refine Jz ?_ | refine Jw ?_ | refine aw_block ?_ | refine Jq ?_ | refine Jr ?_ | refine Js ?_ | refine Jt ?_ | refine Ju ?_ ?_ | refine Jv ?_ ?_ | refine Jy ?_ | refine aw_exit ?_ | refine aw_ret ?_ | refine pp_ret ?_ | refine pp_normal ?_
  all_goals first
    | rfl
    | (exfalso; omega)
    | (rw [← hx]; refine congrArg Value.bool ?_; first | exact (decide_eq_true (by omega)).symm | exact (decide_eq_false (by omega)).symm | exact decide_eq_decide.2 (by omega))
    | (rw [← hx]; show Value.bool _ = Value.bool _; congr 1; first | exact (decide_eq_true (by omega)).symm | exact (decide_eq_false (by omega)).symm | exact decide_eq_decide.2 (by omega) | (rw [← decide_not]; exact decide_eq_decide.2 (by omega)))
    | (exfalso; simp only [Bool.not_eq_true', Bool.not_eq_false', decide_eq_true_eq, decide_eq_false_iff_not, Bool.not_false, Bool.not_true] at *; omega)
    | (simp [retOf]; done)
    | (exfalso; simp_all; done)
set_option maxHeartbeats 1000000 in
theorem ac_chk3 (nm sec : ByteArray) (sj pa ep nd no tr si : Int) (q : Bool) (x : Bool) (hx : decide (q = true ∧ nd = -1 ∧ 1 ≤ tr ∧ 1 ≤ no) = x) : ACalls Tryz.prog 86 [.pointer (some ⟨0, 0, none⟩), .pointer (some ⟨1, 0, none⟩)] [some ⟨[.bool q], false, 1⟩, some ⟨[.string nm, .string sec, .int .i64 sj, .int .i64 pa, .int .i64 ep, .int .i64 nd, .int .i64 no, .int .i64 tr, .int .i64 si], false, 1⟩] (.bool x) [none, none] := by
  have HW := ac_jwithin nd 1 31
  cases q
  · obtain rfl : x = false := by rw [← hx]; exact decide_eq_false (by simp)
    clear hx
    refine acalls_law Tryz.func86 rfl rfl rfl ?_
    repeat' first | intro h1 | intro h1 | refine st ?_ | refine st_call (HW) ?_ | refine sd_call (HW) ?_ | refine stm ?_ | refine Ja ?_ | refine Jb ?_ | refine Jc ?_ | refine Jd ?_ | refine Je ?_ | refine Jf ?_ | refine Jg ?_ | refine Jh ?_ ?_ | refine Ji ?_ ?_ | refine Jj ?_ ?_ | refine run_nil ?_ | refine Jz ?_ | refine Jw ?_ | refine aw_block ?_ | refine Jq ?_ | refine Jr ?_ | refine Js ?_ | refine Jt ?_ | refine Ju ?_ ?_ | refine Jv ?_ ?_ | refine Jy ?_ | refine aw_exit ?_ | refine aw_ret ?_ | refine pp_ret ?_ | refine pp_normal ?_
    all_goals first
      | rfl
      | (exfalso; omega)
      | (simp [retOf]; done)
      | (exfalso; simp_all; done)
      | (exfalso; simp only [Bool.not_eq_true', Bool.not_eq_false', decide_eq_true_eq, decide_eq_false_iff_not, Bool.not_false, Bool.not_true] at *; omega)
  simp only [true_and] at hx
  refine acalls_law Tryz.func86 rfl rfl rfl ?_
  repeat' first | intro h1 | intro h1 | refine st ?_ | refine st_call (HW) ?_ | refine sd_call (HW) ?_ | refine stm ?_ | refine Ja ?_ | refine Jb ?_ | refine Jc ?_ | refine Jd ?_ | refine Je ?_ | refine Jf ?_ | refine Jg ?_ | refine Jh ?_ ?_ | refine Ji ?_ ?_ | refine Jj ?_ ?_ | refine run_nil ?_ | refine Jz ?_ | refine Jw ?_ | refine aw_block ?_ | refine Jq ?_ | refine Jr ?_ | refine Js ?_ | refine Jt ?_ | refine Ju ?_ ?_ | refine Jv ?_ ?_ | refine Jy ?_ | refine aw_exit ?_ | refine aw_ret ?_ | refine pp_ret ?_ | refine pp_normal ?_
  all_goals first
    | rfl
    | (exfalso; omega)
    | (rw [← hx]; refine congrArg Value.bool ?_; first | exact (decide_eq_true (by omega)).symm | exact (decide_eq_false (by omega)).symm | exact decide_eq_decide.2 (by omega))
    | (rw [← hx]; show Value.bool _ = Value.bool _; congr 1; first | exact (decide_eq_true (by omega)).symm | exact (decide_eq_false (by omega)).symm | exact decide_eq_decide.2 (by omega) | (rw [← decide_not]; exact decide_eq_decide.2 (by omega)))
    | (exfalso; simp only [Bool.not_eq_true', Bool.not_eq_false', decide_eq_true_eq, decide_eq_false_iff_not, Bool.not_false, Bool.not_true] at *; omega)
    | (simp [retOf]; done)
    | (exfalso; simp_all; done)
set_option maxHeartbeats 1000000 in
theorem ac_chk4 (nm sec : ByteArray) (sj pa ep nd no tr si : Int) (q : Bool) (x : Bool) (hx : decide (q = true ∧ (1 ≤ nd ∧ nd ≤ 31) ∧ 1 ≤ no) = x) : ACalls Tryz.prog 87 [.pointer (some ⟨0, 0, none⟩), .pointer (some ⟨1, 0, none⟩)] [some ⟨[.bool q], false, 1⟩, some ⟨[.string nm, .string sec, .int .i64 sj, .int .i64 pa, .int .i64 ep, .int .i64 nd, .int .i64 no, .int .i64 tr, .int .i64 si], false, 1⟩] (.bool x) [none, none] := by
  have HW := ac_jwithin nd 1 31
  cases q
  · obtain rfl : x = false := by rw [← hx]; exact decide_eq_false (by simp)
    clear hx
    refine acalls_law Tryz.func87 rfl rfl rfl ?_
    repeat' first | intro h1 | intro h1 | refine st ?_ | refine st_call (HW) ?_ | refine sd_call (HW) ?_ | refine stm ?_ | refine Ja ?_ | refine Jb ?_ | refine Jc ?_ | refine Jd ?_ | refine Je ?_ | refine Jf ?_ | refine Jg ?_ | refine Jh ?_ ?_ | refine Ji ?_ ?_ | refine Jj ?_ ?_ | refine run_nil ?_ | refine Jz ?_ | refine Jw ?_ | refine aw_block ?_ | refine Jq ?_ | refine Jr ?_ | refine Js ?_ | refine Jt ?_ | refine Ju ?_ ?_ | refine Jv ?_ ?_ | refine Jy ?_ | refine aw_exit ?_ | refine aw_ret ?_ | refine pp_ret ?_ | refine pp_normal ?_
    all_goals first
      | rfl
      | (exfalso; omega)
      | (simp [retOf]; done)
      | (exfalso; simp_all; done)
      | (exfalso; simp only [Bool.not_eq_true', Bool.not_eq_false', decide_eq_true_eq, decide_eq_false_iff_not, Bool.not_false, Bool.not_true] at *; omega)
  simp only [true_and] at hx
  refine acalls_law Tryz.func87 rfl rfl rfl ?_
  repeat' first | intro h1 | intro h1 | refine st ?_ | refine st_call (HW) ?_ | refine sd_call (HW) ?_ | refine stm ?_ | refine Ja ?_ | refine Jb ?_ | refine Jc ?_ | refine Jd ?_ | refine Je ?_ | refine Jf ?_ | refine Jg ?_ | refine Jh ?_ ?_ | refine Ji ?_ ?_ | refine Jj ?_ ?_ | refine run_nil ?_ | refine Jz ?_ | refine Jw ?_ | refine aw_block ?_ | refine Jq ?_ | refine Jr ?_ | refine Js ?_ | refine Jt ?_ | refine Ju ?_ ?_ | refine Jv ?_ ?_ | refine Jy ?_ | refine aw_exit ?_ | refine aw_ret ?_ | refine pp_ret ?_ | refine pp_normal ?_
  all_goals first
    | rfl
    | (exfalso; omega)
    | (rw [← hx]; refine congrArg Value.bool ?_; first | exact (decide_eq_true (by omega)).symm | exact (decide_eq_false (by omega)).symm | exact decide_eq_decide.2 (by omega))
    | (rw [← hx]; show Value.bool _ = Value.bool _; congr 1; first | exact (decide_eq_true (by omega)).symm | exact (decide_eq_false (by omega)).symm | exact decide_eq_decide.2 (by omega) | (rw [← decide_not]; exact decide_eq_decide.2 (by omega)))
    | (exfalso; simp only [Bool.not_eq_true', Bool.not_eq_false', decide_eq_true_eq, decide_eq_false_iff_not, Bool.not_false, Bool.not_true] at *; omega)
    | (simp [retOf]; done)
    | (exfalso; simp_all; done)
/-- The digest of a text with a key, and the code. -/
def kyS (k d : ByteArray) : ByteArray := dig (k.size : Int) (kx k.data.toList d.data.toList)
theorem kyS_size (k d : ByteArray) : (kyS k d).size = 32 := by
  show (outB _ 8).toArray.size = 32
  simp [outB]
def cdS (k d : ByteArray) : ByteArray := (kyS k d).extract 0 8
theorem cdS_size (k d : ByteArray) : (cdS k d).size = 8 := by
  unfold cdS
  rw [ByteArray.size_extract, kyS_size]
  rfl
/-- The text of a request, of an answer. -/
def tx1 (w nm : ByteArray) (n : Int) : ByteArray := w ++ ⟨#[32]⟩ ++ nm ++ (⟨#[32]⟩ ++ decS n)
def tx2 (w nm : ByteArray) (n m : Int) : ByteArray := tx1 w nm n ++ (⟨#[32]⟩ ++ decS m)
def askW : ByteArray := ⟨#[97, 115, 107]⟩
def ansW : ByteArray := ⟨#[97, 110, 115, 119, 101, 114]⟩
/-- The code of a request, of an answer. -/
def acS (sec nm : ByteArray) (n : Int) : ByteArray := cdS sec (tx1 askW nm n)
def nsS (sec nm : ByteArray) (n m : Int) : ByteArray := cdS sec (tx2 ansW nm n m)
theorem acS_size (sec nm : ByteArray) (n : Int) : (acS sec nm n).size = 8 := cdS_size _ _
theorem nsS_size (sec nm : ByteArray) (n m : Int) : (nsS sec nm n m).size = 8 := cdS_size _ _
set_option maxHeartbeats 4000000 in
theorem ac_code1 (sec w nm : ByteArray) (n : Int) (hs : sec.size ≤ 32) (hw : w.size ≤ 10) (hn : nm.size ≤ 100) (h0 : 0 ≤ n) (h1 : n ≤ 4294967295) : ACalls Tryz.prog 58 [.string sec, .string w, .string nm, .slice (some ⟨0, 0, none⟩) 1 1] [some ⟨[.int .i64 n], false, 1⟩] (.string (cdS sec (tx1 w nm n))) [none] := by
  have H1 := ac_itoa n (by omega) (by omega)
  have z1 := decS_size h0 (by omega)
  have hK := fun T h => ac_Keyed sec T hs h
  obtain ⟨S, hS⟩ : ∃ S, decS n = S := ⟨_, rfl⟩
  rw [hS] at H1 z1
  obtain ⟨T1, e1⟩ : ∃ T, w ++ ⟨#[32]⟩ = T := ⟨_, rfl⟩
  obtain ⟨T2, e2⟩ : ∃ T, T1 ++ nm = T := ⟨_, rfl⟩
  obtain ⟨T3, e3⟩ : ∃ T, ⟨#[32]⟩ ++ S = T := ⟨_, rfl⟩
  obtain ⟨T4, e4⟩ : ∃ T, T2 ++ T3 = T := ⟨_, rfl⟩
  have q1 : T1.size = w.size + 1 := by rw [← e1, ByteArray.size_append]; rfl
  have q2 : T2.size = T1.size + nm.size := by rw [← e2, ByteArray.size_append]
  have q3 : T3.size = 1 + S.size := by rw [← e3, ByteArray.size_append]; rfl
  have q4 : T4.size = T2.size + T3.size := by rw [← e4, ByteArray.size_append]
  have e5 : tx1 w nm n = T4 := by unfold tx1; rw [hS, e1, e2, e3, e4]
  rw [e5]
  have hK := hK T4 (by omega)
  obtain ⟨K, hKK⟩ : ∃ K, kyS sec T4 = K := ⟨_, rfl⟩
  have hK2 : K.size = 32 := by rw [← hKK]; exact kyS_size _ _
  unfold cdS
  rw [hKK]
  have hK : ACalls Tryz.prog 108 [.string sec, .string T4] [] (.tuple #[.string K, .int .i64 0]) [] := by rw [← hKK]; exact hK
  obtain ⟨U, hU⟩ : ∃ U, K.extract 0 8 = U := ⟨_, rfl⟩
  rw [hU]
  clear hKK
  refine acalls_law Tryz.func58 rfl rfl rfl ?_
  repeat' first | intro h1 | intro h1 | refine st (h := ok_str_addD (s := w) (u := ⟨#[32]⟩) rfl rfl e1 (by omega)) ?_ | refine sd (h := ok_str_addD (s := w) (u := ⟨#[32]⟩) rfl rfl e1 (by omega)) ?_ | refine st (h := ok_str_addD (s := T1) (u := nm) rfl rfl e2 (by omega)) ?_ | refine sd (h := ok_str_addD (s := T1) (u := nm) rfl rfl e2 (by omega)) ?_ | refine st (h := ok_str_addD (s := ⟨#[32]⟩) (u := S) rfl rfl e3 (by omega)) ?_ | refine sd (h := ok_str_addD (s := ⟨#[32]⟩) (u := S) rfl rfl e3 (by omega)) ?_ | refine st (h := ok_str_addD (s := T2) (u := T3) rfl rfl e4 (by omega)) ?_ | refine sd (h := ok_str_addD (s := T2) (u := T3) rfl rfl e4 (by omega)) ?_ | refine st ?_ | refine aw_loop_in ?_ | refine awl_round ?_ | refine then_round ?_ | refine st_call (H1) ?_ | refine st_call (hK) ?_ | refine sd_call (H1) ?_ | refine sd_call (hK) ?_ | refine stm ?_ | refine Ja ?_ | refine Jb ?_ | refine Jc ?_ | refine Jd ?_ | refine Je ?_ | refine Jf ?_ | refine Jg ?_ | refine Jh ?_ ?_ | refine Ji ?_ ?_ | refine Jj ?_ ?_ | refine run_nil ?_ | refine Jz ?_ | refine Jw ?_ | refine aw_block ?_ | refine Jq ?_ | refine Jr ?_ | refine Js ?_ | refine Jt ?_ | refine Ju ?_ ?_ | refine Jv ?_ ?_ | refine Jy ?_ | refine aw_exit ?_ | refine aw_ret ?_ | refine pp_ret ?_ | refine pp_normal ?_
  all_goals first
    | rfl
    | (exfalso; omega)
    | (show Value.string (K.extract 0 (min 8 (K.size : Int)).toNat) = Value.string U; rw [show (min 8 (K.size : Int)).toNat = 8 by omega, hU])
    | (show Value.string (K.extract 0 8) = Value.string U; rw [hU])
end Go.Proofs.YtdbcbclapipgdaaGreatDoor
