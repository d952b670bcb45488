/- TopJoins: check sums. -/
import Derived.Test.YtdenooeaiicheaaGreatVL
import Derived.Test.YtdenooeaiicheaaGreatJ
set_option linter.unusedVariables false
set_option linter.unusedSimpArgs false
namespace Go.Proofs.YtdenooeaiicheaaGreat
open Go Av
set_option maxRecDepth 20000
theorem ok_str_indexD {P : Program} {ρ : Operand → Option Value} {m : Mem} {d : Option Tmp} {t : TypeId} {pp : String} {af : Array Edge} {g : Option (Nat × Bool)} {xt : TypeId} {x y : Operand} {s : ByteArray} {k : IntKind} {i : Int} {c : Nat} [Ty P xt .string] (hx : ρ x = some (.string s)) (hy : ρ y = some (.int k i)) (h : 0 ≤ i ∧ i < s.size) (e : (byteAt s i.toNat).toNat = c) : OpOK P ⟨d, .index xt x y, t, pp, af, g⟩ ρ m (.int .u8 c) m := by
  subst e
  exact ok_str_index hx hy h
theorem ok_str_addD {P : Program} {ρ : Operand → Option Value} {m : Mem} {d : Option Tmp} {t : TypeId} {pp : String} {af : Array Edge} {g : Option (Nat × Bool)} {xt yt : TypeId} {x y : Operand} {s u T : ByteArray} (hx : ρ x = some (.string s)) (hy : ρ y = some (.string u)) (e : s ++ u = T) (h : T.size ≤ 9223372036854775807) : OpOK P ⟨d, .binOp .add xt x y yt, t, pp, af, g⟩ ρ m (.string T) m := by
  subst e
  exact ok_str_add hx hy (by rw [← ByteArray.size_append]; exact h)
theorem ok_shlK {P : Program} {ρ : Operand → Option Value} {m : Mem} {d : Option Tmp} {t : TypeId} {pp : String} {af : Array Edge} {g : Option (Nat × Bool)} {xt yt : TypeId} {x y : Operand} {k' : IntKind} {a c v M : Int} (hM : (2 : Int) ^ (min c.toNat 16) = M) (h : 0 ≤ c) (hx : ρ x = some (.int .u16 a)) (hy : ρ y = some (.int k' c)) (hv : IntKind.u16.wrap (a * M) = v) : OpOK P ⟨d, .binOp .shl xt x y yt, t, pp, af, g⟩ ρ m (.int .u16 v) m := by
  subst hv hM
  exact ok_shl hx hy h
theorem ok_shrK {P : Program} {ρ : Operand → Option Value} {m : Mem} {d : Option Tmp} {t : TypeId} {pp : String} {af : Array Edge} {g : Option (Nat × Bool)} {xt yt : TypeId} {x y : Operand} {k k' : IntKind} {a c v M : Int} (hM : (2 : Int) ^ (min c.toNat k.bits) = M) (h : 0 ≤ c) (hx : ρ x = some (.int k a)) (hy : ρ y = some (.int k' c)) (hv : a / M = v) : OpOK P ⟨d, .binOp .shr xt x y yt, t, pp, af, g⟩ ρ m (.int k v) m := by
  subst hv hM
  exact ok_shr hx hy h
theorem ok_xorK {P : Program} {ρ : Operand → Option Value} {m : Mem} {d : Option Tmp} {t : TypeId} {pp : String} {af : Array Edge} {g : Option (Nat × Bool)} {xt yt : TypeId} {x y : Operand} {k : IntKind} {a b v : Int} (hx : ρ x = some (.int k a)) (hy : ρ y = some (.int k b)) (hv : bitv .xor k a b = v) : OpOK P ⟨d, .binOp .xor xt x y yt, t, pp, af, g⟩ ρ m (.int k v) m := by
  subst hv
  exact ok_xor hx hy
/-- A residue times x. -/
def tmS (a : Int) : Int := if bitv .and .u16 a 32768 = 0 then IntKind.u16.wrap (a * 2) else bitv .xor .u16 (IntKind.u16.wrap (a * 2)) 4129
def rmS (h : Int) : Nat → Int
  | 0 => IntKind.u16.wrap (h * 4096)
  | k + 1 => tmS (rmS h k)
def tbL (k : Nat) : List Int := (List.range 16).map fun i => if i < k then rmS (i : Int) 4 else 0
/-- The remainders of all half bytes. -/
def tbC : List Int := [0, 4129, 8258, 12387, 16516, 20645, 24774, 28903, 33032, 37161, 41290, 45419, 49548, 53677, 57806, 61935]
theorem tb_eq : tbL 16 = tbC := by kernel_rfl
theorem tb_zero : tbL 0 = List.replicate 16 0 := by kernel_rfl
theorem tb_set {k : Nat} (h : k < 16) : (tbL k).set k (rmS (k : Int) 4) = tbL (k + 1) := by
  apply List.ext_getElem?
  intro i
  unfold tbL
  by_cases hi : i < 16
  · by_cases hk : k = i
    · subst hk
      rw [List.getElem?_set_self (by simp; omega), List.getElem?_map, List.getElem?_range hi]
      show _ = some (if k < k + 1 then _ else _)
      rw [if_pos (by omega)]
    · rw [List.getElem?_set_ne hk, List.getElem?_map, List.getElem?_map, List.getElem?_range hi]
      show some (if i < k then _ else _) = some (if i < k + 1 then _ else _)
      by_cases h1 : i < k
      · rw [if_pos h1, if_pos (by omega)]
      · rw [if_neg h1, if_neg (by omega)]
  · rw [List.getElem?_eq_none (by simp; omega), List.getElem?_eq_none (by simp; omega)]
theorem tb_len (k : Nat) : (tbL k).length = 16 := by simp [tbL]
/-- The check sum behind a half byte, behind a byte. -/
def hbS (s h : Int) : Int := bitv .xor .u16 (IntKind.u16.wrap (s * 16)) (tbC.getD (bitv .xor .u16 (s / 4096) h).toNat 0)
def byS (s : Int) (b : UInt8) : Int := hbS (hbS s ((b.toNat : Int) / 16)) (bitv .and .u8 b.toNat 15)
def crS (s : Int) (d : List UInt8) : Int := d.foldl byS s
theorem xr16 : ∀ a : Fin 16, ∀ b : Fin 16, 0 ≤ bitv .xor .u16 (a.val : Int) (b.val : Int) ∧ bitv .xor .u16 (a.val : Int) (b.val : Int) < 16 := by decide +kernel
theorem xr16' {a b : Int} (ha : 0 ≤ a ∧ a < 16) (hb : 0 ≤ b ∧ b < 16) : 0 ≤ bitv .xor .u16 a b ∧ bitv .xor .u16 a b < 16 := by
  have h := xr16 ⟨a.toNat, by omega⟩ ⟨b.toNat, by omega⟩
  dsimp only at h
  rw [Int.toNat_of_nonneg ha.1, Int.toNat_of_nonneg hb.1] at h
  exact h
theorem and15 : ∀ b : Fin 256, 0 ≤ bitv .and .u8 (b.val : Int) 15 ∧ bitv .and .u8 (b.val : Int) 15 < 16 := by decide +kernel
theorem u16_bd (z : Int) : 0 ≤ IntKind.u16.wrap z ∧ IntKind.u16.wrap z ≤ 65535 := by
  simp only [IntKind.wrap, IntKind.signed, IntKind.bits]
  simp
  omega
theorem hb_bd (s h : Int) : 0 ≤ hbS s h ∧ hbS s h ≤ 65535 := u16_bd _
theorem cr_bd : ∀ (d : List UInt8) (s : Int), 0 ≤ s ∧ s ≤ 65535 → 0 ≤ crS s d ∧ crS s d ≤ 65535
  | [], s, h => h
  | b :: d, s, _ => cr_bd d (byS s b) (hb_bd _ _)
theorem cr_snoc (d : List UInt8) (b : UInt8) (s : Int) : crS s (d ++ [b]) = byS (crS s d) b := by
  unfold crS
  rw [List.foldl_append]
  rfl
theorem ok_andK {P : Program} {ρ : Operand → Option Value} {m : Mem} {d : Option Tmp} {t : TypeId} {pp : String} {af : Array Edge} {g : Option (Nat × Bool)} {xt yt : TypeId} {x y : Operand} {k : IntKind} {a b v : Int} (hx : ρ x = some (.int k a)) (hy : ρ y = some (.int k b)) (hv : bitv .and k a b = v) : OpOK P ⟨d, .binOp .and xt x y yt, t, pp, af, g⟩ ρ m (.int k v) m := by
  subst hv
  exact ok_and hx hy
set_option maxHeartbeats 4000000 in
theorem ac_ctimes (a : Int) (v : Int) (hv : tmS a = v) : ACalls Tryz.prog 134 [.int .u16 a] [] (.int .u16 v) [] := by
  unfold tmS at hv
  obtain ⟨w, hw⟩ : ∃ w, IntKind.u16.wrap (a * 2) = w := ⟨_, rfl⟩
  obtain ⟨q, hq⟩ : ∃ q, bitv .and .u16 a 32768 = q := ⟨_, rfl⟩
  obtain ⟨x, hx⟩ : ∃ x, bitv .xor .u16 w 4129 = x := ⟨_, rfl⟩
  rw [hw, hq, hx] at hv
  by_cases h : q = 0
  · rw [if_pos h] at hv
    subst hv
    refine acalls_law Tryz.func134 rfl rfl rfl ?_
    repeat' first | refine st (h := ok_andK rfl rfl hq) ?_ | refine st (h := ok_shlK (c := 1) (M := 2) (by decide) (by decide) rfl rfl hw) ?_ | refine st ?_ | refine run_nil ?_ | refine Jz ?_ | refine Jw ?_ | refine Jt ?_ | refine Jy ?_ | refine aw_ret ?_ | refine pp_ret ?_
    all_goals first | rfl
  · rw [if_neg h] at hv
    subst hv
    refine acalls_law Tryz.func134 rfl rfl rfl ?_
    repeat' first | refine st (h := ok_andK rfl rfl hq) ?_ | refine st (h := ok_shlK (c := 1) (M := 2) (by decide) (by decide) rfl rfl hw) ?_ | refine st (h := ok_xorK rfl rfl hx) ?_ | refine st ?_ | refine run_nil ?_ | refine Jz ?_ | refine Jw ?_ | refine Js ?_ | refine aw_ret ?_ | refine pp_ret ?_
    all_goals first | rfl
structure Ci where
  i : Nat
set_option maxHeartbeats 4000000 in
theorem ac_cfill (h : Nat) (hh : h < 16) (T : List Int) (hT : T.length = 16) : ACalls Tryz.prog 133 [.int .i64 h, .pointer (some ⟨0, 0, none⟩)] [some ⟨T.map (Value.int .u16), true, 1⟩] (.tuple #[]) [some ⟨(T.set h (rmS h 4)).map (Value.int .u16), true, 1⟩] := by
  have hw : IntKind.u16.wrap ((h : Int) * 4096) = rmS h 0 := rfl
  refine acalls_of_aw Tryz.func133 rfl rfl ?_
  repeat' first | refine st (h := ok_shlK (c := 12) (M := 4096) (by decide) (by decide) rfl rfl hw) ?_ | refine st ?_ | refine run_nil ?_ | refine Jz ?_ | refine Jw ?_ | refine aw_block ?_
  refine aw_loopg
    (S := fun y : Ci => [(0, .int .i64 h), (1, .pointer (some ⟨0, 0, none⟩)), (3, .int .u16 (rmS h y.i)), (7, .int .i64 y.i)])
    (B := fun _ : Ci => [some ⟨T.map (Value.int .u16), true, 1⟩])
    (R := fun y : Ci => y.i ≤ 4)
    (μ := fun y : Ci => 4 - y.i) ⟨0⟩ (fitsD [0]) (Nat.zero_le _) ?_
  rintro ⟨i⟩ g1
  dsimp only at g1 ⊢
  by_cases hi : i < 4
  · have HT := ac_ctimes (rmS h i) (rmS h (i + 1)) rfl
    clear hw
    repeat' first | refine st ?_ | refine st_call (HT) ?_ | refine run_nil ?_ | refine Jz ?_ | refine Jw ?_ | refine aw_block ?_ | refine Js ?_ | refine Jy ?_
    all_goals first | exact Exists.intro ⟨i + 1⟩ ⟨fitsD [0], hi, by dsimp only; omega⟩
  · obtain rfl : i = 4 := by omega
    clear hw
    repeat' first | refine stm (h := ok_storeN (cs' := List.map (Value.int .u16) (T.set h (rmS h 4))) rfl rfl (ListR.refl _) rfl rfl rfl rfl (splice_map (f := Value.int .u16) (by omega) (by omega)) (by ((repeat constructor); first | done | fail)) rfl) ?_ | refine st ?_ | refine run_nil ?_ | refine Jz ?_ | refine Jw ?_ | refine Jr ?_ | refine aw_exit ?_
    all_goals first | exact pm_normal _ (renumD [0]) rfl
set_option maxHeartbeats 4000000 in
theorem ac_crem : ACalls Tryz.prog 120 [] [] (.agg ⟨tbC.map (Value.int .u16)⟩) [] := by
  refine acalls_law Tryz.func120 rfl rfl rfl ?_
  repeat' first | refine st ?_ | refine st (h := ok_makeFunc (by ((repeat (apply ArgsR.cons; rfl)); exact ArgsR.nil)) (by ((repeat (apply ArgsR.cons; rfl)); exact ArgsR.nil))) ?_ | refine stm ?_ | refine run_nil ?_ | refine Jz ?_ | refine Jw ?_ | refine aw_block ?_
  refine aw_loopg
    (S := fun y : Ci => [(0, .pointer (some ⟨0, 0, none⟩)), (1, .pointer (some ⟨1, 0, none⟩)), (2, .func (.func 133) #[] #[.pointer (some ⟨1, 0, none⟩)]), (5, .int .i64 y.i)])
    (B := fun y : Ci => [some ⟨[.int .u16 0, .int .u16 0, .int .u16 0, .int .u16 0, .int .u16 0, .int .u16 0, .int .u16 0, .int .u16 0, .int .u16 0, .int .u16 0, .int .u16 0, .int .u16 0, .int .u16 0, .int .u16 0, .int .u16 0, .int .u16 0], true, 1⟩, some ⟨(tbL y.i).map (Value.int .u16), true, 1⟩])
    (R := fun y : Ci => y.i ≤ 16)
    (μ := fun y : Ci => 16 - y.i) ⟨0⟩ (fitsD [0, 1]) (Nat.zero_le _) ?_
  rintro ⟨i⟩ g1
  dsimp only at g1 ⊢
  by_cases hi : i < 16
  · have HF := ac_cfill i hi (tbL i) (tb_len i)
    rw [tb_set hi] at HF
    repeat' first | refine st ?_ | refine stMW [1] HF ?_ | refine run_nil ?_ | refine Jz ?_ | refine Jw ?_ | refine aw_block ?_ | refine Js ?_ | refine Jy ?_
    all_goals first | exact Exists.intro ⟨i + 1⟩ ⟨fitsD [0, 1], hi, by dsimp only; omega⟩
  · obtain rfl : i = 16 := by omega
    rw [tb_eq]
    repeat' first | refine st ?_ | refine stm ?_ | refine run_nil ?_ | refine Jz ?_ | refine Jw ?_ | refine Jr ?_ | refine aw_exit ?_ | refine aw_ret ?_ | refine pp_ret ?_
    all_goals first | rfl
set_option maxHeartbeats 16000000 in
theorem ac_cupd (s : Int) (hs : 0 ≤ s ∧ s ≤ 65535) (d : ByteArray) (hd : d.size ≤ 1000000) : ACalls Tryz.prog 108 [.int .u16 s, .string d] [] (.int .u16 (crS s d.data.toList)) [] := by
  have HR := ac_crem
  have hdl : d.data.toList.length = d.size := by rw [Array.length_toList]; rfl
  refine acalls_law Tryz.func108 rfl rfl rfl ?_
  repeat' first | refine st ?_ | refine st_call (HR) ?_ | refine stm ?_ | refine run_nil ?_ | refine Jz ?_ | refine Jw ?_ | refine aw_block ?_
  clear HR
  refine aw_loopg
    (S := fun y : Ci => [(0, .int .u16 (crS s (d.data.toList.take y.i))), (1, .string d), (5, .pointer (some ⟨0, 0, none⟩)), (9, .int .i64 d.size), (10, .int .i64 y.i)])
    (B := fun _ : Ci => [some ⟨tbC.map (Value.int .u16), true, 1⟩])
    (R := fun y : Ci => y.i ≤ d.size)
    (μ := fun y : Ci => d.size - y.i) ⟨0⟩ (fitsD [0]) (Nat.zero_le _) ?_
  rintro ⟨i⟩ g1
  dsimp only at g1 ⊢
  by_cases hi : i < d.size
  · obtain ⟨b, hb⟩ : ∃ b, d.data.toList[i]? = some b := ⟨_, List.getElem?_eq_getElem (by omega)⟩
    have hst : crS s (d.data.toList.take (i + 1)) = byS (crS s (d.data.toList.take i)) b := by
      rw [List.take_add_one, hb]
      exact cr_snoc _ _ _
    have hc0 := cr_bd (d.data.toList.take i) s hs
    obtain ⟨c, hc⟩ : ∃ c, crS s (d.data.toList.take i) = c := ⟨_, rfl⟩
    rw [hc] at hc0 hst
    obtain ⟨v, hv⟩ : ∃ v : Nat, b.toNat = v := ⟨_, rfl⟩
    have hvb : v < 256 := by rw [← hv]; exact b.toNat_lt
    have hvx : (byteAt d i).toNat = v := by
      unfold byteAt
      rw [List.getD_eq_getElem?_getD, hb]
      exact hv
    obtain ⟨x3, hx3⟩ : ∃ x, (v : Int) / 16 = x := ⟨_, rfl⟩
    obtain ⟨z3, hz3⟩ : ∃ x, bitv .and .u8 (v : Int) 15 = x := ⟨_, rfl⟩
    have hz3b := and15 ⟨v, hvb⟩
    dsimp only at hz3b
    rw [hz3] at hz3b
    obtain ⟨ap1, a1⟩ : ∃ x, IntKind.u16.wrap (c * 16) = x := ⟨_, rfl⟩
    obtain ⟨ap2, a2⟩ : ∃ x, c / 4096 = x := ⟨_, rfl⟩
    obtain ⟨ap4, a4⟩ : ∃ x, bitv .xor .u16 ap2 x3 = x := ⟨_, rfl⟩
    have ab := xr16' (a := ap2) (b := x3) (by omega) (by omega)
    rw [a4] at ab
    obtain ⟨ap5, a5⟩ : ∃ x, tbC[ap4.toNat]? = some x := ⟨_, List.getElem?_eq_getElem (by have : tbC.length = 16 := rfl; omega)⟩
    obtain ⟨ap6, a6⟩ : ∃ x, bitv .xor .u16 ap1 ap5 = x := ⟨_, rfl⟩
    have ar : hbS c x3 = ap6 := by
      unfold hbS
      rw [a1, a2, a4, List.getD_eq_getElem?_getD, a5]
      exact a6
    have ac := hb_bd c x3
    rw [ar] at ac
    have hst2 : byS c b = hbS ap6 z3 := by
      unfold byS
      rw [hv, hx3, ar, hz3]
    obtain ⟨bp1, b1⟩ : ∃ x, IntKind.u16.wrap (ap6 * 16) = x := ⟨_, rfl⟩
    obtain ⟨bp2, b2⟩ : ∃ x, ap6 / 4096 = x := ⟨_, rfl⟩
    obtain ⟨bp4, b4⟩ : ∃ x, bitv .xor .u16 bp2 z3 = x := ⟨_, rfl⟩
    have bb := xr16' (a := bp2) (b := z3) (by omega) (by omega)
    rw [b4] at bb
    obtain ⟨bp5, b5⟩ : ∃ x, tbC[bp4.toNat]? = some x := ⟨_, List.getElem?_eq_getElem (by have : tbC.length = 16 := rfl; omega)⟩
    obtain ⟨bp6, b6⟩ : ∃ x, bitv .xor .u16 bp1 bp5 = x := ⟨_, rfl⟩
    have br : hbS ap6 z3 = bp6 := by
      unfold hbS
      rw [b1, b2, b4, List.getD_eq_getElem?_getD, b5]
      exact b6
    have bc := hb_bd ap6 z3
    rw [br] at bc
    rw [hst2, br] at hst
    rw [hc]
    clear hc hst2 ar br hb hv
    repeat' first | refine st (h := ok_str_indexD rfl rfl (by omega) hvx) ?_ | refine st (h := ok_shrK (c := 4) (M := 16) (by decide) (by decide) rfl rfl hx3) ?_ | refine st (h := ok_andK rfl rfl hz3) ?_ | refine st (h := ok_shlK (c := 4) (M := 16) (by decide) (by decide) rfl rfl a1) ?_ | refine st (h := ok_shrK (c := 12) (M := 4096) (by decide) (by decide) rfl rfl a2) ?_ | refine st (h := ok_xorK rfl rfl a4) ?_ | refine st (h := ok_load_mapE (f := Value.int .u16) ap4.toNat a5 rfl rfl rfl (by omega)) ?_ | refine st (h := ok_xorK rfl rfl a6) ?_ | refine st (h := ok_shlK (c := 4) (M := 16) (by decide) (by decide) rfl rfl b1) ?_ | refine st (h := ok_shrK (c := 12) (M := 4096) (by decide) (by decide) rfl rfl b2) ?_ | refine st (h := ok_xorK rfl rfl b4) ?_ | refine st (h := ok_load_mapE (f := Value.int .u16) bp4.toNat b5 rfl rfl rfl (by omega)) ?_ | refine st (h := ok_xorK rfl rfl b6) ?_ | refine st ?_ | refine run_nil ?_ | refine Jz ?_ | refine Jw ?_ | refine aw_block ?_ | refine Js ?_ | refine Jy ?_
    all_goals first | exact Exists.intro ⟨i + 1⟩ ⟨(by dsimp only; rw [hst]; exact fitsD [0]), hi, by dsimp only; omega⟩
  · obtain rfl : i = d.size := by omega
    rw [List.take_of_length_le (by omega)]
    repeat' first | refine st ?_ | refine run_nil ?_ | refine Jz ?_ | refine Jw ?_ | refine Jt ?_ | refine aw_exit ?_ | refine aw_ret ?_ | refine pp_ret ?_
    all_goals first | rfl
theorem ac_csum (d : ByteArray) (hd : d.size ≤ 1000000) (s : Int) (hs : crS 0 d.data.toList = s) : ACalls Tryz.prog 90 [.string d] [] (.int .u16 s) [] := by
  have H := ac_cupd 0 (by decide) d hd
  rw [hs] at H
  clear hs
  refine acalls_law Tryz.func90 rfl rfl rfl ?_
  repeat' first | refine st ?_ | refine st_call (H) ?_ | refine run_nil ?_ | refine Jz ?_ | refine Jw ?_ | refine aw_ret ?_ | refine pp_ret ?_
  all_goals first | rfl
set_option maxHeartbeats 4000000 in
theorem ac_cprot (d T : ByteArray) (hd : d.size ≤ 1000000) (s : Int) (hs : crS 0 d.data.toList = s) (A B : UInt8) (hA : s / 256 = (A.toNat : Int)) (hB : IntKind.u8.wrap s = (B.toNat : Int)) (hT : d ++ ⟨#[A, B]⟩ = T) : ACalls Tryz.prog 58 [.string d] [] (.string T) [] := by
  have H := ac_csum d hd s hs
  have hA2 := A.toNat_lt
  have hB2 := B.toNat_lt
  have hTs : T.size ≤ 9223372036854775807 := by
    rw [← hT, ByteArray.size_append]
    have : (⟨#[A, B]⟩ : ByteArray).size = 2 := rfl
    omega
  clear hs
  refine acalls_law Tryz.func58 rfl rfl rfl ?_
  repeat' first | refine st (h := ok_shrK (c := 8) (M := 256) (by decide) (by decide) rfl rfl hA) ?_ | refine st (v := .int .u8 (B.toNat : Int)) (h := by (rw [← hB]; exact ok_conv rfl)) ?_ | refine st (v := .string ⟨#[A, B]⟩) (h := ok_bytes_str (l := [A, B]) rfl rfl (Nat.le_of_ble_eq_true rfl) rfl) ?_ | refine st (h := ok_str_addD rfl rfl hT hTs) ?_ | refine st ?_ | refine st_call (H) ?_ | refine stm ?_ | refine run_nil ?_ | refine Jz ?_ | refine Jw ?_ | refine aw_ret ?_ | refine pp_ret ?_
  all_goals first | rfl
end Go.Proofs.YtdenooeaiicheaaGreat
