/- Bits: what stands there is read, what is read stood there; Join: bytes written and read (plain); Join: what is written is read, what is read is written; Join: lists behind requests (plain); Join: requests that are newer, repeated, older. -/
import Derived.Test.YtdbcbclapipgdaaGreatDoorVO
import Derived.Test.YtdbcbclapipgdaaGreatDoorJ
import Derived.Test.YtdbcbclapipgdaaGreatDoorC21
import Derived.Test.YtdbcbclapipgdaaGreatDoorC22
import Derived.Test.YtdbcbclapipgdaaGreatDoorC25
set_option linter.unusedVariables false
set_option linter.unusedSimpArgs false
namespace Go.Proofs.YtdbcbclapipgdaaGreatDoor
open Go Av
set_option maxRecDepth 20000
theorem dbits_get (d : ByteArray) (a n j : Nat) (h : j < n) : (dbits d a n).getD j 0 = bitD d (a + j) := by
  rw [List.getD_eq_getElem?_getD, dbits, List.getElem?_map, List.getElem?_range h]; rfl
/-- Numbers whose bits stand there are read. -/
theorem rdN_at {d : ByteArray} {bs xs ys : List Int} {w : Nat} {x : Int} (hd : dbits d 0 bs.length = bs) (h : bs = xs ++ bitsOf w x ++ ys) (hx : 0 ≤ x ∧ x < 2 ^ w) : rdN d xs.length w = x := by
  have hl := congrArg List.length h
  rw [List.length_append, List.length_append, bitsOf_len] at hl
  have := rdN_of d xs.length w x (fun j hj => by
    have e := dbits_get d 0 bs.length (xs.length + j) (by omega)
    rw [Nat.zero_add, hd] at e
    rw [← e, ← bitsOf_get w x j hj, h, List.getD_eq_getElem?_getD, List.getD_eq_getElem?_getD, List.append_assoc, List.getElem?_append_right (by omega), Nat.add_sub_cancel_left, List.getElem?_append_left (by rw [bitsOf_len]; exact hj)]) w (Nat.le_refl _)
  rw [this, Nat.sub_self, Int.emod_eq_of_lt hx.1 hx.2]
  simp
theorem uns_of {d : ByteArray} {bs xs ys : List Int} {w : Nat} {x : Int} {a a' : Nat} (hd : dbits d 0 bs.length = bs) (hl : bs.length ≤ 8 * d.size) (h : bs = xs ++ bitsOf w x ++ ys) (hw : 1 ≤ w ∧ w ≤ 63) (hx : 0 ≤ x ∧ x < 2 ^ w) (ha : a = xs.length) (ha' : a' = a + w) : unsR d a 0 w = (x, a', 0) := by
  have hll := congrArg List.length h
  rw [List.length_append, List.length_append, bitsOf_len] at hll
  subst ha ha'
  unfold unsR fieldR
  rw [if_neg (by simp), decide_eq_true (by omega), if_neg (by simp), if_neg (by omega)]
  rw [show ((w : Int)).toNat = w from rfl, rdN_at hd h hx]
theorem flg_of {d : ByteArray} {bs xs ys : List Int} {r : Bool} {a a' : Nat} (hd : dbits d 0 bs.length = bs) (hl : bs.length ≤ 8 * d.size) (h : bs = xs ++ bitsOf 1 (if r = true then 1 else 0) ++ ys) (ha : a = xs.length) (ha' : a' = a + 1) : flgR d a 0 = (r, a', 0) := by
  have hll := congrArg List.length h
  rw [List.length_append, List.length_append, bitsOf_len] at hll
  subst ha ha'
  unfold flgR fieldR
  rw [if_neg (by simp), if_neg (by simp), if_neg (by omega)]
  rw [show ((1 : Int)).toNat = 1 from rfl, rdN_at hd h (by cases r <;> simp)]
  cases r <;> rfl
theorem close_zero {d : ByteArray} {a : Nat} {e : Int} (ha : a ≤ 8 * d.size) : closeR d a e = 0 ↔ e = 0 ∧ 8 * d.size - a < 8 ∧ ∀ j, a ≤ j → j < 8 * d.size → bitD d j = 0 := by
  unfold closeR
  by_cases he : e = 0
  · subst he
    rw [if_neg (by simp)]
    by_cases h : 8 ≤ 8 * d.size - a ∨ rdN d a (8 * d.size - a) ≠ 0
    · rw [if_pos h]
      refine ⟨fun h => (by cases h), fun ⟨_, h1, h2⟩ => ?_⟩
      rcases h with h | h
      · omega
      · refine absurd ?_ h
        have := rdN_of d a (8 * d.size - a) 0 (fun j hj => by rw [h2 _ (by omega) (by omega)]; simp) _ (Nat.le_refl _)
        rw [this]
        simp
    · rw [if_neg h]
      refine ⟨fun _ => ⟨rfl, by omega, fun j h1 h2 => ?_⟩, fun _ => rfl⟩
      have h0 : rdN d a (8 * d.size - a) = 0 := Decidable.byContradiction fun h3 => h (.inr h3)
      have := rdN_get d a (8 * d.size - a) (j - a) (by omega)
      rw [h0, show a + (j - a) = j by omega] at this
      rw [← this]
      simp
  · rw [if_pos he]
    exact ⟨fun h => absurd h he, fun h => absurd h.1 he⟩
theorem dbits_pk (bs : List Int) (hb : ∀ b ∈ bs, b = 0 ∨ b = 1) : dbits (pkB bs) 0 bs.length = bs := by
  apply List.ext_getElem?
  intro j
  rcases Nat.lt_or_ge j bs.length with h | h
  · have e := pkB_bit bs hb j
    rw [if_pos h, List.getD_eq_getElem?_getD, List.getElem?_eq_getElem h] at e
    rw [dbits, List.getElem?_map, List.getElem?_range h, List.getElem?_eq_getElem h]
    simpa using e
  · rw [List.getElem?_eq_none (by rw [dbits_len]; exact h), List.getElem?_eq_none h]
theorem pk_le (bs : List Int) : bs.length ≤ 8 * (pkB bs).size := by rw [pkB_size]; omega
theorem close_pk (bs : List Int) (hb : ∀ b ∈ bs, b = 0 ∨ b = 1) : closeR (pkB bs) bs.length 0 = 0 := by
  rw [close_zero (pk_le bs)]
  refine ⟨rfl, by rw [pkB_size]; omega, fun j h1 _ => ?_⟩
  rw [pkB_bit bs hb, if_neg (by omega)]
def B01 (l : List Int) : Prop := ∀ b ∈ l, b = 0 ∨ b = 1
theorem fieldR_back (bs xs ys : List Int) (hb : B01 bs) (w : Nat) (x : Int) (h : bs = xs ++ bitsOf w x ++ ys) (hx : 0 ≤ x ∧ x < 2 ^ w) : fieldR (pkB bs) xs.length 0 true w = (x, xs.length + w, 0) := by
  have hl := congrArg List.length h
  rw [List.length_append, List.length_append, bitsOf_len] at hl
  have hs := pkB_size bs
  unfold fieldR
  rw [if_neg (by simp), if_neg (by simp), if_neg (by omega)]
  rw [show ((w : Int)).toNat = w from rfl, rdN_bits bs hb xs ys w x h, Int.emod_eq_of_lt hx.1 hx.2]
theorem rdB_back (bs xs ys : List Int) (hb : B01 bs) (s : ByteArray) (h : bs = xs ++ strBits s s.size ++ ys) : ∀ n, n ≤ s.size → rdB (pkB bs) xs.length n = (s.data.toList.take n).map fun b => (b.toNat : Int)
  | 0, _ => rfl
  | n + 1, hn => by
    have hsp : ∀ k i, i ≤ k → ∃ zs, strBits s k = strBits s i ++ zs := fun k => by
      induction k with
      | zero => intro i hi; obtain rfl : i = 0 := by omega
                exact ⟨[], rfl⟩
      | succ k ih =>
        intro i hi
        rcases Nat.lt_or_ge k i with h | h
        · obtain rfl : i = k + 1 := by omega
          exact ⟨[], by simp⟩
        · obtain ⟨zs, hz⟩ := ih i h
          exact ⟨zs ++ bitsOf 8 (byteAt s k).toNat, by rw [strBits, hz, List.append_assoc]⟩
    obtain ⟨zs, hz⟩ := hsp s.size (n + 1) hn
    rw [rdB, rdB_back bs xs ys hb s h n (by omega)]
    have hxl : (xs ++ strBits s n).length = xs.length + 8 * n := by rw [List.length_append, strBits_len]
    have := rdN_bits bs hb (xs ++ strBits s n) (zs ++ ys) 8 (byteAt s n).toNat (by rw [h, hz, strBits]; simp [List.append_assoc])
    rw [hxl] at this
    have hlt := (byteAt s n).toNat_lt
    rw [this, Int.emod_eq_of_lt (by omega) (by omega)]
    have hsl : s.data.toList.length = s.size := by rw [Array.length_toList]; rfl
    rw [List.take_add_one, List.map_append, List.getElem?_eq_getElem (by omega)]
    congr 1
    have e : byteAt s n = s.data.toList[n] := by unfold byteAt; rw [List.getD_eq_getElem?_getD, List.getElem?_eq_getElem (by omega)]; rfl
    rw [e]
    rfl
theorem pow_wdth (m : Int) (h : 1 ≤ m ∧ m ≤ 4095) (x : Int) (hx : 0 ≤ x ∧ x ≤ m) : x < 2 ^ (wdth m).toNat := by
  have h1 : wdth m = max 1 (bl m.toNat) := by unfold wdth; rw [if_neg (by omega)]
  have h2 := bl_pos m h.1
  have h3 := (bl_lt m (bl m.toNat) (by omega) (by omega)).1 (Int.le_refl _)
  rw [h1, show max 1 (bl m.toNat) = bl m.toNat by omega]
  omega
theorem txtR_back (bs xs ys : List Int) (hb : B01 bs) (m : Int) (s : ByteArray) (hm : 1 ≤ m ∧ m ≤ 4095) (hs : (s.size : Int) ≤ m) (h : bs = xs ++ bitsOf (wdth m).toNat s.size ++ strBits s s.size ++ ys) :
    txtR (pkB bs) xs.length 0 m = (s, xs.length + (wdth m).toNat + 8 * s.size, 0) := by
  have hw := wdth_bd m (by omega)
  have hl := congrArg List.length h
  rw [List.length_append, List.length_append, List.length_append, bitsOf_len, strBits_len] at hl
  have hsz := pkB_size bs
  have hf := fieldR_back bs xs (strBits s s.size ++ ys) hb (wdth m).toNat s.size (by rw [h]; simp [List.append_assoc]) ⟨by omega, pow_wdth m hm _ ⟨by omega, hs⟩⟩
  rw [show (((wdth m).toNat : Nat) : Int) = wdth m by omega] at hf
  have hd : decide (1 ≤ m ∧ m ≤ 4095) = true := decide_eq_true hm
  unfold txtR
  rw [hd, hf]
  dsimp only
  rw [if_neg (by simp), if_neg (by omega), if_neg (by omega)]
  have hxl : (xs ++ bitsOf (wdth m).toNat s.size).length = xs.length + (wdth m).toNat := by rw [List.length_append, bitsOf_len]
  have hB := rdB_back bs (xs ++ bitsOf (wdth m).toNat s.size) ys hb s h s.size (Nat.le_refl _)
  rw [hxl] at hB
  rw [show ((s.size : Nat) : Int).toNat = s.size from rfl, hB]
  have hsl : s.data.toList.length = s.size := by rw [Array.length_toList]; rfl
  rw [List.take_of_length_le (by omega), List.map_map]
  have e : s.data.toList.map (b8 ∘ fun b => (b.toNat : Int)) = s.data.toList := by
    conv => rhs; rw [← List.map_id s.data.toList]
    apply List.map_congr_left
    intro b _
    have hlt := b.toNat_lt
    apply UInt8.toNat_inj.1
    have := b8_toNat (z := (b.toNat : Int)) (by omega)
    show (b8 (b.toNat : Int)).toNat = (id b).toNat
    have : ((b8 (b.toNat : Int)).toNat : Int) = (b.toNat : Int) := this
    show _ = b.toNat
    omega
  rw [e]
theorem cdR_of {d : ByteArray} {bs xs ys : List Int} {cd : ByteArray} (hd : dbits d 0 bs.length = bs) (hl : bs.length ≤ 8 * d.size) (N : Nat) (h : bs = xs ++ strBits cd N ++ ys) : ∀ i, i ≤ N → cdR d xs.length 0 i = ((List.range i).map fun k => ((byteAt cd k).toNat : Int), xs.length + 8 * i, 0)
  | 0, _ => rfl
  | i + 1, hi => by
    have ih := cdR_of hd hl N h i (by omega)
    have hr := UInt8.toNat_lt (byteAt cd i)
    have hsp : ∀ n, i + 1 ≤ n → ∃ zs, strBits cd n = strBits cd i ++ bitsOf 8 ((byteAt cd i).toNat : Int) ++ zs := by
      intro n
      induction n with
      | zero => intro h; omega
      | succ n ih2 =>
        intro hn
        by_cases e : n = i
        · subst e
          exact ⟨[], by rw [List.append_nil]; rfl⟩
        · obtain ⟨zs, hz⟩ := ih2 (by omega)
          exact ⟨zs ++ bitsOf 8 ((byteAt cd n).toNat : Int), by show strBits cd n ++ _ = _; rw [hz, List.append_assoc]⟩
    obtain ⟨zs, hz⟩ := hsp N hi
    have e1 : bs = (xs ++ strBits cd i) ++ bitsOf 8 ((byteAt cd i).toNat : Int) ++ (zs ++ ys) := by rw [h, hz]; simp only [List.append_assoc]
    have hlen : (xs ++ strBits cd i).length = xs.length + 8 * i := by rw [List.length_append, strBits_len]
    have h1 := uns_of (w := 8) (a := xs.length + 8 * i) (a' := xs.length + 8 * (i + 1)) hd hl e1 (by decide) (by rw [show (2 : Int) ^ 8 = 256 from rfl]; omega) hlen.symm (by omega)
    have := cdR_succ ih h1
    rw [this, List.range_succ, List.map_append]
    rfl
theorem cd_id {cd : ByteArray} (h : cd.size = 8) : (⟨(((List.range 8).map fun k => ((byteAt cd k).toNat : Int)).map b8).toArray⟩ : ByteArray) = cd := by
  have hs : cd.data.size = 8 := h
  have : (((List.range 8).map fun k => ((byteAt cd k).toNat : Int)).map b8) = cd.data.toList := by
    apply List.ext_getElem
    · simp [hs]
    · intro i h1 h2
      have hi : i < 8 := by simpa using h1
      have h3 := byteAt_lt cd i (by omega)
      have h4 := UInt8.toNat_lt (byteAt cd i)
      simp only [List.getElem_map, List.getElem_range]
      rw [h3]
      have e : b8 ((cd[i].toNat : Nat) : Int) = cd[i] := by
        rw [h3] at h4
        unfold b8
        rw [show IntKind.u8.wrap ((cd[i].toNat : Nat) : Int) = (cd[i].toNat : Int) from wrap_id (by simp [IntKind.min, IntKind.signed]) (by simp [IntKind.max, IntKind.signed, IntKind.bits]; omega)]
        simp
      rw [e]
      rfl
  rw [this]
theorem jo_len (nm cd : ByteArray) (no : Int) (an : Bool) (nd : Int) (h1 : nm.size ≤ 32) : (pkB (joB nm no an nd cd)).size ≤ 100 := by
  rw [pkB_size]
  have b4 := strBits_len nm nm.size
  have b5 := strBits_len cd 8
  have e : (if an = true then bitsOf 5 nd else []).length ≤ 5 := by
    cases an
    · exact Nat.zero_le _
    · exact Nat.le_of_eq (bitsOf_len _ _)
  have : (joB nm no an nd cd).length ≤ 400 := by
    unfold joB
    simp only [List.length_append, bitsOf_len]
    omega
  omega
theorem wd32n : (wdth 32).toNat = 6 := by rw [wd32]; rfl
/-- A request that is written is read. -/
theorem jo_readA (nm cd : ByteArray) (no : Int) (h1 : nm.size ≤ 32) (h2 : 0 ≤ no ∧ no ≤ 2147483647) (h4 : cd.size = 8) : ACalls Tryz.prog 91 [.string (pkB (joB nm no false 0 cd))] [] (.tuple #[.agg #[.string nm, .int .i64 no, .int .i64 (-1), .string cd], .bool true]) [] := by
  have h01 : B01 (joB nm no false 0 cd) := joB_01 nm no false 0 cd
  have hd := dbits_pk _ (joB_01 nm no false 0 cd)
  have hl := pk_le (joB nm no false 0 cd)
  have hcl := close_pk _ (joB_01 nm no false 0 cd)
  have hsz := jo_len nm cd no false 0 h1
  have hbs : joB nm no false 0 cd = bitsOf 1 0 ++ (bitsOf 6 nm.size ++ (strBits nm nm.size ++ (bitsOf 31 no ++ strBits cd 8))) := by
    unfold joB
    rw [if_neg (show ¬ (false = true) by decide), if_neg (show ¬ (false = true) by decide)]
    simp only [List.append_assoc, List.append_nil, List.nil_append]
  have htx := txtR_back (joB nm no false 0 cd) (bitsOf 1 0) (bitsOf 31 no ++ strBits cd 8) h01 32 nm (by decide) (by omega) (by rw [hbs, wd32n]; simp only [List.append_assoc])
  generalize joB nm no false 0 cd = bs at *
  generalize pkB bs = d at *
  have b1 : (bitsOf 1 0).length = 1 := bitsOf_len _ _
  have b2 : (bitsOf 6 (nm.size : Int)).length = 6 := bitsOf_len _ _
  have b3 := strBits_len nm nm.size
  have b4 : (bitsOf 31 no).length = 31 := bitsOf_len _ _
  have b5 := strBits_len cd 8
  have g1 : flgR d 0 0 = (false, 1, 0) := flg_of (xs := []) hd hl (by rw [hbs]; rfl) rfl rfl
  have g2 : txtR d 1 0 32 = (nm, 7 + 8 * nm.size, 0) := by
    rw [b1, wd32n] at htx
    exact htx
  have g3 : unsR d (7 + 8 * nm.size) 0 31 = (no, 38 + 8 * nm.size, 0) := uns_of (w := 31) (xs := bitsOf 1 0 ++ bitsOf 6 nm.size ++ strBits nm nm.size) hd hl (by rw [hbs]; simp only [List.append_assoc]; first | done | rfl) (by decide) (by rw [show (2 : Int) ^ 31 = 2147483648 from rfl]; omega) (by simp only [List.length_append]; omega) (by omega)
  have g4 := cdR_of (cd := cd) (xs := bitsOf 1 0 ++ bitsOf 6 nm.size ++ strBits nm nm.size ++ bitsOf 31 no) (ys := []) hd hl 8 (by rw [hbs]; simp only [List.append_assoc, List.append_nil]) 8 (Nat.le_refl _)
  have hxl : (bitsOf 1 0 ++ bitsOf 6 nm.size ++ strBits nm nm.size ++ bitsOf 31 no).length = 38 + 8 * nm.size := by simp only [List.length_append]; omega
  rw [hxl] at g4
  have hbl : bs.length = 38 + 8 * nm.size + 8 * 8 := by
    rw [hbs]
    simp only [List.length_append]
    omega
  rw [hbl] at hcl
  have h := ac_jdecA d (by omega) _ _ _ _ _ _ _ _ _ _ _ _ g1 g2 g3 g4 hcl
  rw [cd_id h4, decide_eq_true rfl] at h
  exact h
/-- An answer that is written is read. -/
theorem jo_readB (nm cd : ByteArray) (no nd : Int) (h1 : nm.size ≤ 32) (h2 : 0 ≤ no ∧ no ≤ 2147483647) (h3 : 0 ≤ nd ∧ nd ≤ 31) (h4 : cd.size = 8) : ACalls Tryz.prog 91 [.string (pkB (joB nm no true nd cd))] [] (.tuple #[.agg #[.string nm, .int .i64 no, .int .i64 nd, .string cd], .bool true]) [] := by
  have h01 : B01 (joB nm no true nd cd) := joB_01 nm no true nd cd
  have hd := dbits_pk _ (joB_01 nm no true nd cd)
  have hl := pk_le (joB nm no true nd cd)
  have hcl := close_pk _ (joB_01 nm no true nd cd)
  have hsz := jo_len nm cd no true nd h1
  have hbs : joB nm no true nd cd = bitsOf 1 1 ++ (bitsOf 6 nm.size ++ (strBits nm nm.size ++ (bitsOf 31 no ++ (bitsOf 5 nd ++ strBits cd 8)))) := by
    unfold joB
    rw [if_pos (show true = true from rfl), if_pos (show true = true from rfl)]
    simp only [List.append_assoc]
  have htx := txtR_back (joB nm no true nd cd) (bitsOf 1 1) (bitsOf 31 no ++ (bitsOf 5 nd ++ strBits cd 8)) h01 32 nm (by decide) (by omega) (by rw [hbs, wd32n]; simp only [List.append_assoc])
  generalize joB nm no true nd cd = bs at *
  generalize pkB bs = d at *
  have b1 : (bitsOf 1 1).length = 1 := bitsOf_len _ _
  have b2 : (bitsOf 6 (nm.size : Int)).length = 6 := bitsOf_len _ _
  have b3 := strBits_len nm nm.size
  have b4 : (bitsOf 31 no).length = 31 := bitsOf_len _ _
  have b6 : (bitsOf 5 nd).length = 5 := bitsOf_len _ _
  have b5 := strBits_len cd 8
  have g1 : flgR d 0 0 = (true, 1, 0) := flg_of (xs := []) hd hl (by rw [hbs]; rfl) rfl rfl
  have g2 : txtR d 1 0 32 = (nm, 7 + 8 * nm.size, 0) := by
    rw [b1, wd32n] at htx
    exact htx
  have g3 : unsR d (7 + 8 * nm.size) 0 31 = (no, 38 + 8 * nm.size, 0) := uns_of (w := 31) (xs := bitsOf 1 1 ++ bitsOf 6 nm.size ++ strBits nm nm.size) hd hl (by rw [hbs]; simp only [List.append_assoc]; first | done | rfl) (by decide) (by rw [show (2 : Int) ^ 31 = 2147483648 from rfl]; omega) (by simp only [List.length_append]; omega) (by omega)
  have g5 : unsR d (38 + 8 * nm.size) 0 5 = (nd, 43 + 8 * nm.size, 0) := uns_of (w := 5) (xs := bitsOf 1 1 ++ bitsOf 6 nm.size ++ strBits nm nm.size ++ bitsOf 31 no) hd hl (by rw [hbs]; simp only [List.append_assoc]; first | done | rfl) (by decide) (by rw [show (2 : Int) ^ 5 = 32 from rfl]; omega) (by simp only [List.length_append]; omega) (by omega)
  have g4 := cdR_of (cd := cd) (xs := bitsOf 1 1 ++ bitsOf 6 nm.size ++ strBits nm nm.size ++ bitsOf 31 no ++ bitsOf 5 nd) (ys := []) hd hl 8 (by rw [hbs]; simp only [List.append_assoc, List.append_nil]) 8 (Nat.le_refl _)
  have hxl : (bitsOf 1 1 ++ bitsOf 6 nm.size ++ strBits nm nm.size ++ bitsOf 31 no ++ bitsOf 5 nd).length = 43 + 8 * nm.size := by simp only [List.length_append]; omega
  rw [hxl] at g4
  have hbl : bs.length = 43 + 8 * nm.size + 8 * 8 := by
    rw [hbs]
    simp only [List.length_append]
    omega
  rw [hbl] at hcl
  have h := ac_jdecB d (by omega) _ _ _ _ _ _ _ _ _ _ _ _ _ _ _ g1 g2 g3 g5 g4 hcl
  rw [cd_id h4, decide_eq_true rfl] at h
  exact h
/-- A list of members is right if each of them is. -/
theorem gdN_all {L : List Mb} : ∀ {n : Nat}, (∀ (i : Nat) (m : Mb), i < n → L[i]? = some m → gdB L i m = true) → gdN L n = true
  | 0, _ => rfl
  | n + 1, h => by
    have ih := gdN_all (n := n) fun i m hi => h i m (by omega)
    show (gdN L n && _) = true
    rw [ih]
    cases hq : L[n]? with
    | none => rfl
    | some m => exact h n m (by omega) hq
theorem mm_all {L : List Mb} (h : ∀ (i : Nat) (m : Mb), L[i]? = some m → gdB L i m = true) : mmB L = true := gdN_all fun i m _ => h i m
theorem mm_at {L : List Mb} (h : mmB L = true) {i : Nat} {m : Mb} (hq : L[i]? = some m) : gdB L i m = true := gdN_at h (List.getElem?_eq_some_iff.1 hq).1 hq
theorem gdB_iff {L : List Mb} {i : Nat} {m : Mb} : gdB L i m = true ↔ mb1 m = true ∧ (i = 0 ∨ ltS (nmAt L (i - 1)) m.nm = true) ∧ (m.nd = -1 ∨ tkB L i m.nd = false) := by
  unfold gdB
  rw [Bool.and_eq_true, Bool.and_eq_true, Bool.or_eq_true, Bool.or_eq_true, decide_eq_true_iff, decide_eq_true_iff, Bool.not_eq_true']
theorem tkB_false {L : List Mb} {i : Nat} {x : Int} : tkB L i x = false ↔ ∀ k, k < i → ndA L k ≠ x := by
  rw [← Bool.not_eq_true, tkB_true]
  exact ⟨fun h k hk e => h ⟨k, hk, e⟩, fun h ⟨k, hk, e⟩ => h k hk e⟩
theorem ndA_set {L : List Mb} {i : Nat} {m : Mb} (hi : i < L.length) (k : Nat) : ndA (L.set i m) k = if k = i then m.nd else ndA L k := by
  unfold ndA
  by_cases h : k = i
  · subst h; rw [List.getElem?_set_self hi, if_pos rfl]
  · rw [List.getElem?_set_ne (Ne.symm h), if_neg h]
theorem nmAt_set {L : List Mb} {i : Nat} {m a : Mb} (ha : L[i]? = some a) (e : m.nm = a.nm) (k : Nat) : nmAt (L.set i m) k = nmAt L k := by
  unfold nmAt
  by_cases h : k = i
  · subst h; rw [List.getElem?_set_self (List.getElem?_eq_some_iff.1 ha).1, ha]; exact e
  · rw [List.getElem?_set_ne (Ne.symm h)]
/-- A right list stays right if a member gets a number that nobody has, or keeps its own. -/
theorem mm_set {L : List Mb} (g : mmB L = true) {i : Nat} {nm sec : ByteArray} {nd nq d no : Int} (hq : L[i]? = some ⟨nm, sec, nd, nq⟩) (hd : 1 ≤ d ∧ d ≤ 31) (hno : 1 ≤ no ∧ no ≤ 2147483647) (hf : nd = d ∨ tkB L L.length d = false) : mmB (L.set i ⟨nm, sec, d, no⟩) = true := by
  have hi := (List.getElem?_eq_some_iff.1 hq).1
  obtain ⟨b1, b2, b3⟩ := gdB_iff.1 (mm_at g hq)
  have b1' := mb1_t b1
  dsimp only at b1' b2 b3
  refine mm_all fun j q hj => ?_
  rw [gdB_iff, nmAt_set (m := ⟨nm, sec, d, no⟩) hq rfl]
  have hjl : j < L.length := by
    have := (List.getElem?_eq_some_iff.1 hj).1
    rwa [List.length_set] at this
  by_cases h : j = i
  · subst h
    rw [List.getElem?_set_self hi] at hj
    cases hj
    refine ⟨?_, b2, .inr (tkB_false.2 fun k hk => ?_)⟩
    · unfold mb1
      rw [b1'.1, b1'.2.1, decide_eq_true (by dsimp only; omega)]
      rfl
    · dsimp only
      rw [ndA_set hi, if_neg (by omega)]
      rcases hf with h1 | h1
      · subst h1
        exact tkB_false.1 (b3.resolve_left (by omega)) k hk
      · exact tkB_false.1 h1 k (by omega)
  · rw [List.getElem?_set_ne (Ne.symm h)] at hj
    obtain ⟨c1, c2, c3⟩ := gdB_iff.1 (mm_at g hj)
    refine ⟨c1, c2, ?_⟩
    rcases c3 with c3 | c3
    · exact .inl c3
    refine .inr (tkB_false.2 fun k hk => ?_)
    rw [ndA_set hi]
    by_cases hki : k = i
    · rw [if_pos hki]
      dsimp only
      rcases hf with h1 | h1
      · have := tkB_false.1 c3 k hk
        rw [hki, ndA_at hq] at this
        dsimp only at this
        rw [← h1]
        exact this
      · have := tkB_false.1 h1 j hjl
        rw [ndA_at hj] at this
        exact Ne.symm this
    · rw [if_neg hki]
      exact tkB_false.1 c3 k hk
/-- As many numbers as there are in a list. -/
theorem len_ge : ∀ (k : Nat) (l : List Int), (∀ j : Nat, 1 ≤ j → j ≤ k → (j : Int) ∈ l) → k ≤ l.length
  | 0, _, _ => Nat.zero_le _
  | k + 1, l, h => by
    have h1 := h (k + 1) (by omega) (by omega)
    have ih := len_ge k (l.erase ((k + 1 : Nat) : Int)) fun j h2 h3 => (List.mem_erase_of_ne (by omega)).2 (h j h2 (by omega))
    rw [List.length_erase_of_mem h1] at ih
    have : 0 < l.length := List.length_pos_of_mem h1
    omega
/-- In a short list a number is free. -/
theorem fr_short {L : List Mb} (h : L.length ≤ 30) : 1 ≤ frN L ∧ frN L ≤ 31 := by
  rcases frN_bd L with h1 | h1
  · exfalso
    unfold frN at h1
    by_cases h2 : fdx (fun k : Nat => !tkB L L.length ((k : Int) + 1)) (List.range 31) < 0
    · have := len_ge 31 (L.map Mb.nd) fun j k1 k2 => by
        have h3 : ¬ 0 ≤ fdx (fun k : Nat => !tkB L L.length ((k : Int) + 1)) (List.range 31) := by omega
        rw [fdx_pos] at h3
        cases ht : tkB L L.length (j : Int) with
        | true =>
          obtain ⟨k, hk, e⟩ := tkB_true.1 ht
          obtain ⟨m, hm⟩ : ∃ m, L[k]? = some m := ⟨_, List.getElem?_eq_getElem hk⟩
          rw [ndA_at hm] at e
          exact List.mem_map.2 ⟨m, List.mem_of_getElem? hm, e⟩
        | false =>
          refine absurd ⟨j - 1, List.mem_range.2 (by omega), ?_⟩ h3
          have e : ((j - 1 : Nat) : Int) + 1 = (j : Int) := by omega
          rw [e, ht]
          rfl
      rw [List.length_map] at this
      omega
    · rw [if_neg h2] at h1
      omega
  · exact h1
/-- A member more, whose name is greater than all names. -/
theorem mm_app {L : List Mb} (g : mmB L = true) {nm sec : ByteArray} (hn : nmB nm = true) (hs : scB sec = true) (hl : ∀ (k : Nat) (q : Mb), L[k]? = some q → ltS q.nm nm = true) : mmB (L ++ [⟨nm, sec, -1, 0⟩]) = true := by
  have e1 : ∀ k, k < L.length → (L ++ [⟨nm, sec, -1, 0⟩])[k]? = L[k]? := fun k hk => List.getElem?_append_left hk
  refine mm_all fun j q hj => gdB_iff.2 ?_
  have hjl : j < L.length + 1 := by
    have := (List.getElem?_eq_some_iff.1 hj).1
    rwa [List.length_append] at this
  rcases Nat.lt_or_ge j L.length with h | h
  · rw [e1 j h] at hj
    obtain ⟨c1, c2, c3⟩ := gdB_iff.1 (mm_at g hj)
    refine ⟨c1, ?_, ?_⟩
    · unfold nmAt at c2 ⊢
      rw [e1 (j - 1) (by omega)]
      exact c2
    · rcases c3 with c3 | c3
      · exact .inl c3
      refine .inr (tkB_false.2 fun k hk => ?_)
      have := tkB_false.1 c3 k hk
      unfold ndA at this ⊢
      rw [e1 k (by omega)]
      exact this
  · obtain rfl : j = L.length := by omega
    rw [List.getElem?_concat_length] at hj
    cases hj
    refine ⟨?_, ?_, .inl rfl⟩
    · unfold mb1
      rw [hn, hs]
      rfl
    · by_cases h0 : L.length = 0
      · exact .inl h0
      obtain ⟨q, hq⟩ : ∃ q, L[L.length - 1]? = some q := ⟨_, List.getElem?_eq_getElem (by omega)⟩
      right
      unfold nmAt
      rw [e1 _ (by omega), hq]
      exact hl _ _ hq
theorem set_same {α : Type} {l : List α} {i : Nat} {x : α} (h : l[i]? = some x) : l.set i x = l := by
  apply List.ext_getElem?
  intro k
  by_cases hk : i = k
  · subst hk; rw [List.getElem?_set_self (List.getElem?_eq_some_iff.1 h).1, h]
  · rw [List.getElem?_set_ne hk]
theorem adm_ak {L : List Mb} {i : Nat} {nm sec : ByteArray} {nd nq no : Int} (g : mmB L = true) (hq : L[i]? = some ⟨nm, sec, nd, nq⟩) (h1 : 1 ≤ no ∧ no ≤ 2147483647) : akB nm no (acS sec nm no) = true := by
  have m1 := mb1_t (and_t (mm_at g hq)).1
  unfold akB
  rw [m1.1, decide_eq_true ⟨h1, acS_size _ _ _⟩]
  rfl
/-- A request that is newer, or the last one repeated. -/
theorem adm_go (L : List Mb) (n : Nat) (hn : L.length = n) (hb : n ≤ 30) (i : Nat) (nm sec : ByteArray) (nd nq no : Int) (g : mmB L = true) (hq : L[i]? = some ⟨nm, sec, nd, nq⟩) (h : nq < no ∨ (nq = no ∧ nd ≠ -1)) (h1 : 1 ≤ no ∧ no ≤ 2147483647) : ∃ d : Int, (1 ≤ d ∧ d ≤ 31) ∧ (nd = -1 ∨ nd = d) ∧ mmB (L.set i ⟨nm, sec, d, no⟩) = true ∧ ACalls Tryz.prog 19 [.slice (some ⟨0, 0, none⟩) n n, .agg #[.string nm, .int .i64 no, .string (acS sec nm no)]] [some ⟨L.flatMap mbC, false, 4⟩] (.tuple #[.slice (some ⟨1, 0, none⟩) n n, .agg #[.string nm, .int .i64 no, .int .i64 d, .string (nsS sec nm no d)], .int .i64 0]) [none, some ⟨(L.set i ⟨nm, sec, d, no⟩).flatMap mbC, true, 4⟩] := by
  have m1 := mb1_t (and_t (mm_at g hq)).1
  dsimp only at m1
  have hk := adm_ak g hq h1
  have hix := ix_at g hq rfl
  by_cases hd : nd = -1
  · have hf := fr_short (L := L) (by omega)
    obtain ⟨f, hfe⟩ : ∃ f, frN L = f := ⟨_, rfl⟩
    rw [hfe] at hf
    have hnew := frN_new (L := L) (by omega)
    rw [hfe] at hnew
    exact ⟨f, hf, .inl hd, mm_set g hq hf h1 (.inr hnew), ja_oka L n hn (by omega) nm _ no g hk i hix nm sec nd nq hq rfl (by omega) (by omega) hd f hfe hf⟩
  · have hr : 1 ≤ nd ∧ nd ≤ 31 := by omega
    exact ⟨nd, hr, .inr rfl, mm_set g hq hr h1 (.inl rfl), ja_okb L n hn (by omega) nm _ no g hk i hix nm sec nd nq hq rfl (by omega) (by omega) hd⟩
end Go.Proofs.YtdbcbclapipgdaaGreatDoor
