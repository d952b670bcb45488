/- CellmsgBent returns true of every input: if bytes of a message are cut off or appended, nothing is read; if a bit is another one, nothing or another message is read.
   Conditions: none. -/
import Derived.Test.YtjamfmnlhiolkaaLZ
import Derived.Test.YtjamfmnlhiolkaaK1
import Derived.Test.YtjamfmnlhiolkaaG3
import Derived.Test.YtjamfmnlhiolkaaH5
import Derived.Test.YtjamfmnlhiolkaaJ
import Derived.Test.YtjamfmnlhiolkaaRows
set_option linter.unusedVariables false
set_option linter.unusedSimpArgs false
namespace Go.Proofs.Ytjamfmnlhiolkaa
open Go Av
set_option maxRecDepth 20000
theorem ok_bytes_strE {P : Program} {ρ : Operand → Option Value} {m : Mem} {d : Option Tmp} {t : TypeId} {pp : String} {af : Array Edge} {g : Option (Nat × Bool)} {src dst : TypeId} {x : Operand} {id o n c : Nat} {e : TypeId} {B : Blk} {l : List UInt8} {z : ByteArray} (hz : (⟨l.toArray⟩ : ByteArray) = z) [Ty P src (.slice e)] [Ty P e (.int .u8)] [Ty P dst .string] (hx : ρ x = some (.slice (some ⟨id, o, none⟩) n c)) (hB : live m id = some B) (hfit : o + n ≤ B.cells.length) (hl : (B.cells.drop o).take n = l.map u8v) (hmz : Nat.beq B.z mapZ = false) :
    OpOK P ⟨d, .convert src dst x, t, pp, af, g⟩ ρ m (.string z) m := hz ▸ ok_bytes_str hx hB hfit hl hmz
theorem bit_flip (a : UInt8) (j : Int) (h0 : 0 ≤ j) (h8 : j < 8) : ∃ c : UInt8, bitv .xor .u8 (a.toNat : Int) (IntKind.u8.wrap (1 * 2 ^ (min j.toNat IntKind.u8.bits))) = (c.toNat : Int) ∧ c ≠ a := by
  have key : ∀ a : Fin 256, ∀ j : Fin 8, 0 ≤ bitv .xor .u8 (a.val : Int) (IntKind.u8.wrap (1 * 2 ^ (min j.val IntKind.u8.bits))) ∧ bitv .xor .u8 (a.val : Int) (IntKind.u8.wrap (1 * 2 ^ (min j.val IntKind.u8.bits))) < 256 ∧ bitv .xor .u8 (a.val : Int) (IntKind.u8.wrap (1 * 2 ^ (min j.val IntKind.u8.bits))) ≠ (a.val : Int) := by decide +kernel
  have k := key ⟨a.toNat, a.toNat_lt⟩ ⟨j.toNat, by omega⟩
  dsimp only at k
  generalize bitv .xor .u8 (a.toNat : Int) (IntKind.u8.wrap (1 * 2 ^ (min j.toNat IntKind.u8.bits))) = v at k
  obtain ⟨k0, k1, k2⟩ := k
  have e : (UInt8.ofNat v.toNat).toNat = v.toNat := by
    rw [UInt8.toNat_ofNat']
    exact Nat.mod_eq_of_lt (by omega)
  refine ⟨UInt8.ofNat v.toNat, by omega, fun h => k2 ?_⟩
  rw [← h, e]
  omega
theorem ok_xorE {P : Program} {ρ : Operand → Option Value} {m : Mem} {d : Option Tmp} {t : TypeId} {pp : String} {af : Array Edge} {g : Option (Nat × Bool)} {xt x y yt k a b} {c : Int} (hc : bitv .xor k a b = c) (hx : ρ x = some (.int k a)) (hy : ρ y = some (.int k b)) : OpOK P ⟨d, .binOp .xor xt x y yt, t, pp, af, g⟩ ρ m (.int k c) m := hc ▸ ok_xor hx hy
/-- Bytes that are cut off, are not read. -/
theorem dec_cut {m : MsgT} (h : chkM m = 0) (k : Nat) (hk : k < (encM m).size) : decP ((encM m).extract 0 k) = (msg0, 10) := by
  rcases decP_cases ((encM m).extract 0 k) with h1 | ⟨m', h1, h2, h3⟩
  · exact h1
  · exfalso
    have e : encM m = encM m' ++ (encM m).extract k (encM m).size := by
      rw [h3]
      apply ByteArray.ext
      apply Array.ext'
      have hs : (encM m).size = (encM m).data.toList.length := by rw [Array.length_toList]; rfl
      rw [ByteArray.data_append, ByteArray.data_extract, ByteArray.data_extract, Array.toList_append, Array.toList_extract, Array.toList_extract]
      simp only [List.extract_eq_take_drop, List.drop_zero, Nat.sub_zero]
      rw [List.take_of_length_le (l := (encM m).data.toList.drop k) (by rw [List.length_drop]; omega), List.take_append_drop]
    have h4 := (enc_prefix h2 h _ e).2
    rw [ByteArray.size_extract] at h4
    omega
/-- Bytes that are appended: nothing is read. -/
theorem dec_more {m : MsgT} (h : chkM m = 0) (t : ByteArray) (ht : t.size ≠ 0) : decP (encM m ++ t) = (msg0, 10) := by
  rcases decP_cases (encM m ++ t) with h1 | ⟨m', h1, h2, h3⟩
  · exact h1
  · exact absurd (enc_prefix h h2 t h3).2 ht
theorem ba_size0 {t : ByteArray} (h : t.size = 0) : t = ⟨#[]⟩ := by
  apply ByteArray.ext
  exact Array.eq_empty_of_size_eq_zero h
theorem set_ne {w : ByteArray} {i : Nat} {c : UInt8} (hi : i < w.data.toList.length) (h : c ≠ w.data.toList[i]) : (⟨(w.data.toList.set i c).toArray⟩ : ByteArray) ≠ w := fun e => by
  have := congrArg (fun z : ByteArray => z.data.toList[i]?) e
  simp only [] at this
  rw [List.getElem?_set_self hi, List.getElem?_eq_getElem hi] at this
  exact h (Option.some.inj this)
set_option maxHeartbeats 16000000 in
theorem law_bent (k n c cnt : Int) (r : Bool) (S O : List Sp) (at_ : Int) (ha : 0 ≤ at_ ∧ at_ ≤ 255) (more : ByteArray) : ACalls Try.prog 10 [.agg #[.int .i64 k, .bool r, .int .i64 n, .int .i64 c, .int .i64 cnt, .slice (some ⟨0, 0, none⟩) S.length S.length, .slice (some ⟨1, 0, none⟩) O.length O.length], .int .u8 at_, .string more] [some ⟨S.flatMap spC, false, 2⟩, some ⟨O.flatMap spC, false, 2⟩] (.bool true) [none, none] := by
  obtain ⟨s, hs⟩ : ∃ s, S.length = s := ⟨_, rfl⟩
  obtain ⟨o, ho⟩ : ∃ o, O.length = o := ⟨_, rfl⟩
  rw [hs, ho]
  have HF := ac_few k n c cnt r s o
  by_cases hf : s ≤ 12 ∧ o ≤ 12
  · rw [decide_eq_true hf] at HF
    obtain ⟨y, hy⟩ : ∃ y, chk k n c cnt r S O = y := ⟨_, rfl⟩
    by_cases hy0 : y = 0
    · subst hy0
      by_cases hm : more.size ≤ 20
      · have H1 := ac_encode0 k n c cnt r S O s o hs ho hy
        have hsz := enc_size (m := (k, r, n, c, cnt, S, O)) hy
        have hcut := fun q => dec_cut (m := (k, r, n, c, cnt, S, O)) hy q
        have hmore := dec_more (m := (k, r, n, c, cnt, S, O)) hy more
        have hdec := decP_enc (m := (k, r, n, c, cnt, S, O)) hy
        have hinj : ∀ d, d ≠ encM (k, r, n, c, cnt, S, O) → ∀ k3 r3 n3 c3 cnt3 S3 O3, pkB (msgB k3 n3 c3 cnt3 r3 S3 O3) = d → sameM (k3, r3, n3, c3, cnt3, S3, O3) (k, r, n, c, cnt, S, O) = false := fun d hd k3 r3 n3 c3 cnt3 S3 O3 e => by
          cases hq : sameM (k3, r3, n3, c3, cnt3, S3, O3) (k, r, n, c, cnt, S, O)
          · rfl
          · have := sameM_iff.1 hq
            simp only [Prod.mk.injEq] at this
            obtain ⟨rfl, rfl, rfl, rfl, rfl, rfl, rfl⟩ := this
            exact absurd e.symm hd
        rw [encM_eq] at hsz hcut hmore hdec hinj
        have hne : pkB (msgB k n c cnt r S O) ≠ ⟨#[]⟩ := fun h => by rw [h] at hsz; exact absurd hsz.1 (by decide)
        generalize pkB (msgB k n c cnt r S O) = w at H1 hsz hcut hmore hdec hinj hne
        obtain ⟨hs0, hs32⟩ := hsz
        have hat : 0 ≤ at_ % (w.size : Int) ∧ at_ % (w.size : Int) < w.size := ⟨Int.emod_nonneg _ (by omega), Int.emod_lt_of_pos _ (by omega)⟩
        have H2 := ac_decode (w.extract 0 (at_ % (w.size : Int)).toNat) (by rw [ByteArray.size_extract]; omega) _ 10 0 0 (hcut _ (by omega)) rfl rfl
        have hi8 : 0 ≤ at_ / 8 % (w.size : Int) ∧ at_ / 8 % (w.size : Int) < w.size := ⟨Int.emod_nonneg _ (by omega), Int.emod_lt_of_pos _ (by omega)⟩
        obtain ⟨i, hi⟩ : ∃ i : Nat, at_ / 8 % (w.size : Int) = i := ⟨(at_ / 8 % (w.size : Int)).toNat, by omega⟩
        have hil : i < w.data.toList.length := by rw [Array.length_toList]; show i < w.size; omega
        obtain ⟨c1, hc1, hc2⟩ := bit_flip w.data.toList[i] (at_ % 8) (by omega) (by omega)
        have hd3 := set_ne hil hc2
        have hsz3 : (⟨(w.data.toList.set i c1).toArray⟩ : ByteArray).size = w.size := by
          show (w.data.toList.set i c1).toArray.size = w.data.size
          simp
        obtain ⟨d3, hd3e⟩ : ∃ d, (⟨(w.data.toList.set i c1).toArray⟩ : ByteArray) = d := ⟨_, rfl⟩
        rw [hd3e] at hd3 hsz3
        obtain ⟨k3, r3, n3, c3, cnt3, S3, O3, x3, hres3, b3, b4, hx3⟩ := dec_back d3
        obtain ⟨s3, hs3⟩ : ∃ s, S3.length = s := ⟨_, rfl⟩
        obtain ⟨o3, ho3⟩ : ∃ o, O3.length = o := ⟨_, rfl⟩
        have H4 := ac_decode d3 (by omega) _ x3 s3 o3 hres3 hs3 ho3
        have H5 : x3 = 10 ∨ (x3 = 0 ∧ ACalls Try.prog 23 [.agg #[.int .i64 k3, .bool r3, .int .i64 n3, .int .i64 c3, .int .i64 cnt3, .slice (some ⟨0, 0, none⟩) s3 s3, .slice (some ⟨1, 0, none⟩) o3 o3], .agg #[.int .i64 k, .bool r, .int .i64 n, .int .i64 c, .int .i64 cnt, .slice (some ⟨2, 0, none⟩) s s, .slice (some ⟨3, 0, none⟩) o o]] [some ⟨S3.flatMap spC, false, 2⟩, some ⟨O3.flatMap spC, false, 2⟩, some ⟨S.flatMap spC, false, 2⟩, some ⟨O.flatMap spC, false, 2⟩] (.bool false) [none, none, none, none]) := by
          rcases hx3 with h | ⟨h, g1, g2⟩
          · exact .inl h
          · exact .inr ⟨h, ac_same k3 n3 c3 cnt3 k n c cnt r3 r S3 O3 S O s3 o3 s o hs3 ho3 hs ho (by omega) (by omega) (by omega) (by omega) false (hinj d3 hd3 _ _ _ _ _ _ _ g2)⟩
        clear hinj hres3 hx3 hcut
        dsimp only at H4
        dsimp only [msg0] at H2
        have hgd : w.data.toList.getD i 0 = w.data.toList[i] := by rw [List.getD_eq_getElem?_getD, List.getElem?_eq_getElem hil]; rfl
        by_cases hm0 : more.size = 0
        · have e0 := ba_size0 hm0
          subst e0
          have H3 := ac_decode (w ++ ⟨#[]⟩) (by rw [ByteArray.size_append]; omega) (k, r, n, c, cnt, S, O) 0 s o (by rw [show w ++ (⟨#[]⟩ : ByteArray) = w from ba_nil w]; exact hdec) hs ho
          dsimp only at H3
          clear hmore hdec
          rcases H5 with rfl | ⟨rfl, H5⟩
          · refine acalls_law Try.func10 rfl rfl rfl ?_
            repeat' first
              | refine st (h := ok_str_eqlT rfl rfl) ?_
              | refine st (h := ok_str_neqF rfl rfl) ?_
              | refine st (h := ok_load_map (f := u8v) (l := w.data.toList) (j := i) rfl rfl rfl (by simp only [Nat.zero_add, Nat.mul_one]; omega) hil rfl) ?_
              | refine st (h := ok_xorE (c := (c1.toNat : Int)) (by rw [← hc1]; show bitv .xor .u8 (((w.data.toList.getD i default).toNat : Int)) _ = _; exact congrArg (fun z : UInt8 => bitv .xor .u8 (z.toNat : Int) _) hgd) rfl rfl) ?_
              | refine stm (h := ok_storeN (cs' := (w.data.toList.set i c1).map u8v) rfl rfl (ListR.refl _) rfl rfl rfl rfl (splice_map (f := u8v) (by simp only [Nat.zero_add, Nat.mul_one]; omega) hil) (by ((repeat constructor); first | done | fail)) rfl) ?_
              | refine st (h := ok_bytes_strE hd3e (l := w.data.toList.set i c1) rfl rfl (by simp) (take_full (by simp only [List.length_map, List.length_set, Array.length_toList]; rfl)) rfl) ?_
              | refine st (h := ok_str_add rfl rfl (by omega)) ?_
              | refine stm (h := ok_str_bytes rfl (by ((repeat constructor); first | done | fail))) ?_
              | refine st ?_
              | refine st_call (ac_awake) ?_
              | refine stRW [0, 1] HF ?_
              | refine stRW [0, 1] H1 ?_
              | refine stMW [] H2 ?_
              | refine stMW [] H3 ?_
              | refine stMW [] H4 ?_
              | refine stRW [10, 11, 0, 1] H5 ?_
              | refine stm ?_
              | refine run_want rfl rfl ?_
              | refine run_unwant rfl rfl ?_
              | refine run_undef rfl rfl ?_
              | refine run_guard1t rfl rfl (by omega) ?_
              | refine run_guard1f rfl rfl (by omega) ?_
              | refine run_guard0t rfl rfl (by omega) ?_
              | refine run_guard0f rfl rfl (by omega) ?_
              | refine run_guard1 rfl rfl (fun h1 => ?_) (fun h1 => ?_)
              | refine run_guard0 rfl rfl (fun h1 => ?_) (fun h1 => ?_)
              | refine run_guard rfl rfl (fun h1 => ?_) (fun h1 => ?_)
              | refine run_nil ?_
              | refine aw_seq ?_
              | refine aw_region (by kernel_rfl) (Nat.le_of_ble_eq_true rfl) ?_
              | refine aw_block ?_
              | refine aw_cond_t rfl ?_
              | refine aw_cond_f rfl ?_
              | refine aw_cond_tp rfl (by omega) ?_
              | refine aw_cond_fp rfl (by omega) ?_
              | refine aw_cond1 rfl (fun h1 => ?_) (fun h1 => ?_)
              | refine aw_cond rfl (fun h1 => ?_) (fun h1 => ?_)
              | refine aw_skip ?_
              | refine aw_exit ?_
              | refine aw_ret ?_
              | refine pp_ret ?_
              | refine pp_normal ?_
            all_goals first
              | rfl
              | (exfalso; omega)
              | (simp [retOf]; done)
              | (exfalso; simp_all; done)
          · refine acalls_law Try.func10 rfl rfl rfl ?_
            repeat' first
              | refine st (h := ok_str_eqlT rfl rfl) ?_
              | refine st (h := ok_str_neqF rfl rfl) ?_
              | refine st (h := ok_load_map (f := u8v) (l := w.data.toList) (j := i) rfl rfl rfl (by simp only [Nat.zero_add, Nat.mul_one]; omega) hil rfl) ?_
              | refine st (h := ok_xorE (c := (c1.toNat : Int)) (by rw [← hc1]; show bitv .xor .u8 (((w.data.toList.getD i default).toNat : Int)) _ = _; exact congrArg (fun z : UInt8 => bitv .xor .u8 (z.toNat : Int) _) hgd) rfl rfl) ?_
              | refine stm (h := ok_storeN (cs' := (w.data.toList.set i c1).map u8v) rfl rfl (ListR.refl _) rfl rfl rfl rfl (splice_map (f := u8v) (by simp only [Nat.zero_add, Nat.mul_one]; omega) hil) (by ((repeat constructor); first | done | fail)) rfl) ?_
              | refine st (h := ok_bytes_strE hd3e (l := w.data.toList.set i c1) rfl rfl (by simp) (take_full (by simp only [List.length_map, List.length_set, Array.length_toList]; rfl)) rfl) ?_
              | refine st (h := ok_str_add rfl rfl (by omega)) ?_
              | refine stm (h := ok_str_bytes rfl (by ((repeat constructor); first | done | fail))) ?_
              | refine st ?_
              | refine st_call (ac_awake) ?_
              | refine stRW [0, 1] HF ?_
              | refine stRW [0, 1] H1 ?_
              | refine stMW [] H2 ?_
              | refine stMW [] H3 ?_
              | refine stMW [] H4 ?_
              | refine stRW [10, 11, 0, 1] H5 ?_
              | refine stm ?_
              | refine run_want rfl rfl ?_
              | refine run_unwant rfl rfl ?_
              | refine run_undef rfl rfl ?_
              | refine run_guard1t rfl rfl (by omega) ?_
              | refine run_guard1f rfl rfl (by omega) ?_
              | refine run_guard0t rfl rfl (by omega) ?_
              | refine run_guard0f rfl rfl (by omega) ?_
              | refine run_guard1 rfl rfl (fun h1 => ?_) (fun h1 => ?_)
              | refine run_guard0 rfl rfl (fun h1 => ?_) (fun h1 => ?_)
              | refine run_guard rfl rfl (fun h1 => ?_) (fun h1 => ?_)
              | refine run_nil ?_
              | refine aw_seq ?_
              | refine aw_region (by kernel_rfl) (Nat.le_of_ble_eq_true rfl) ?_
              | refine aw_block ?_
              | refine aw_cond_t rfl ?_
              | refine aw_cond_f rfl ?_
              | refine aw_cond_tp rfl (by omega) ?_
              | refine aw_cond_fp rfl (by omega) ?_
              | refine aw_cond1 rfl (fun h1 => ?_) (fun h1 => ?_)
              | refine aw_cond rfl (fun h1 => ?_) (fun h1 => ?_)
              | refine aw_skip ?_
              | refine aw_exit ?_
              | refine aw_ret ?_
              | refine pp_ret ?_
              | refine pp_normal ?_
            all_goals first
              | rfl
              | (exfalso; omega)
              | (simp [retOf]; done)
              | (exfalso; simp_all; done)
        · have H3 := ac_decode (w ++ more) (by rw [ByteArray.size_append]; omega) _ 10 0 0 (hmore hm0) rfl rfl
          dsimp only [msg0] at H3
          have hmne : more ≠ ⟨#[]⟩ := fun h => hm0 (by rw [h]; rfl)
          clear hmore hdec
          rcases H5 with rfl | ⟨rfl, H5⟩
          · refine acalls_law Try.func10 rfl rfl rfl ?_
            repeat' first
              | refine st (h := ok_str_eqlT rfl rfl) ?_
              | refine st (h := ok_str_neqF rfl rfl) ?_
              | refine st (h := ok_load_map (f := u8v) (l := w.data.toList) (j := i) rfl rfl rfl (by simp only [Nat.zero_add, Nat.mul_one]; omega) hil rfl) ?_
              | refine st (h := ok_xorE (c := (c1.toNat : Int)) (by rw [← hc1]; show bitv .xor .u8 (((w.data.toList.getD i default).toNat : Int)) _ = _; exact congrArg (fun z : UInt8 => bitv .xor .u8 (z.toNat : Int) _) hgd) rfl rfl) ?_
              | refine stm (h := ok_storeN (cs' := (w.data.toList.set i c1).map u8v) rfl rfl (ListR.refl _) rfl rfl rfl rfl (splice_map (f := u8v) (by simp only [Nat.zero_add, Nat.mul_one]; omega) hil) (by ((repeat constructor); first | done | fail)) rfl) ?_
              | refine st (h := ok_bytes_strE hd3e (l := w.data.toList.set i c1) rfl rfl (by simp) (take_full (by simp only [List.length_map, List.length_set, Array.length_toList]; rfl)) rfl) ?_
              | refine st (h := ok_str_add rfl rfl (by omega)) ?_
              | refine stm (h := ok_str_bytes rfl (by ((repeat constructor); first | done | fail))) ?_
              | refine st ?_
              | refine st_call (ac_awake) ?_
              | refine stRW [0, 1] HF ?_
              | refine stRW [0, 1] H1 ?_
              | refine stMW [] H2 ?_
              | refine stMW [] H3 ?_
              | refine stMW [] H4 ?_
              | refine stRW [10, 11, 0, 1] H5 ?_
              | refine stm ?_
              | refine run_want rfl rfl ?_
              | refine run_unwant rfl rfl ?_
              | refine run_undef rfl rfl ?_
              | refine run_guard1t rfl rfl (by omega) ?_
              | refine run_guard1f rfl rfl (by omega) ?_
              | refine run_guard0t rfl rfl (by omega) ?_
              | refine run_guard0f rfl rfl (by omega) ?_
              | refine run_guard1 rfl rfl (fun h1 => ?_) (fun h1 => ?_)
              | refine run_guard0 rfl rfl (fun h1 => ?_) (fun h1 => ?_)
              | refine run_guard rfl rfl (fun h1 => ?_) (fun h1 => ?_)
              | refine run_nil ?_
              | refine aw_seq ?_
              | refine aw_region (by kernel_rfl) (Nat.le_of_ble_eq_true rfl) ?_
              | refine aw_block ?_
              | refine aw_cond_t rfl ?_
              | refine aw_cond_f rfl ?_
              | refine aw_cond_tp rfl (by omega) ?_
              | refine aw_cond_fp rfl (by omega) ?_
              | refine aw_cond1 rfl (fun h1 => ?_) (fun h1 => ?_)
              | refine aw_cond rfl (fun h1 => ?_) (fun h1 => ?_)
              | refine aw_skip ?_
              | refine aw_exit ?_
              | refine aw_ret ?_
              | refine pp_ret ?_
              | refine pp_normal ?_
            all_goals first
              | rfl
              | (exfalso; omega)
              | (simp [retOf]; done)
              | (exfalso; simp_all; done)
          · refine acalls_law Try.func10 rfl rfl rfl ?_
            repeat' first
              | refine st (h := ok_str_eqlT rfl rfl) ?_
              | refine st (h := ok_str_neqF rfl rfl) ?_
              | refine st (h := ok_load_map (f := u8v) (l := w.data.toList) (j := i) rfl rfl rfl (by simp only [Nat.zero_add, Nat.mul_one]; omega) hil rfl) ?_
              | refine st (h := ok_xorE (c := (c1.toNat : Int)) (by rw [← hc1]; show bitv .xor .u8 (((w.data.toList.getD i default).toNat : Int)) _ = _; exact congrArg (fun z : UInt8 => bitv .xor .u8 (z.toNat : Int) _) hgd) rfl rfl) ?_
              | refine stm (h := ok_storeN (cs' := (w.data.toList.set i c1).map u8v) rfl rfl (ListR.refl _) rfl rfl rfl rfl (splice_map (f := u8v) (by simp only [Nat.zero_add, Nat.mul_one]; omega) hil) (by ((repeat constructor); first | done | fail)) rfl) ?_
              | refine st (h := ok_bytes_strE hd3e (l := w.data.toList.set i c1) rfl rfl (by simp) (take_full (by simp only [List.length_map, List.length_set, Array.length_toList]; rfl)) rfl) ?_
              | refine st (h := ok_str_add rfl rfl (by omega)) ?_
              | refine stm (h := ok_str_bytes rfl (by ((repeat constructor); first | done | fail))) ?_
              | refine st ?_
              | refine st_call (ac_awake) ?_
              | refine stRW [0, 1] HF ?_
              | refine stRW [0, 1] H1 ?_
              | refine stMW [] H2 ?_
              | refine stMW [] H3 ?_
              | refine stMW [] H4 ?_
              | refine stRW [10, 11, 0, 1] H5 ?_
              | refine stm ?_
              | refine run_want rfl rfl ?_
              | refine run_unwant rfl rfl ?_
              | refine run_undef rfl rfl ?_
              | refine run_guard1t rfl rfl (by omega) ?_
              | refine run_guard1f rfl rfl (by omega) ?_
              | refine run_guard0t rfl rfl (by omega) ?_
              | refine run_guard0f rfl rfl (by omega) ?_
              | refine run_guard1 rfl rfl (fun h1 => ?_) (fun h1 => ?_)
              | refine run_guard0 rfl rfl (fun h1 => ?_) (fun h1 => ?_)
              | refine run_guard rfl rfl (fun h1 => ?_) (fun h1 => ?_)
              | refine run_nil ?_
              | refine aw_seq ?_
              | refine aw_region (by kernel_rfl) (Nat.le_of_ble_eq_true rfl) ?_
              | refine aw_block ?_
              | refine aw_cond_t rfl ?_
              | refine aw_cond_f rfl ?_
              | refine aw_cond_tp rfl (by omega) ?_
              | refine aw_cond_fp rfl (by omega) ?_
              | refine aw_cond1 rfl (fun h1 => ?_) (fun h1 => ?_)
              | refine aw_cond rfl (fun h1 => ?_) (fun h1 => ?_)
              | refine aw_skip ?_
              | refine aw_exit ?_
              | refine aw_ret ?_
              | refine pp_ret ?_
              | refine pp_normal ?_
            all_goals first
              | rfl
              | (exfalso; omega)
              | (simp [retOf]; done)
              | (exfalso; simp_all; done)
      · have H1 := ac_encode0 k n c cnt r S O s o hs ho hy
        generalize pkB (msgB k n c cnt r S O) = w at H1
        refine acalls_law Try.func10 rfl rfl rfl ?_
        repeat' first
          | refine st ?_
          | refine st_call (ac_awake) ?_
          | refine stRW [0, 1] HF ?_
          | refine stRW [0, 1] H1 ?_
          | refine stm ?_
          | refine run_want rfl rfl ?_
          | refine run_unwant rfl rfl ?_
          | refine run_undef rfl rfl ?_
          | refine run_guard1t rfl rfl (by omega) ?_
          | refine run_guard1f rfl rfl (by omega) ?_
          | refine run_guard0t rfl rfl (by omega) ?_
          | refine run_guard0f rfl rfl (by omega) ?_
          | refine run_guard1 rfl rfl (fun h1 => ?_) (fun h1 => ?_)
          | refine run_guard0 rfl rfl (fun h1 => ?_) (fun h1 => ?_)
          | refine run_guard rfl rfl (fun h1 => ?_) (fun h1 => ?_)
          | refine run_nil ?_
          | refine aw_seq ?_
          | refine aw_region (by kernel_rfl) (Nat.le_of_ble_eq_true rfl) ?_
          | refine aw_block ?_
          | refine aw_cond_t rfl ?_
          | refine aw_cond_f rfl ?_
          | refine aw_cond_tp rfl (by omega) ?_
          | refine aw_cond_fp rfl (by omega) ?_
          | refine aw_cond1 rfl (fun h1 => ?_) (fun h1 => ?_)
          | refine aw_cond rfl (fun h1 => ?_) (fun h1 => ?_)
          | refine aw_skip ?_
          | refine aw_exit ?_
          | refine aw_ret ?_
          | refine pp_ret ?_
          | refine pp_normal ?_
        all_goals first
          | rfl
          | (exfalso; omega)
          | (simp [retOf]; done)
          | (exfalso; simp_all; done)
    · have H1 := ac_encodeE k n c cnt r S O s o hs ho y hy hy0
      refine acalls_law Try.func10 rfl rfl rfl ?_
      repeat' first
        | refine st ?_
        | refine st_call (ac_awake) ?_
        | refine stRW [0, 1] HF ?_
        | refine stRW [0, 1] H1 ?_
        | refine stm ?_
        | refine run_want rfl rfl ?_
        | refine run_unwant rfl rfl ?_
        | refine run_undef rfl rfl ?_
        | refine run_guard1t rfl rfl (by omega) ?_
        | refine run_guard1f rfl rfl (by omega) ?_
        | refine run_guard0t rfl rfl (by omega) ?_
        | refine run_guard0f rfl rfl (by omega) ?_
        | refine run_guard1 rfl rfl (fun h1 => ?_) (fun h1 => ?_)
        | refine run_guard0 rfl rfl (fun h1 => ?_) (fun h1 => ?_)
        | refine run_guard rfl rfl (fun h1 => ?_) (fun h1 => ?_)
        | refine run_nil ?_
        | refine aw_seq ?_
        | refine aw_region (by kernel_rfl) (Nat.le_of_ble_eq_true rfl) ?_
        | refine aw_block ?_
        | refine aw_cond_t rfl ?_
        | refine aw_cond_f rfl ?_
        | refine aw_cond_tp rfl (by omega) ?_
        | refine aw_cond_fp rfl (by omega) ?_
        | refine aw_cond1 rfl (fun h1 => ?_) (fun h1 => ?_)
        | refine aw_cond rfl (fun h1 => ?_) (fun h1 => ?_)
        | refine aw_skip ?_
        | refine aw_exit ?_
        | refine aw_ret ?_
        | refine pp_ret ?_
        | refine pp_normal ?_
      all_goals first
        | rfl
        | (exfalso; omega)
        | (simp [retOf]; done)
        | (exfalso; simp_all; done)
  · rw [decide_eq_false hf] at HF
    obtain ⟨y, hy⟩ : ∃ y, chk k n c cnt r S O = y := ⟨_, rfl⟩
    by_cases hy0 : y = 0
    · subst hy0
      have H1 := ac_encode0 k n c cnt r S O s o hs ho hy
      generalize pkB (msgB k n c cnt r S O) = w at H1
      refine acalls_law Try.func10 rfl rfl rfl ?_
      repeat' first
        | refine st ?_
        | refine st_call (ac_awake) ?_
        | refine stRW [0, 1] HF ?_
        | refine stRW [0, 1] H1 ?_
        | refine stm ?_
        | refine run_want rfl rfl ?_
        | refine run_unwant rfl rfl ?_
        | refine run_undef rfl rfl ?_
        | refine run_guard1t rfl rfl (by omega) ?_
        | refine run_guard1f rfl rfl (by omega) ?_
        | refine run_guard0t rfl rfl (by omega) ?_
        | refine run_guard0f rfl rfl (by omega) ?_
        | refine run_guard1 rfl rfl (fun h1 => ?_) (fun h1 => ?_)
        | refine run_guard0 rfl rfl (fun h1 => ?_) (fun h1 => ?_)
        | refine run_guard rfl rfl (fun h1 => ?_) (fun h1 => ?_)
        | refine run_nil ?_
        | refine aw_seq ?_
        | refine aw_region (by kernel_rfl) (Nat.le_of_ble_eq_true rfl) ?_
        | refine aw_block ?_
        | refine aw_cond_t rfl ?_
        | refine aw_cond_f rfl ?_
        | refine aw_cond_tp rfl (by omega) ?_
        | refine aw_cond_fp rfl (by omega) ?_
        | refine aw_cond1 rfl (fun h1 => ?_) (fun h1 => ?_)
        | refine aw_cond rfl (fun h1 => ?_) (fun h1 => ?_)
        | refine aw_skip ?_
        | refine aw_exit ?_
        | refine aw_ret ?_
        | refine pp_ret ?_
        | refine pp_normal ?_
      all_goals first
        | rfl
        | (exfalso; omega)
        | (simp [retOf]; done)
        | (exfalso; simp_all; done)
    · have H1 := ac_encodeE k n c cnt r S O s o hs ho y hy hy0
      refine acalls_law Try.func10 rfl rfl rfl ?_
      repeat' first
        | refine st ?_
        | refine st_call (ac_awake) ?_
        | refine stRW [0, 1] HF ?_
        | refine stRW [0, 1] H1 ?_
        | refine stm ?_
        | refine run_want rfl rfl ?_
        | refine run_unwant rfl rfl ?_
        | refine run_undef rfl rfl ?_
        | refine run_guard1t rfl rfl (by omega) ?_
        | refine run_guard1f rfl rfl (by omega) ?_
        | refine run_guard0t rfl rfl (by omega) ?_
        | refine run_guard0f rfl rfl (by omega) ?_
        | refine run_guard1 rfl rfl (fun h1 => ?_) (fun h1 => ?_)
        | refine run_guard0 rfl rfl (fun h1 => ?_) (fun h1 => ?_)
        | refine run_guard rfl rfl (fun h1 => ?_) (fun h1 => ?_)
        | refine run_nil ?_
        | refine aw_seq ?_
        | refine aw_region (by kernel_rfl) (Nat.le_of_ble_eq_true rfl) ?_
        | refine aw_block ?_
        | refine aw_cond_t rfl ?_
        | refine aw_cond_f rfl ?_
        | refine aw_cond_tp rfl (by omega) ?_
        | refine aw_cond_fp rfl (by omega) ?_
        | refine aw_cond1 rfl (fun h1 => ?_) (fun h1 => ?_)
        | refine aw_cond rfl (fun h1 => ?_) (fun h1 => ?_)
        | refine aw_skip ?_
        | refine aw_exit ?_
        | refine aw_ret ?_
        | refine pp_ret ?_
        | refine pp_normal ?_
      all_goals first
        | rfl
        | (exfalso; omega)
        | (simp [retOf]; done)
        | (exfalso; simp_all; done)
open Go.ChangeShapes Go.WideShapes Go.ChangeAt Go.RowKit
namespace cellmsgBent
theorem own : ownKnob Try.prog.godebug = none := by kernel_rfl
set_option maxRecDepth 100000 in
theorem lifted (os : Os) (started : os.Started) (H : Type) (enc : TypeId × Value → H) :
    ReturnsInHanded {} Try.checked os 10 .any (Rows.cellmsgBentSpec.pre6 enc Try.prog Try.f10 Rows.cellmsgBentRow.domain false) (Rows.cellmsgBentSpec.post enc Try.prog Try.f10 false true false false) := by
  refine returnsInHanded_of_change_sized (C := Try.checked) own started (by kernel_rfl) Try.func10
    (ChangeSpec.witness6 (enc := enc) (C := Try.checked) false ⟨#[], #[.agg #[.int .i64 0, .bool false, .int .i64 0, .int .i64 0, .int .i64 0, .slice none 0 0, .slice none 0 0], .int .u8 0, .string .empty], []⟩ 8 (by kernel_rfl) (by kernel_rfl) (by kernel_rfl) (by kernel_rfl)) ?_
  intro W base args ds gs before hval0 hW _ hsz _
  obtain ⟨p, q, hA0, hV, hbf, hfz, hnd⟩ := id hW
  have hA : DataW.TrodAll enc Try.prog W 0 (fun _ => true) true [24, 5, 9] args.toList ds p := hA0
  obtain ⟨a, hR, ls, hl, hv, hc⟩ := RdA.rd (P := Try.prog) hA fun j t v h1 h2 => hval0 j t v (by rw [← Array.getElem?_toList]; exact h1) (by rw [← Array.getElem?_toList]; exact h2)
  have hcall := calls_rd0 (P := Try.prog) (f := 10) (r := .bool true) (W := W) (by
    have e1 : IntKind.i64.min = -9223372036854775808 := rfl
    have e2 : IntKind.i64.max = 9223372036854775807 := rfl
    have e3 : IntKind.u8.min = 0 := rfl
    have e4 : IntKind.u8.max = 255 := rfl
    have h := hR.2.1
    rw [e3, e4] at h
    exact ⟨_, law_bent a.1.1 a.1.2.2.1 a.1.2.2.2.1 a.1.2.2.2.2.1 a.1.2.1 a.1.2.2.2.2.2.1 a.1.2.2.2.2.2.2.1 a.2.1 h a.2.2.1⟩) rfl hl (hv 0) hc
  obtain ⟨v0, vs0, d0, ds0, p0, q0, x0, rfl, y0, h0, r0⟩ := trodAll_cons hA
  obtain ⟨v1, vs1, d1, ds1, p1, q1, x1, rfl, y1, h1, r1⟩ := trodAll_cons r0
  obtain ⟨v2, vs2, d2, ds2, p2, q2, x2, rfl, y2, h2, r2⟩ := trodAll_cons r1
  obtain ⟨_, rfl, _⟩ := trodAll_nil r2
  exact hcall.mono fun e W' ⟨he, hb⟩ => ⟨_, he, law_post (tb := 4) (by kernel_rfl) (by kernel_rfl) rfl Try.underlying4 rfl rfl rfl rfl hW hb⟩
theorem over : Rows.cellmsgBentRow.holds Try.pinned (OpenSpec.ofChange Rows.cellmsgBentSpec) :=
  OpenClaim.holds_of_wide 10 Try.f10 rfl rfl rfl rfl rfl rfl rfl ⟨rfl, rfl, rfl, rfl, rfl⟩ rfl rfl rfl rfl rfl (by kernel_rfl) Try.func10 (by kernel_rfl)
    (of_decide_eq_true (by kernel_rfl)) (by unfold Func.isWrapper; first | (rw [if_pos (by decide +kernel)]; kernel_rfl) | (rw [if_neg (by decide +kernel)]; exact ⟨rfl, rfl⟩))
    (fun os started H enc _ => lifted os started H enc)
theorem proved : Rows.CellmsgBentSaid := over
#print axioms proved
end cellmsgBent
end Go.Proofs.Ytjamfmnlhiolkaa
