/- Bits: the reader; Bits: the reader's end, the reference's reader; Bits: packed bytes; Bits: writers without an error; Lists of numbers, hopping lists: plain; Lists of numbers, searched; Hopping lists: their channels. -/
import Derived.Test.YtdbcbclapipgdaaGreatDoorVO
import Derived.Test.YtdbcbclapipgdaaGreatDoorJ
import Derived.Test.YtdbcbclapipgdaaGreatDoorC6
set_option linter.unusedVariables false
set_option linter.unusedSimpArgs false
namespace Go.Proofs.YtdbcbclapipgdaaGreatDoor
open Go Av
set_option maxRecDepth 20000
set_option maxHeartbeats 2000000 in
theorem ac_txtR (m e e' : Int) (t : ByteArray) (a a' : Nat) (d : ByteArray) (hst : txtR d a e m = (t, a', e')) (ha : a ≤ 8 * d.size) (hd : d.size ≤ 1000000) (hm : -9223372036854775808 ≤ m ∧ m ≤ 9223372036854775807) :
    ACalls Tryz.prog 132 [.pointer (some ⟨0, 0, none⟩), .int .i64 m] [some ⟨[.string d, .int .i64 (a : Int), .int .i64 e], true, 1⟩] (.string t) [some ⟨[.string d, .int .i64 (a' : Int), .int .i64 e'], true, 1⟩] := by
  unfold txtR at hst
  have HW := ac_width m hm
  obtain ⟨v, a1, e1, hf⟩ : ∃ v a1 e1, fieldR d a e (decide (1 ≤ m ∧ m ≤ 4095)) (wdth m) = (v, a1, e1) := ⟨_, _, _, rfl⟩
  rw [hf] at hst
  dsimp only at hst
  have hwd : 1 ≤ m → 1 ≤ wdth m ∧ wdth m ≤ 63 := fun h => wdth_bd m (by omega)
  have hv := fieldR_bd hf (by simp; omega)
  have HF := ac_fieldR _ _ e e1 v a a1 d hf ha hd (by simp; omega)
  have hcs := fieldR_cases hf
  by_cases he1 : e1 = 0
  · rw [if_neg (by simpa using he1)] at hst
    obtain ⟨c1, c2, c3, c4, c5, c6⟩ : e1 = 0 ∧ e = 0 ∧ decide (1 ≤ m ∧ m ≤ 4095) = true ∧ a1 = a + (wdth m).toNat ∧ v = rdN d a (wdth m).toNat ∧ wdth m ≤ 8 * d.size - a := by
      rcases hcs with h | h
      · exact absurd he1 h.1
      · exact h
    have c3 := of_decide_eq_true c3
    have hwd := hwd c3.1
    subst e1
    have HL := ac_left a1 d (by omega) hd
    by_cases h2 : m < v
    · rw [if_pos h2] at hst
      simp only [Prod.mk.injEq] at hst
      obtain ⟨rfl, rfl, rfl⟩ := hst
      have HX := ac_rfail a1 0 2 d
      refine acalls_of_aw Tryz.func132 rfl rfl ?_
      repeat' first | intro h1 | refine st ?_ | refine st_call (ac_limit m) ?_ | refine st_call (HW) ?_ | refine stMW [0] HF ?_ | refine stMW [0] HX ?_ | refine st (h := ok_makeFunc (by ((repeat (apply ArgsR.cons; rfl)); exact ArgsR.nil)) (by ((repeat (apply ArgsR.cons; rfl)); exact ArgsR.nil))) ?_ | refine stm ?_ | refine Ja ?_ | refine Jb ?_ | refine Jc ?_ | refine Jd ?_ | refine Je ?_ | refine Jf ?_ | refine Jg ?_ | refine Jh ?_ ?_ | refine Ji ?_ ?_ | refine Jj ?_ ?_ | refine run_nil ?_ | refine Jz ?_ | refine Jw ?_ | refine aw_block ?_ | refine Jq ?_ | refine Jr ?_ | refine Js ?_ | refine Jt ?_ | refine Ju ?_ ?_ | refine Jv ?_ ?_ | refine Jy ?_ | refine aw_exit ?_ | refine aw_ret ?_ | refine pp_ret ?_ | refine pp_normal ?_
      all_goals first | exact pm_ret _ (renumD [0]) rfl | (exfalso; omega)
    · rw [if_neg h2] at hst
      by_cases h3 : (8 * d.size : Int) - a1 < 8 * v
      · rw [if_pos h3] at hst
        simp only [Prod.mk.injEq] at hst
        obtain ⟨rfl, rfl, rfl⟩ := hst
        have HX := ac_rfail a1 0 9 d
        refine acalls_of_aw Tryz.func132 rfl rfl ?_
        repeat' first | intro h1 | refine st ?_ | refine st_call (ac_limit m) ?_ | refine st_call (HW) ?_ | refine stMW [0] HF ?_ | refine stRW [0] HL ?_ | refine stMW [0] HX ?_ | refine st (h := ok_makeFunc (by ((repeat (apply ArgsR.cons; rfl)); exact ArgsR.nil)) (by ((repeat (apply ArgsR.cons; rfl)); exact ArgsR.nil))) ?_ | refine stm ?_ | refine Ja ?_ | refine Jb ?_ | refine Jc ?_ | refine Jd ?_ | refine Je ?_ | refine Jf ?_ | refine Jg ?_ | refine Jh ?_ ?_ | refine Ji ?_ ?_ | refine Jj ?_ ?_ | refine run_nil ?_ | refine Jz ?_ | refine Jw ?_ | refine aw_block ?_ | refine Jq ?_ | refine Jr ?_ | refine Js ?_ | refine Jt ?_ | refine Ju ?_ ?_ | refine Jv ?_ ?_ | refine Jy ?_ | refine aw_exit ?_ | refine aw_ret ?_ | refine pp_ret ?_ | refine pp_normal ?_
        all_goals first | exact pm_ret _ (renumD [0]) rfl | (exfalso; omega)
      · rw [if_neg h3] at hst
        simp only [Prod.mk.injEq] at hst
        obtain ⟨ht, ha', rfl⟩ := hst
        obtain ⟨N, hN⟩ : ∃ N, v.toNat = N := ⟨_, rfl⟩
        rw [hN] at ht ha'
        clear c5 hf hcs
        refine acalls_of_aw Tryz.func132 rfl rfl ?_
        repeat' first | intro h1 | refine st ?_ | refine st_call (ac_limit m) ?_ | refine st_call (HW) ?_ | refine stMW [0] HF ?_ | refine stRW [0] HL ?_ | refine st (h := ok_makeFunc (by ((repeat (apply ArgsR.cons; rfl)); exact ArgsR.nil)) (by ((repeat (apply ArgsR.cons; rfl)); exact ArgsR.nil))) ?_ | refine stm ?_ | refine Ja ?_ | refine Jb ?_ | refine Jc ?_ | refine Jd ?_ | refine Je ?_ | refine Jf ?_ | refine Jg ?_ | refine Jh ?_ ?_ | refine Ji ?_ ?_ | refine Jj ?_ ?_ | refine run_nil ?_ | refine Jz ?_ | refine Jw ?_ | refine aw_block ?_ | refine Jq ?_ | refine Jr ?_ | refine Js ?_ | refine Jt ?_ | refine Ju ?_ ?_ | refine Jv ?_ ?_ | refine Jy ?_ | refine aw_exit ?_ | refine aw_ret ?_ | refine pp_ret ?_ | refine pp_normal ?_
        rw [hN]
        refine aw_loopg
          (S := fun y : Xg => [(6, .func (.func 149) #[.pointer (some ⟨0, 0, none⟩)] #[]), (7, .slice (some ⟨1, 0, none⟩) N N), (41, .int .i64 N), (42, .int .i64 y.i)])
          (B := fun y : Xg => [some ⟨[.string d, .int .i64 ((a1 + 8 * y.i : Nat) : Int), .int .i64 0], true, 1⟩, some ⟨List.map (Value.int .u8) y.Z, true, 1⟩])
          (R := fun y : Xg => y.i ≤ N ∧ y.Z = rdB d a1 y.i ++ List.replicate (N - y.i) 0)
          (μ := fun y : Xg => N - y.i) ⟨0, List.replicate N 0⟩ (fitsD [0, 1] (h4 := .blk rfl (WkL.refl _) rfl (.blk rfl (.ofEq (by refine Eq.trans ?_ (renL_map (fun _ => rfl) _).symm; rw [List.map_replicate])) rfl .nil))) ⟨Nat.zero_le _, rfl⟩ ?_
        rintro ⟨i, Z⟩ ⟨g1, g2⟩
        dsimp only at *
        have hZl : Z.length = N := by rw [g2, List.length_append, rdB_len, List.length_replicate]; omega
        by_cases hi : i < N
        · have HG := ac_get 8 (a1 + 8 * i) d 0 (by omega) (by omega) hd
          have hb := rdN_bd d (a1 + 8 * i) 8
          generalize hc : rdN d (a1 + 8 * i) 8 = c at HG hb
          repeat' first | intro h1 | refine st (h := ok_conv_in rfl (show IntKind.u8.min ≤ c by simp [IntKind.min, IntKind.signed]; omega) (show c ≤ IntKind.u8.max by simp [IntKind.max, IntKind.signed, IntKind.bits]; omega)) ?_ | refine st ?_ | refine stMW [0] HG ?_ | refine st (h := ok_makeFunc (by ((repeat (apply ArgsR.cons; rfl)); exact ArgsR.nil)) (by ((repeat (apply ArgsR.cons; rfl)); exact ArgsR.nil))) ?_ | refine stm ?_ | refine Ja ?_ | refine Jb ?_ | refine Jc ?_ | refine Jd ?_ | refine Je ?_ | refine Jf ?_ | refine Jg ?_ | refine Jh ?_ ?_ | refine Ji ?_ ?_ | refine Jj ?_ ?_ | refine run_nil ?_ | refine Jz ?_ | refine Jw ?_ | refine aw_block ?_ | refine Jq ?_ | refine Jr ?_ | refine Js ?_ | refine Jt ?_ | refine Ju ?_ ?_ | refine Jv ?_ ?_ | refine Jy ?_ | refine aw_exit ?_ | refine aw_ret ?_ | refine pp_ret ?_ | refine pp_normal ?_
          refine Exists.intro ⟨i + 1, Z.set i c⟩ ⟨fitsD [0, 1], ⟨hi, ?_⟩, by dsimp only; omega⟩
          dsimp only
          rw [g2, rdB, hc, List.set_append_right _ _ (by rw [rdB_len]; exact Nat.le_refl _), rdB_len, Nat.sub_self, show N - i = (N - (i + 1)) + 1 by omega, List.replicate_succ, List.append_assoc]
          rfl
        · obtain rfl : i = N := by omega
          have hZ : Z = rdB d a1 i := by rw [g2, Nat.sub_self]; simp
          have hbu := bytes_u8 Z (hZ ▸ rdB_rng d a1 i)
          subst t a'
          rw [← hZ]
          repeat' first | intro h1 | refine st (h := ok_bytes_str (l := Z.map b8) rfl rfl (by simp; omega) ((take_full (by simp; omega)).trans hbu)) ?_ | refine st ?_ | refine st (h := ok_makeFunc (by ((repeat (apply ArgsR.cons; rfl)); exact ArgsR.nil)) (by ((repeat (apply ArgsR.cons; rfl)); exact ArgsR.nil))) ?_ | refine stm ?_ | refine Ja ?_ | refine Jb ?_ | refine Jc ?_ | refine Jd ?_ | refine Je ?_ | refine Jf ?_ | refine Jg ?_ | refine Jh ?_ ?_ | refine Ji ?_ ?_ | refine Jj ?_ ?_ | refine run_nil ?_ | refine Jz ?_ | refine Jw ?_ | refine aw_block ?_ | refine Jq ?_ | refine Jr ?_ | refine Js ?_ | refine Jt ?_ | refine Ju ?_ ?_ | refine Jv ?_ ?_ | refine Jy ?_ | refine aw_exit ?_ | refine aw_ret ?_ | refine pp_ret ?_ | refine pp_normal ?_
          exact pm_ret _ (renumD [0]) rfl
  · rw [if_pos he1] at hst
    simp only [Prod.mk.injEq] at hst
    obtain ⟨rfl, rfl, rfl⟩ := hst
    refine acalls_of_aw Tryz.func132 rfl rfl ?_
    repeat' first | intro h1 | refine st ?_ | refine st_call (ac_limit m) ?_ | refine st_call (HW) ?_ | refine stMW [0] HF ?_ | refine st (h := ok_makeFunc (by ((repeat (apply ArgsR.cons; rfl)); exact ArgsR.nil)) (by ((repeat (apply ArgsR.cons; rfl)); exact ArgsR.nil))) ?_ | refine stm ?_ | refine Ja ?_ | refine Jb ?_ | refine Jc ?_ | refine Jd ?_ | refine Je ?_ | refine Jf ?_ | refine Jg ?_ | refine Jh ?_ ?_ | refine Ji ?_ ?_ | refine Jj ?_ ?_ | refine run_nil ?_ | refine Jz ?_ | refine Jw ?_ | refine aw_block ?_ | refine Jq ?_ | refine Jr ?_ | refine Js ?_ | refine Jt ?_ | refine Ju ?_ ?_ | refine Jv ?_ ?_ | refine Jy ?_ | refine aw_exit ?_ | refine aw_ret ?_ | refine pp_ret ?_ | refine pp_normal ?_
    all_goals first | exact pm_ret _ (renumD [0]) rfl | (exfalso; omega)
/-- What a reader's Close returns. -/
def closeR (d : ByteArray) (a : Nat) (e : Int) : Int := if e ≠ 0 then e else if 8 ≤ 8 * d.size - a ∨ rdN d a (8 * d.size - a) ≠ 0 then 10 else 0
theorem ac_close1 (a : Nat) (d : ByteArray) (ha : a ≤ 8 * d.size) (hlt : 8 * d.size - a < 8) (hd : d.size ≤ 1000000) : ACalls Tryz.prog 148 [.pointer (some ⟨0, 0, none⟩)] [some ⟨[.pointer (some ⟨1, 0, none⟩)], false, 1⟩, some ⟨[.string d, .int .i64 (a : Int), .int .i64 0], false, 1⟩] (.bool (decide (¬ rdN d a (8 * d.size - a) = 0))) [none, none] := by
  have HL := ac_left a d (by omega) hd
  have HG := ac_get (8 * d.size - a) a d 0 (by omega) (by omega) hd
  rw [show ((8 * d.size - a : Nat) : Int) = 8 * (d.size : Int) - a by omega] at HG
  refine acalls_law Tryz.func148 rfl rfl rfl ?_
  repeat' first | intro h1 | refine st ?_ | refine stRW [1] HL ?_ | refine stMW [2] HG ?_ | refine stm ?_ | refine Ja ?_ | refine Jb ?_ | refine Jc ?_ | refine Jd ?_ | refine Je ?_ | refine Jf ?_ | refine Jg ?_ | refine Jh ?_ ?_ | refine Ji ?_ ?_ | refine Jj ?_ ?_ | refine run_nil ?_ | refine Jz ?_ | refine Jw ?_ | refine aw_block ?_ | refine Jq ?_ | refine Jr ?_ | refine Js ?_ | refine Jt ?_ | refine Ju ?_ ?_ | refine Jv ?_ ?_ | refine Jy ?_ | refine aw_exit ?_ | refine aw_ret ?_ | refine pp_ret ?_ | refine pp_normal ?_
  all_goals first | rfl | (exfalso; omega)
theorem ac_closeR (e c : Int) (a : Nat) (d : ByteArray) (hst : closeR d a e = c) (ha : a ≤ 8 * d.size) (hd : d.size ≤ 1000000) : ACalls Tryz.prog 99 [.pointer (some ⟨0, 0, none⟩)] [some ⟨[.string d, .int .i64 (a : Int), .int .i64 e], false, 1⟩] (.int .i64 c) [none] := by
  unfold closeR at hst
  by_cases he : e = 0
  · subst he
    rw [if_neg (by simp)] at hst
    have HL := ac_left a d (by omega) hd
    by_cases h8 : 8 ≤ 8 * d.size - a
    · rw [if_pos (.inl h8)] at hst
      subst hst
      refine acalls_law Tryz.func99 rfl rfl rfl ?_
      repeat' first | intro h1 | refine st ?_ | refine stRW [0] HL ?_ | refine st (h := ok_makeFunc (by ((repeat (apply ArgsR.cons; rfl)); exact ArgsR.nil)) (by ((repeat (apply ArgsR.cons; rfl)); exact ArgsR.nil))) ?_ | refine stm ?_ | refine Ja ?_ | refine Jb ?_ | refine Jc ?_ | refine Jd ?_ | refine Je ?_ | refine Jf ?_ | refine Jg ?_ | refine Jh ?_ ?_ | refine Ji ?_ ?_ | refine Jj ?_ ?_ | refine run_nil ?_ | refine Jz ?_ | refine Jw ?_ | refine aw_block ?_ | refine Jq ?_ | refine Jr ?_ | refine Js ?_ | refine Jt ?_ | refine Ju ?_ ?_ | refine Jv ?_ ?_ | refine Jy ?_ | refine aw_exit ?_ | refine aw_ret ?_ | refine pp_ret ?_ | refine pp_normal ?_
      all_goals first | rfl | (exfalso; omega)
    · have HO := ac_close1 a d ha (by omega) hd
      by_cases hr : rdN d a (8 * d.size - a) = 0
      · rw [if_neg (by rintro (h | h); exact h8 h; exact h hr)] at hst
        subst hst
        rw [hr, show decide (¬ (0 : Int) = 0) = false from rfl] at HO
        refine acalls_law Tryz.func99 rfl rfl rfl ?_
        repeat' first | intro h1 | refine st ?_ | refine stRW [0] HL ?_ | refine stRW [1, 0] HO ?_ | refine st (h := ok_makeFunc (by ((repeat (apply ArgsR.cons; rfl)); exact ArgsR.nil)) (by ((repeat (apply ArgsR.cons; rfl)); exact ArgsR.nil))) ?_ | refine stm ?_ | refine Ja ?_ | refine Jb ?_ | refine Jc ?_ | refine Jd ?_ | refine Je ?_ | refine Jf ?_ | refine Jg ?_ | refine Jh ?_ ?_ | refine Ji ?_ ?_ | refine Jj ?_ ?_ | refine run_nil ?_ | refine Jz ?_ | refine Jw ?_ | refine aw_block ?_ | refine Jq ?_ | refine Jr ?_ | refine Js ?_ | refine Jt ?_ | refine Ju ?_ ?_ | refine Jv ?_ ?_ | refine Jy ?_ | refine aw_exit ?_ | refine aw_ret ?_ | refine pp_ret ?_ | refine pp_normal ?_
        all_goals first | rfl | (exfalso; omega)
      · rw [if_pos (.inr hr)] at hst
        subst hst
        rw [decide_eq_true hr] at HO
        refine acalls_law Tryz.func99 rfl rfl rfl ?_
        repeat' first | intro h1 | refine st ?_ | refine stRW [0] HL ?_ | refine stRW [1, 0] HO ?_ | refine st (h := ok_makeFunc (by ((repeat (apply ArgsR.cons; rfl)); exact ArgsR.nil)) (by ((repeat (apply ArgsR.cons; rfl)); exact ArgsR.nil))) ?_ | refine stm ?_ | refine Ja ?_ | refine Jb ?_ | refine Jc ?_ | refine Jd ?_ | refine Je ?_ | refine Jf ?_ | refine Jg ?_ | refine Jh ?_ ?_ | refine Ji ?_ ?_ | refine Jj ?_ ?_ | refine run_nil ?_ | refine Jz ?_ | refine Jw ?_ | refine aw_block ?_ | refine Jq ?_ | refine Jr ?_ | refine Js ?_ | refine Jt ?_ | refine Ju ?_ ?_ | refine Jv ?_ ?_ | refine Jy ?_ | refine aw_exit ?_ | refine aw_ret ?_ | refine pp_ret ?_ | refine pp_normal ?_
        all_goals first | rfl | (exfalso; omega)
  · rw [if_pos he] at hst
    subst hst
    refine acalls_law Tryz.func99 rfl rfl rfl ?_
    repeat' first | intro h1 | refine st ?_ | refine st (h := ok_makeFunc (by ((repeat (apply ArgsR.cons; rfl)); exact ArgsR.nil)) (by ((repeat (apply ArgsR.cons; rfl)); exact ArgsR.nil))) ?_ | refine stm ?_ | refine Ja ?_ | refine Jb ?_ | refine Jc ?_ | refine Jd ?_ | refine Je ?_ | refine Jf ?_ | refine Jg ?_ | refine Jh ?_ ?_ | refine Ji ?_ ?_ | refine Jj ?_ ?_ | refine run_nil ?_ | refine Jz ?_ | refine Jw ?_ | refine aw_block ?_ | refine Jq ?_ | refine Jr ?_ | refine Js ?_ | refine Jt ?_ | refine Ju ?_ ?_ | refine Jv ?_ ?_ | refine Jy ?_ | refine aw_exit ?_ | refine aw_ret ?_ | refine pp_ret ?_ | refine pp_normal ?_
    all_goals first | rfl | (exfalso; omega)
/-- A string of packed bits. -/
def pkB (bs : List Int) : ByteArray := ⟨((pack bs).map b8).toArray⟩
theorem bitsOf_01 : ∀ (w : Nat) (x : Int), ∀ b ∈ bitsOf w x, b = 0 ∨ b = 1
  | 0, _, b, h => by cases h
  | w + 1, x, b, h => by
    rw [bitsOf, List.mem_cons] at h
    rcases h with rfl | h
    · omega
    · exact bitsOf_01 w x b h
/-- What a writer does with a number that fits. -/
theorem unsW_ok {bs bs' : List Int} {w x : Int} (h : 1 ≤ w ∧ w ≤ 63) (hx : 0 ≤ x ∧ x < 2 ^ w.toNat) (hl : bs.length + w ≤ 524288) (hb : bs ++ bitsOf w.toNat x = bs') : unsW bs 0 w x = (bs', 0) := by
  unfold unsW fieldW
  rw [if_neg (by simp), if_neg (by simp [h]), if_neg (by simp [hx]), if_neg (by omega), hb]
theorem bd63 {w x : Int} (h : 1 ≤ w ∧ w ≤ 63) (hx : 0 ≤ x ∧ x < 2 ^ w.toNat) : -9223372036854775808 ≤ x ∧ x ≤ 9223372036854775807 := by
  have : (2 : Int) ^ w.toNat ≤ 2 ^ 63 := by
    have := Nat.pow_le_pow_right (show 0 < 2 by decide) (show w.toNat ≤ 63 by omega)
    exact_mod_cast this
  have e : (2 : Int) ^ 63 = 9223372036854775808 := by decide
  omega
theorem ac_runs0 (w x : Int) (bs bs' : List Int) (h : 1 ≤ w ∧ w ≤ 63) (hx : 0 ≤ x ∧ x < 2 ^ w.toNat) (hl : bs.length + w ≤ 524288) (hb : bs ++ bitsOf w.toNat x = bs') : ACalls Tryz.prog 129 [.pointer (some ⟨0, 0, none⟩), .int .i64 w, .int .i64 x] [some ⟨[.slice (some ⟨1, 0, none⟩) bs.length bs.length, .int .i64 0], true, 1⟩, some ⟨List.map (Value.int .u8) bs, true, 1⟩] (.tuple #[]) [some ⟨[.slice (some ⟨2, 0, none⟩) bs'.length bs'.length, .int .i64 0], true, 1⟩, none, some ⟨List.map (Value.int .u8) bs', true, 1⟩] :=
  ac_runsigned w x 0 0 bs bs' _ _ rfl (unsW_ok h hx hl hb) rfl (by omega) (by omega) (bd63 h hx)
theorem flgW_ok {bs bs' : List Int} {r : Bool} (hl : bs.length + 1 ≤ 524288) (hb : bs ++ bitsOf 1 (if r = true then 1 else 0) = bs') : flgW bs 0 r = (bs', 0) := by
  unfold flgW fieldW
  rw [if_neg (by simp), if_neg (by simp), if_neg (by simp), if_neg (by omega)]
  exact congrArg (·, 0) hb
theorem ac_rflag0 (r : Bool) (bs bs' : List Int) (hl : bs.length + 1 ≤ 524288) (hb : bs ++ bitsOf 1 (if r = true then 1 else 0) = bs') : ACalls Tryz.prog 127 [.pointer (some ⟨0, 0, none⟩), .bool r] [some ⟨[.slice (some ⟨1, 0, none⟩) bs.length bs.length, .int .i64 0], true, 1⟩, some ⟨List.map (Value.int .u8) bs, true, 1⟩] (.tuple #[]) [some ⟨[.slice (some ⟨2, 0, none⟩) bs'.length bs'.length, .int .i64 0], true, 1⟩, none, some ⟨List.map (Value.int .u8) bs', true, 1⟩] :=
  ac_rflag r 0 0 bs bs' _ _ rfl (flgW_ok hl hb) rfl (by omega)
theorem txtW_ok {bs bs' : List Int} {m : Int} {s : ByteArray} (hm : 1 ≤ m ∧ m ≤ 4095) (hs : (s.size : Int) ≤ m) (hl : bs.length + wdth m + 8 * s.size ≤ 524288) (hb : bs ++ bitsOf (wdth m).toNat s.size ++ strBits s s.size = bs') : txtW bs 0 m s = (bs', 0) := by
  unfold txtW
  rw [if_neg (by simp), if_neg (by simp [hm]), if_neg (by omega), hb]
theorem ac_rtext0 (m : Int) (s : ByteArray) (bs bs' : List Int) (hm : 1 ≤ m ∧ m ≤ 4095) (hs : (s.size : Int) ≤ m) (hl : bs.length + wdth m + 8 * s.size ≤ 524288) (hb : bs ++ bitsOf (wdth m).toNat s.size ++ strBits s s.size = bs') : ACalls Tryz.prog 128 [.pointer (some ⟨0, 0, none⟩), .int .i64 m, .string s] [some ⟨[.slice (some ⟨1, 0, none⟩) bs.length bs.length, .int .i64 0], true, 1⟩, some ⟨List.map (Value.int .u8) bs, true, 1⟩] (.tuple #[]) [some ⟨[.slice (some ⟨2, 0, none⟩) bs'.length bs'.length, .int .i64 0], true, 1⟩, none, some ⟨List.map (Value.int .u8) bs', true, 1⟩] :=
  ac_rtext m s 0 0 bs bs' _ _ rfl (txtW_ok hm hs hl hb) rfl (by have := wdth_bd m (by omega); omega) (by omega) (by omega)
theorem ac_rbytes0 (bs : List Int) (hl : bs.length ≤ 524288) (h : ∀ b ∈ bs, b = 0 ∨ b = 1) : ACalls Tryz.prog 130 [.pointer (some ⟨0, 0, none⟩)] [some ⟨[.slice (some ⟨1, 0, none⟩) bs.length bs.length, .int .i64 0], false, 1⟩, some ⟨List.map (Value.int .u8) bs, false, 1⟩] (.tuple #[.string (pkB bs), .int .i64 0]) [none, none] := ac_rbytes _ bs _ rfl rfl hl (fun b hb => by rcases h b hb with h | h <;> omega)
theorem ac_rnewW0 (bs : List Int) (h : [] = bs) : ACalls Tryz.prog 126 [] [] (.pointer (some ⟨0, 0, none⟩)) [some ⟨[.slice (some ⟨1, 0, none⟩) bs.length bs.length, .int .i64 0], true, 1⟩, some ⟨List.map (Value.int .u8) bs, true, 1⟩] := by subst h; exact ac_rnewW
theorem strBits_01 (t : ByteArray) : ∀ i, ∀ b ∈ strBits t i, b = 0 ∨ b = 1
  | 0, b, h => by simp [strBits] at h
  | i + 1, b, h => by
    rw [strBits] at h
    rcases List.mem_append.1 h with h | h
    · exact strBits_01 t i b h
    · exact bitsOf_01 _ _ b h
/-- The first element of a list where q holds, or -1. -/
def fidx {α : Type} (q : α → Bool) (l : List α) : Int := if l.findIdx q < l.length then (l.findIdx q : Int) else -1
theorem fidx_at {α : Type} {q : α → Bool} {l : List α} {i : Nat} {x : α} (h : l[i]? = some x) (hq : q x = true) (h0 : ∀ (j : Nat), j < i → ∀ y, l[j]? = some y → q y = false) : fidx q l = i := by
  obtain ⟨hi, hx⟩ := List.getElem?_eq_some_iff.1 h
  have : l.findIdx q = i := (List.findIdx_eq hi).2 ⟨by rw [hx]; exact hq, fun j hj => h0 j hj _ (List.getElem?_eq_getElem (by omega))⟩
  unfold fidx
  rw [this, if_pos hi]
theorem fidx_no {α : Type} {q : α → Bool} {l : List α} (h0 : ∀ (j : Nat), j < l.length → ∀ y, l[j]? = some y → q y = false) : fidx q l = -1 := by
  have : l.findIdx q = l.length := List.findIdx_eq_length.2 fun x hx => by
    obtain ⟨j, hj⟩ := List.mem_iff_getElem?.1 hx
    exact h0 j (List.getElem?_eq_some_iff.1 hj).1 x hj
  unfold fidx
  rw [this, if_neg (by omega)]
theorem fidx_pos {α : Type} {q : α → Bool} {l : List α} : 0 ≤ fidx q l ↔ ∃ x ∈ l, q x = true := by
  unfold fidx
  by_cases h : l.findIdx q < l.length
  · rw [if_pos h]
    exact ⟨fun _ => ⟨_, List.getElem_mem h, List.findIdx_getElem⟩, fun _ => by omega⟩
  · rw [if_neg h]
    refine ⟨fun h => by omega, fun ⟨x, hx, hq⟩ => ?_⟩
    exact absurd (List.findIdx_lt_length_of_exists ⟨x, hx, hq⟩) h
theorem no_step {α : Type} {q : α → Bool} {l : List α} {i : Nat} {x : α} (h0 : ∀ (j : Nat), j < i → ∀ y, l[j]? = some y → q y = false) (h : l[i]? = some x) (hq : q x = false) : ∀ (j : Nat), j < i + 1 → ∀ y, l[j]? = some y → q y = false := fun j hj y hy => by
  rcases Nat.lt_or_ge j i with h1 | h1
  · exact h0 j h1 y hy
  · obtain rfl : j = i := by omega
    rw [h] at hy
    cases hy
    exact hq
/-- A list has a number. -/
def hasI (C : List Int) (c : Int) : Bool := decide (c ∈ C)
theorem hasI_pos (C : List Int) (c : Int) : decide (0 ≤ fidx (fun q => decide (q = c)) C) = hasI C c :=
  decide_eq_decide.2 (fidx_pos.trans ⟨fun ⟨x, h1, h2⟩ => (of_decide_eq_true h2) ▸ h1, fun h => ⟨c, h, decide_eq_true rfl⟩⟩)
theorem hasI_of {C : List Int} {c : Int} {i : Nat} (h : C[i]? = some c) : hasI C c = true := decide_eq_true (List.mem_of_getElem? h)
theorem hasI_not {C : List Int} {c : Int} (h0 : ∀ (j : Nat), j < C.length → ∀ y, C[j]? = some y → decide (y = c) = false) : hasI C c = false := decide_eq_false fun h => by
  obtain ⟨j, hj⟩ := List.mem_iff_getElem?.1 h
  have := h0 j (List.getElem?_eq_some_iff.1 hj).1 c hj
  simp at this
/-- 1 to 16 different channels. -/
def chOK (C : List Int) : Bool := decide (C ≠ [] ∧ (∀ c ∈ C, 0 ≤ c ∧ c < 16) ∧ C.Nodup)
def chP (C : List Int) (i : Nat) : Prop := (∀ c ∈ C.take i, 0 ≤ c ∧ c < 16) ∧ (C.take i).Nodup
theorem chP_zero (C : List Int) : chP C 0 := ⟨fun c h => by simp at h, by simp⟩
theorem chP_step {C : List Int} {i : Nat} {c : Int} (h : chP C i) (hc : C[i]? = some c) (h1 : 0 ≤ c ∧ c < 16) (h2 : hasI (C.take i) c = false) : chP C (i + 1) := by
  have e : C.take (i + 1) = C.take i ++ [c] := by rw [List.take_add_one, hc]; rfl
  have h2 : ¬ c ∈ C.take i := of_decide_eq_false h2
  unfold chP
  rw [e]
  refine ⟨fun x hx => ?_, ?_⟩
  · rcases List.mem_append.1 hx with hx | hx
    · exact h.1 x hx
    · rw [List.mem_singleton] at hx
      rw [hx]; exact h1
  · rw [List.nodup_append]
    refine ⟨h.2, by simp, fun a ha b hb => ?_⟩
    rw [List.mem_singleton] at hb
    rintro rfl
    exact h2 (hb ▸ ha)
theorem chP_end {C : List Int} (h : chP C C.length) (h0 : C.length ≠ 0) : chOK C = true := by
  unfold chP at h
  rw [List.take_length] at h
  exact decide_eq_true ⟨fun e => h0 (by rw [e]; rfl), h.1, h.2⟩
theorem chP_bad {C : List Int} {i : Nat} {c : Int} (hc : C[i]? = some c) (h : ¬ (0 ≤ c ∧ c < 16)) : chOK C = false := decide_eq_false fun h2 => h (h2.2.1 c (List.mem_of_getElem? hc))
theorem chP_twice {C : List Int} {i : Nat} {c : Int} (hc : C[i]? = some c) (h : hasI (C.take i) c = true) : chOK C = false := decide_eq_false fun ⟨_, _, h3⟩ => by
  have hi := (List.getElem?_eq_some_iff.1 hc).1
  have e : C.take (i + 1) = C.take i ++ [c] := by rw [List.take_add_one, hc]; rfl
  have h4 : (C.take (i + 1)).Nodup := h3.sublist (List.take_sublist _ _)
  rw [e, List.nodup_append] at h4
  exact h4.2.2 c (of_decide_eq_true h) c (by simp) rfl
theorem nodup_lt : ∀ (n : Nat) (C : List Int), C.Nodup → (∀ c ∈ C, 0 ≤ c ∧ c < n) → C.length ≤ n
  | 0, C, _, h => by
    cases C with
    | nil => exact Nat.le_refl _
    | cons a C => have := h a (by simp); omega
  | n + 1, C, hn, h => by
    have h1 := nodup_lt n (C.erase n) (hn.erase _) fun c hc => by
      have h2 := (hn.mem_erase_iff).1 hc
      have := h c h2.2
      have := h2.1
      omega
    rw [List.length_erase] at h1
    split at h1 <;> omega
theorem chOK_len {C : List Int} (h : chOK C = true) : 1 ≤ C.length ∧ C.length ≤ 16 ∧ ∀ c ∈ C, 0 ≤ c ∧ c < 16 := by
  obtain ⟨h1, h2, h3⟩ := of_decide_eq_true h
  exact ⟨by cases C; exact absurd rfl h1; simp, nodup_lt 16 C h3 h2, h2⟩
/-- The error of a hopping list. -/
def chkH (v f u : Int) (C : List Int) : Int := if v < 0 ∨ 255 < v ∨ f < 0 ∨ u ≤ f ∨ 109951163 < u ∨ chOK C = false then 1 else 0
theorem chkH_0 {v f u : Int} {C : List Int} (h : chkH v f u C = 0) : (0 ≤ v ∧ v ≤ 255) ∧ 0 ≤ f ∧ f < u ∧ u ≤ 109951163 ∧ chOK C = true := by
  unfold chkH at h
  by_cases hq : v < 0 ∨ 255 < v ∨ f < 0 ∨ u ≤ f ∨ 109951163 < u ∨ chOK C = false
  · rw [if_pos hq] at h; cases h
  · have : chOK C = true := by
      cases hc : chOK C
      · exact absurd (.inr (.inr (.inr (.inr (.inr hc))))) hq
      · rfl
    rw [this] at hq
    exact ⟨by omega, by omega, by omega, by omega, this⟩
theorem ok_not_dec2 {P : Program} {ρ : Operand → Option Value} {m : Mem} {d : Option Tmp} {t : TypeId} {pp : String} {af : Array Edge} {g : Option (Nat × Bool)} {tt x} {p : Prop} {i : Decidable p} (hx : ρ x = some (.bool (@decide p i))) : OpOK P ⟨d, .unOp .not tt x, t, pp, af, g⟩ ρ m (.bool (decide (¬ p))) m := ok_not_dec hx
structure Og where
  i : Nat
set_option maxHeartbeats 1000000 in
theorem ac_indexI (C0 C : List Int) (n : Nat) (hn : n ≤ C0.length) (hC : C0.take n = C) (hb : n ≤ 9000000000000000000) (c : Int) (x : Int) (hx : fidx (fun z => decide (z = c)) C = x) : ACalls Tryz.prog 224 [.slice (some ⟨0, 0, none⟩) n n, .int .i64 c] [some ⟨List.map (Value.int .i64) C0, false, 1⟩] (.int .i64 x) [none] := by
  have hl : C.length = n := by rw [← hC, List.length_take]; omega
  refine acalls_law Tryz.func224 rfl rfl rfl ?_
  repeat' first | intro h1 | refine st ?_ | refine stm ?_ | refine Ja ?_ | refine Jb ?_ | refine Jc ?_ | refine Jd ?_ | refine Je ?_ | refine Jf ?_ | refine Jg ?_ | refine Jh ?_ ?_ | refine Ji ?_ ?_ | refine Jj ?_ ?_ | refine run_nil ?_ | refine Jz ?_ | refine Jw ?_ | refine aw_block ?_ | refine Jq ?_ | refine Jr ?_ | refine Js ?_ | refine Jt ?_ | refine Ju ?_ ?_ | refine Jv ?_ ?_ | refine Jy ?_ | refine aw_exit ?_ | refine aw_ret ?_ | refine pp_ret ?_ | refine pp_normal ?_
  refine aw_loopg
    (S := fun y : Og => [(0, .slice (some ⟨0, 0, none⟩) n n), (1, .int .i64 c), (7, .int .i64 n), (8, .int .i64 y.i)])
    (B := fun _ : Og => [some ⟨List.map (Value.int .i64) C0, false, 1⟩])
    (R := fun y : Og => y.i ≤ n ∧ ∀ (j : Nat), j < y.i → ∀ q, C[j]? = some q → decide (q = c) = false)
    (μ := fun y : Og => n - y.i) ⟨0⟩ (fitsD [0]) ⟨Nat.zero_le _, fun j hj => absurd hj (Nat.not_lt_zero _)⟩ ?_
  rintro ⟨i⟩ ⟨g1, g2⟩
  dsimp only at *
  by_cases hi : i < n
  · obtain ⟨q, hq⟩ : ∃ q, C0[i]? = some q := ⟨_, List.getElem?_eq_getElem (by omega)⟩
    have hq' : C[i]? = some q := by rw [← hC, List.getElem?_take, if_pos hi]; exact hq
    by_cases heq : q = c
    · subst heq
      obtain rfl : x = i := by rw [← hx]; exact fidx_at (q := fun z => decide (z = q)) hq' (by simp) g2
      repeat' first | intro h1 | refine st (h := ok_load_mapE (f := Value.int .i64) i hq rfl rfl rfl (by omega)) ?_ | refine st ?_ | refine stm ?_ | refine Ja ?_ | refine Jb ?_ | refine Jc ?_ | refine Jd ?_ | refine Je ?_ | refine Jf ?_ | refine Jg ?_ | refine Jh ?_ ?_ | refine Ji ?_ ?_ | refine Jj ?_ ?_ | refine run_nil ?_ | refine Jz ?_ | refine Jw ?_ | refine aw_block ?_ | refine Jq ?_ | refine Jr ?_ | refine Js ?_ | refine Jt ?_ | refine Ju ?_ ?_ | refine Jv ?_ ?_ | refine Jy ?_ | refine aw_exit ?_ | refine aw_ret ?_ | refine pp_ret ?_ | refine pp_normal ?_
      all_goals first
        | rfl
        | (exfalso; omega)
        | (exfalso; simp only [Bool.not_eq_true', Bool.not_eq_false', decide_eq_true_eq, decide_eq_false_iff_not, Bool.not_false, Bool.not_true] at *; omega)
        | (exfalso; simp_all; first | done | omega)
    · have hne : decide (q = c) = false := decide_eq_false heq
      repeat' first | intro h1 | refine st (h := ok_load_mapE (f := Value.int .i64) i hq rfl rfl rfl (by omega)) ?_ | refine st ?_ | refine stm ?_ | refine Ja ?_ | refine Jb ?_ | refine Jc ?_ | refine Jd ?_ | refine Je ?_ | refine Jf ?_ | refine Jg ?_ | refine Jh ?_ ?_ | refine Ji ?_ ?_ | refine Jj ?_ ?_ | refine run_nil ?_ | refine Jz ?_ | refine Jw ?_ | refine aw_block ?_ | refine Jq ?_ | refine Jr ?_ | refine Js ?_ | refine Jt ?_ | refine Ju ?_ ?_ | refine Jv ?_ ?_ | refine Jy ?_ | refine aw_exit ?_ | refine aw_ret ?_ | refine pp_ret ?_ | refine pp_normal ?_
      all_goals first | exact Exists.intro ⟨i + 1⟩ ⟨fitsD [0], ⟨hi, no_step g2 hq' hne⟩, by dsimp only; omega⟩ | (exfalso; omega)
  · obtain rfl : i = n := by omega
    obtain rfl : x = -1 := by rw [← hx]; exact fidx_no (by rw [hl]; exact g2)
    repeat' first | intro h1 | refine st ?_ | refine stm ?_ | refine Ja ?_ | refine Jb ?_ | refine Jc ?_ | refine Jd ?_ | refine Je ?_ | refine Jf ?_ | refine Jg ?_ | refine Jh ?_ ?_ | refine Ji ?_ ?_ | refine Jj ?_ ?_ | refine run_nil ?_ | refine Jz ?_ | refine Jw ?_ | refine aw_block ?_ | refine Jq ?_ | refine Jr ?_ | refine Js ?_ | refine Jt ?_ | refine Ju ?_ ?_ | refine Jv ?_ ?_ | refine Jy ?_ | refine aw_exit ?_ | refine aw_ret ?_ | refine pp_ret ?_ | refine pp_normal ?_
    all_goals first
      | rfl
      | (exfalso; omega)
      | (exfalso; simp only [Bool.not_eq_true', Bool.not_eq_false', decide_eq_true_eq, decide_eq_false_iff_not, Bool.not_false, Bool.not_true] at *; omega)
      | (exfalso; simp_all; first | done | omega)
set_option maxHeartbeats 1000000 in
theorem ac_hasI (C0 C : List Int) (n : Nat) (hn : n ≤ C0.length) (hC : C0.take n = C) (hb : n ≤ 9000000000000000000) (c : Int) (x : Bool) (hx : hasI C c = x) : ACalls Tryz.prog 219 [.slice (some ⟨0, 0, none⟩) n n, .int .i64 c] [some ⟨List.map (Value.int .i64) C0, false, 1⟩] (.bool x) [none] := by
  have hl : C.length = n := by rw [← hC, List.length_take]; omega
  refine acalls_law Tryz.func219 rfl rfl rfl ?_
  repeat' first | intro h1 | refine st ?_ | refine stm ?_ | refine Ja ?_ | refine Jb ?_ | refine Jc ?_ | refine Jd ?_ | refine Je ?_ | refine Jf ?_ | refine Jg ?_ | refine Jh ?_ ?_ | refine Ji ?_ ?_ | refine Jj ?_ ?_ | refine run_nil ?_ | refine Jz ?_ | refine Jw ?_ | refine aw_block ?_ | refine Jq ?_ | refine Jr ?_ | refine Js ?_ | refine Jt ?_ | refine Ju ?_ ?_ | refine Jv ?_ ?_ | refine Jy ?_ | refine aw_exit ?_ | refine aw_ret ?_ | refine pp_ret ?_ | refine pp_normal ?_
  refine aw_loopg
    (S := fun y : Og => [(0, .slice (some ⟨0, 0, none⟩) n n), (1, .int .i64 c), (5, .int .i64 y.i)])
    (B := fun _ : Og => [some ⟨List.map (Value.int .i64) C0, false, 1⟩])
    (R := fun y : Og => y.i ≤ n ∧ ∀ (j : Nat), j < y.i → ∀ q, C[j]? = some q → decide (q = c) = false)
    (μ := fun y : Og => n - y.i) ⟨0⟩ (fitsD [0]) ⟨Nat.zero_le _, fun j hj => absurd hj (Nat.not_lt_zero _)⟩ ?_
  rintro ⟨i⟩ ⟨g1, g2⟩
  dsimp only at *
  by_cases hi : i < n
  · obtain ⟨q, hq⟩ : ∃ q, C0[i]? = some q := ⟨_, List.getElem?_eq_getElem (by omega)⟩
    have hq' : C[i]? = some q := by rw [← hC, List.getElem?_take, if_pos hi]; exact hq
    by_cases heq : q = c
    · subst heq
      obtain rfl : x = true := by rw [← hx]; exact hasI_of hq'
      repeat' first | intro h1 | refine st (h := ok_load_mapE (f := Value.int .i64) i hq rfl rfl rfl (by omega)) ?_ | refine st ?_ | refine stm ?_ | refine Ja ?_ | refine Jb ?_ | refine Jc ?_ | refine Jd ?_ | refine Je ?_ | refine Jf ?_ | refine Jg ?_ | refine Jh ?_ ?_ | refine Ji ?_ ?_ | refine Jj ?_ ?_ | refine run_nil ?_ | refine Jz ?_ | refine Jw ?_ | refine aw_block ?_ | refine Jq ?_ | refine Jr ?_ | refine Js ?_ | refine Jt ?_ | refine Ju ?_ ?_ | refine Jv ?_ ?_ | refine Jy ?_ | refine aw_exit ?_ | refine aw_ret ?_ | refine pp_ret ?_ | refine pp_normal ?_
      all_goals first
        | rfl
        | (exfalso; omega)
        | (exfalso; simp only [Bool.not_eq_true', Bool.not_eq_false', decide_eq_true_eq, decide_eq_false_iff_not, Bool.not_false, Bool.not_true] at *; omega)
        | (exfalso; simp_all; first | done | omega)
    · have hne : decide (q = c) = false := decide_eq_false heq
      repeat' first | intro h1 | refine st (h := ok_load_mapE (f := Value.int .i64) i hq rfl rfl rfl (by omega)) ?_ | refine st ?_ | refine stm ?_ | refine Ja ?_ | refine Jb ?_ | refine Jc ?_ | refine Jd ?_ | refine Je ?_ | refine Jf ?_ | refine Jg ?_ | refine Jh ?_ ?_ | refine Ji ?_ ?_ | refine Jj ?_ ?_ | refine run_nil ?_ | refine Jz ?_ | refine Jw ?_ | refine aw_block ?_ | refine Jq ?_ | refine Jr ?_ | refine Js ?_ | refine Jt ?_ | refine Ju ?_ ?_ | refine Jv ?_ ?_ | refine Jy ?_ | refine aw_exit ?_ | refine aw_ret ?_ | refine pp_ret ?_ | refine pp_normal ?_
      all_goals first | exact Exists.intro ⟨i + 1⟩ ⟨fitsD [0], ⟨hi, no_step g2 hq' hne⟩, by dsimp only; omega⟩ | (exfalso; omega)
  · obtain rfl : i = n := by omega
    obtain rfl : x = false := by rw [← hx]; exact hasI_not (by rw [hl]; exact g2)
    repeat' first | intro h1 | refine st ?_ | refine stm ?_ | refine Ja ?_ | refine Jb ?_ | refine Jc ?_ | refine Jd ?_ | refine Je ?_ | refine Jf ?_ | refine Jg ?_ | refine Jh ?_ ?_ | refine Ji ?_ ?_ | refine Jj ?_ ?_ | refine run_nil ?_ | refine Jz ?_ | refine Jw ?_ | refine aw_block ?_ | refine Jq ?_ | refine Jr ?_ | refine Js ?_ | refine Jt ?_ | refine Ju ?_ ?_ | refine Jv ?_ ?_ | refine Jy ?_ | refine aw_exit ?_ | refine aw_ret ?_ | refine pp_ret ?_ | refine pp_normal ?_
    all_goals first
      | rfl
      | (exfalso; omega)
      | (exfalso; simp only [Bool.not_eq_true', Bool.not_eq_false', decide_eq_true_eq, decide_eq_false_iff_not, Bool.not_false, Bool.not_true] at *; omega)
      | (exfalso; simp_all; first | done | omega)
theorem ac_containsI (C0 C : List Int) (n : Nat) (hn : n ≤ C0.length) (hC : C0.take n = C) (hb : n ≤ 9000000000000000000) (c : Int) (x : Bool) (hx : hasI C c = x) : ACalls Tryz.prog 217 [.slice (some ⟨0, 0, none⟩) n n, .int .i64 c] [some ⟨List.map (Value.int .i64) C0, false, 1⟩] (.bool x) [none] := by
  obtain ⟨z, hz⟩ : ∃ z, fidx (fun q => decide (q = c)) C = z := ⟨_, rfl⟩
  have H := ac_indexI C0 C n hn hC hb c z hz
  have hh := hasI_pos C c
  rw [hz, hx] at hh
  refine acalls_law Tryz.func217 rfl rfl rfl ?_
  repeat' first | intro h1 | refine st ?_ | refine stRW [0] H ?_ | refine sdRW [0] H ?_ | refine stm ?_ | refine Ja ?_ | refine Jb ?_ | refine Jc ?_ | refine Jd ?_ | refine Je ?_ | refine Jf ?_ | refine Jg ?_ | refine Jh ?_ ?_ | refine Ji ?_ ?_ | refine Jj ?_ ?_ | refine run_nil ?_ | refine Jz ?_ | refine Jw ?_ | refine aw_block ?_ | refine Jq ?_ | refine Jr ?_ | refine Js ?_ | refine Jt ?_ | refine Ju ?_ ?_ | refine Jv ?_ ?_ | refine Jy ?_ | refine aw_exit ?_ | refine aw_ret ?_ | refine pp_ret ?_ | refine pp_normal ?_
  all_goals first
    | rfl
    | exact congrArg Value.bool hh
    | (exfalso; omega)
    | (exfalso; simp only [Bool.not_eq_true', Bool.not_eq_false', decide_eq_true_eq, decide_eq_false_iff_not, Bool.not_false, Bool.not_true] at *; omega)
    | (exfalso; simp_all; first | done | omega)
theorem ac_channel (c : Int) : ACalls Tryz.prog 216 [.int .i64 c] [] (.bool (decide (0 ≤ c ∧ c < 16))) [] := by
  refine acalls_pure Tryz.func216 rfl rfl rfl ?_
  repeat' first | intro h1 | refine st ?_ | refine stm ?_ | refine Ja ?_ | refine Jb ?_ | refine Jc ?_ | refine Jd ?_ | refine Je ?_ | refine Jf ?_ | refine Jg ?_ | refine Jh ?_ ?_ | refine Ji ?_ ?_ | refine Jj ?_ ?_ | refine run_nil ?_ | refine Jz ?_ | refine Jw ?_ | refine aw_block ?_ | refine Jq ?_ | refine Jr ?_ | refine Js ?_ | refine Jt ?_ | refine Ju ?_ ?_ | refine Jv ?_ ?_ | refine Jy ?_ | refine aw_exit ?_ | refine aw_ret ?_ | refine pp_ret ?_ | refine pp_normal ?_
  all_goals first
    | rfl
    | (show Value.bool _ = Value.bool _; congr 1; first | exact decide_eq_false (by omega) | exact decide_eq_true (by omega) | exact (decide_eq_false (by omega)).symm | exact (decide_eq_true (by omega)).symm | exact decide_eq_decide.2 (by omega))
    | (exfalso; omega)
    | (exfalso; simp only [Bool.not_eq_true', Bool.not_eq_false', decide_eq_true_eq, decide_eq_false_iff_not, Bool.not_false, Bool.not_true] at *; omega)
    | (exfalso; simp_all; first | done | omega)
end Go.Proofs.YtdbcbclapipgdaaGreatDoor
