/- Transfer: the reference puts packets. -/
import Derived.Test.YtjofcjogbopkjaaGreatVL
import Derived.Test.YtjofcjogbopkjaaGreatZ1
set_option linter.unusedVariables false
set_option linter.unusedSimpArgs false
namespace Go.Proofs.YtjofcjogbopkjaaGreat
open Go Av
set_option maxRecDepth 20000
structure Wp where
  i : Nat
  d : ByteArray
theorem jn_succ {Z : List ByteArray} {i : Nat} {q : ByteArray} (h : Z[i]? = some q) : joinS (Z.take (i + 1)) = joinS (Z.take i) ++ q := by
  unfold joinS
  rw [List.take_add_one, h]
  apply ByteArray.ext
  rw [ByteArray.data_append]
  simp
theorem jn_take (Z : List ByteArray) (c i : Nat) (h : ∀ q ∈ Z, q.size ≤ c) : (joinS (Z.take i)).size ≤ c * Z.length := by
  rw [join_size]
  have h1 := join_le (Z.take i) c fun q hq => h q (List.mem_of_mem_take hq)
  have h2 : c * (Z.take i).length ≤ c * Z.length := Nat.mul_le_mul_left _ (by rw [List.length_take]; omega)
  omega
set_option maxHeartbeats 16000000 in
/-- packet, of a packet that is new. -/
theorem ac_rpackP (s : Sto) (n p : Nat) (hn : s.L.length = n) (hp : s.P.length = p) (hb : n ≤ 1000000 ∧ p ≤ 1000000) (hbits : s.bits < 18446744073709551616) (hd : s.data.size ≤ 100000) (hc : chS s = true) (hkn : s.kn = true) (uk uv : Int) (ui : ByteArray) (up ut : Int) (ub : Nat) (ud : ByteArray) (hut : 0 ≤ ut ∧ ut < 64) (hud : ud.size ≤ 96) (k : Nat) (hk : dnN s.ms s.mg n s.data.size = k) (hk2 : k < n) (hup : up = k) (j : Nat) (hj : ut = j) (hjp : j < p) (hbj : s.bits.testBit j = false) (hsz : (ud.size : Int) = pkL s.ms s.mg s.mq k j) (s' : Sto) (hs' : puS s ⟨uk, uv, ui, up, ut, ub, ud⟩ = s') (p' : Nat) (hp' : s'.P.length = p') : ACalls Tryz.prog 40 [.agg #[.int .i64 s.ver, .string s.id, .bool s.kn, .int .i64 s.mv, .int .i64 s.ms, .int .i64 s.mg, .int .i64 s.mq, .slice (some ⟨0, 0, none⟩) n n, .string s.data, .int .u64 s.bits, .slice (some ⟨1, 0, none⟩) p p], .agg #[.int .i64 uk, .int .i64 uv, .string ui, .int .i64 up, .int .i64 ut, .int .u64 ub, .string ud]] [some ⟨List.map Value.string s.L, false, 1⟩, some ⟨List.map Value.string s.P, false, 1⟩] (.agg #[.int .i64 s'.ver, .string s'.id, .bool s'.kn, .int .i64 s'.mv, .int .i64 s'.ms, .int .i64 s'.mg, .int .i64 s'.mq, .slice (some ⟨0, 0, none⟩) n n, .string s'.data, .int .u64 s'.bits, .slice (some ⟨2, 0, none⟩) p' p']) [none, none, some ⟨List.map Value.string s'.P, true, 1⟩] := by
  obtain ⟨r1, r2, r3, r4, k', r5, r6, r7, r8, r9, r10, r11⟩ := ch_pg hn hp hc hkn
  obtain rfl : k = k' := by omega
  have H := ac_rpages s n p hn hp hb r1 k r6
  have ho := r10 hk2
  obtain ⟨o1, o2, o3, o4⟩ := of_decide_eq_true ho
  rw [hp] at o1 o2
  obtain ⟨K, k1, k2, k3, k4, k5, k6, k7⟩ := page_fc (i := k) hn r1 hk2
  have hdk : (s.data.size : Int) = k * s.mg := by
    obtain ⟨dk, dk1, f1, f2, f3, f4, f5, f6, f7, f8, f9⟩ := dn_fc hn r1 r2
    have : k = dk := by omega
    subst this
    exact f3 hk2
  have H3 := ac_rlength s.mv s.ms s.mg s.mq s.L n hn (by omega) r1 k hk2 K k1 j (by omega) _ hsz.symm
  have HV := fun (q : ByteArray) (hq : q.size ≤ 1000000) (y : Int) (hy : vfE s.mv s.ms s.mg 0 k s.L q = y) => ac_rverify s.mv s.ms s.mg s.mq k s.L n hn (by omega) q (by omega) 0 r1 0 k4 y hy
  have HE := fun (b : Nat) (P' : List ByteArray) (m : Nat) (hm : P'.length = m) (hmb : m ≤ 1000000) (d' : ByteArray) (hdb' : dnB s.ms s.mg d'.size = true) => ac_rempty { s with bits := b, P := P', data := d' } n m hn hm ⟨hb.1, hmb⟩ r1 hdb' _ _ rfl rfl
  have hnx := fun q : ByteArray => dn_next (d := s.data) (q := q) hn r1 hk2 hdk
  have hw := bit_and s.bits j hbits (by omega)
  rw [if_neg (by rw [hbj]; decide)] at hw
  have hp64 : p ≤ 64 := by omega
  have hZs : ∀ q ∈ s.P.set j ud, q.size ≤ 4096 := fun q hq => by
    rcases List.mem_or_eq_of_mem_set hq with h | h
    · obtain ⟨i, hi, he⟩ := List.mem_iff_getElem.1 h
      have := o4 i (by omega)
      rw [List.getD_eq_getElem?_getD, List.getElem?_eq_getElem hi, he] at this
      obtain ⟨v1, v2, v3, v4⟩ := k7 i (by omega)
      have hbd := siz_bd (chk_ok r1).1
      unfold pkL at this
      unfold lenM at v4 k6
      dsimp only [Option.getD_some] at this
      split at this <;> omega
    · rw [h]; omega
  have hor := or_u s.bits (2 ^ j) hbits (Nat.pow_lt_pow_right (a := 2) (m := j) (n := 64) (by decide) (by omega))
  have hsh := shl_one j (by omega)
  have hbl := or_lt o2 hjp
  obtain ⟨b2, hb2⟩ : ∃ b2, s.bits ||| 2 ^ j = b2 := ⟨_, rfl⟩
  obtain ⟨Z, hZ⟩ : ∃ Z, s.P.set j ud = Z := ⟨_, rfl⟩
  have hZl : Z.length = p := by rw [← hZ, List.length_set]; exact hp
  have hjl : j < s.P.length := by omega
  rw [hb2] at hor hbl
  rw [hZ] at hZs
  have hb64 : b2 < 18446744073709551616 := Nat.lt_of_lt_of_le hbl (pow_le64 p hp64)
  have hall := all_bits hbl
  unfold puS at hs'
  dsimp only at hs' HE
  rw [hn, hk, hj, Int.toNat_natCast, if_neg (by rintro (h | h | h | h); exact h hup; omega; exact absurd h (by rw [hbj]; decide); exact h hsz), hb2, hZ, hp] at hs'
  have hlb : lenM s.ms s.mg k ≤ 4096 := by
    have hbd := siz_bd (chk_ok r1).1
    unfold lenM
    omega
  clear hc r1 r5 r6 r9 r10 r11 ho o1 o2 o3 o4 k1 k4 k5 k6 k7 hbits hb2
  obtain ⟨ver, id, kn, mv, ms, mg, mq, L, data, bits, P⟩ := s
  dsimp only at *
  subst hup hj hkn
  by_cases c5 : b2 = 2 ^ p - 1
  · rw [if_neg (by simpa using c5)] at hs'
    have hset := hall.1 c5
    clear c5 hall
    refine acalls_of_aw Tryz.func40 rfl rfl ?_
    repeat' first | intro h1 | refine sd (h := ok_andD rfl rfl hw) ?_ | refine sd (h := ok_shlD rfl rfl (by omega) hsh) ?_ | refine sd (h := ok_orD rfl rfl hor) ?_ | refine stm (h := ok_storeN (cs' := List.map Value.string Z) rfl rfl (ListR.refl _) rfl rfl rfl rfl (by (rw [← hZ]; exact splice_map (f := Value.string) (by simp only [Nat.zero_add, Nat.mul_one]; omega) hjl)) (by ((repeat constructor); first | done | fail)) rfl) ?_ | refine stm (h := by (apply ok_append0 (xs := List.map Value.string P); rfl; rfl; rfl; rfl; rfl; rfl; (focus (refine Src.slc rfl Ty.eq rfl (by simp [hp]) (take_full (by simp [hp])) (by simp [Value.oneCell']) rfl)); (focus (exact Nat.le_refl _)); omega; (focus ((repeat constructor); first | done | fail)))) ?_ | refine st ?_ | refine stRW [0, 1] H ?_ | refine sdRW [0] H3 ?_ | refine stm ?_ | refine run_nil ?_ | refine sd ?_ | refine sdl ?_ | refine sdb ?_ | refine Jk ?_ | refine Jl ?_ | refine Jo ?_ ?_ | refine rund_nil ?_ | refine Jz ?_ | refine Jw ?_ | refine Jx (id := 2) [0,0,2,6,14,31,63,127,255,127,1023,2047,4095,8191,16383,8191,40959,106495,262143,524287,1048575,2097151,4194303,2097151,10485759,33554431,67108863,134217727,268435455,536870911,1073741823,2147483647,4294967295,1073741823,9663676415,1073741823,1073741823,69793218559,267361714175,549755813887,1099511627775] 41 ?_ | refine Jx (id := 6) [0,1,0,4,12,31,63,127] 7 ?_ | refine aw_block ?_ | refine Jq ?_ | refine Jt ?_ | refine Jy ?_ | refine aw_ret ?_
    all_goals try (exfalso; omega)
    refine aw_loopg
      (S := fun y : Wp => [(2, .pointer (some ⟨2, 0, none⟩)), (3, .pointer (some ⟨3, 0, none⟩)), (4, .pointer (some ⟨4, 0, none⟩)), (5, .int .i64 k), (6, .string y.d), (7, .int .i64 y.i)])
      (B := fun y : Wp => [some ⟨List.map Value.string L, false, 1⟩, some ⟨List.map Value.string P, false, 1⟩, some ⟨[.int .i64 ver, .string id, .bool true, .int .i64 mv, .int .i64 ms, .int .i64 mg, .int .i64 mq, .slice (some ⟨0, 0, none⟩) n n, .string data, .int .u64 b2, .slice (some ⟨5, 0, none⟩) p p], true, 1⟩, some ⟨[.int .i64 uk, .int .i64 uv, .string ui, .int .i64 k, .int .i64 j, .int .u64 ub, .string ud], true, 1⟩, some ⟨[.int .i64 0, .string ⟨#[]⟩, .bool false, .int .i64 0, .int .i64 0, .int .i64 0, .int .i64 0, .slice none 0 0, .string ⟨#[]⟩, .int .u64 0, .slice none 0 0], true, 1⟩, some ⟨List.map Value.string Z, true, 1⟩])
      (R := fun y : Wp => y.i ≤ p ∧ y.d = joinS (Z.take y.i) ∧ ∀ i : Nat, i < y.i → b2.testBit i = true)
      (μ := fun y : Wp => p - y.i) ⟨0, ⟨#[]⟩⟩ (fitsD [0, 1, 2, 3, 4, 6]) ⟨Nat.zero_le _, rfl, fun i hi => absurd hi (Nat.not_lt_zero _)⟩ ?_
    clear H H3
    rintro ⟨i, d⟩ ⟨g1, g2, g3⟩
    dsimp only at g1 g2 g3 ⊢
    by_cases hi : i < p
    · have hbt := hset i hi
      obtain ⟨q, hq⟩ : ∃ q, Z[i]? = some q := ⟨_, List.getElem?_eq_getElem (by omega)⟩
      have hw := bit_and b2 i hb64 (by omega)
      rw [if_pos hbt] at hw
      have hjs := jn_succ hq
      rw [← g2] at hjs
      have hjz := jn_take Z 4096 (i + 1) hZs
      rw [hjs, ByteArray.size_append] at hjz
      have hst : ∀ i' : Nat, i' < i + 1 → b2.testBit i' = true := fun i' hi' => by
        rcases Nat.lt_or_ge i' i with h | h
        · exact g3 i' h
        · obtain rfl : i' = i := by omega
          exact hbt
      clear g2 g3 HV hnx
      repeat' first | refine st (h := ok_andD rfl rfl hw) ?_ | refine st (h := ok_load_mapE (f := Value.string) i hq rfl rfl rfl (by omega)) ?_ | refine st (h := ok_str_add rfl rfl (by omega)) ?_ | refine st ?_ | refine run_nil ?_ | refine Jz ?_ | refine Jw ?_ | refine aw_block ?_ | refine Jr ?_ | refine Js ?_ | refine Jy ?_
      all_goals first | exact Exists.intro ⟨i + 1, d ++ q⟩ ⟨fitsD [0, 1, 2, 3, 4, 5], ⟨hi, hjs.symm, hst⟩, by dsimp only; omega⟩
    · obtain rfl : i = p := by omega
      rw [List.take_of_length_le (by omega)] at g2
      have hjz := jn_take Z 4096 Z.length hZs
      rw [List.take_of_length_le (Nat.le_refl _), ← g2] at hjz
      rw [← g2] at hs'
      clear g2 g3
      obtain ⟨y, hy⟩ : ∃ y, vfE mv ms mg 0 k L d = y := ⟨_, rfl⟩
      have H4 := HV d (by omega) y hy
      rw [hy] at hs'
      by_cases c6 : y = 0
      · subst c6
        have hv := vf_size hy
        rw [if_pos rfl] at hs'
        have H5 := HE b2 Z i hZl (by omega) (data ++ d) (hnx d hv)
        have hp2 := hp'
        subst hs'
        dsimp only [nxS] at H5
        rw [show (if dnN ms mg L.length (data ++ d).size = ↑L.length then [] else List.replicate (pkC ms mg mq (dnN ms mg L.length (data ++ d).size)).toNat ⟨#[]⟩) = (nxS ⟨ver, id, true, mv, ms, mg, mq, L, data ++ d, b2, Z⟩).P from rfl, hp2] at H5
        clear HV HE hnx hy
        repeat' first | refine st (h := ok_str_add rfl rfl (by omega)) ?_ | refine st ?_ | refine stRW [0] H4 ?_ | refine stMW [0, 5] H5 ?_ | refine stm ?_ | refine run_nil ?_ | refine Jz ?_ | refine Jw ?_ | refine Jq ?_ | refine Jt ?_ | refine aw_exit ?_ | refine aw_ret ?_
        all_goals first | exact pm_ret _ (renumD [0, 1, 6]) rfl
      · rw [if_neg c6] at hs'
        have H5 := HE b2 Z i hZl (by omega) data r2
        have hp2 := hp'
        subst hs'
        dsimp only [nxS] at H5
        rw [show (if dnN ms mg L.length data.size = ↑L.length then [] else List.replicate (pkC ms mg mq (dnN ms mg L.length data.size)).toNat ⟨#[]⟩) = (nxS ⟨ver, id, true, mv, ms, mg, mq, L, data, b2, Z⟩).P from rfl, hp2] at H5
        clear HV HE hnx hy
        repeat' first | refine st ?_ | refine stRW [0] H4 ?_ | refine stMW [0, 5] H5 ?_ | refine stm ?_ | refine run_nil ?_ | refine Jz ?_ | refine Jw ?_ | refine Jt ?_ | refine Jy ?_ | refine aw_exit ?_ | refine aw_ret ?_
        all_goals first | exact pm_ret _ (renumD [0, 1, 6]) rfl
  · rw [if_pos (by simpa using c5)] at hs'
    subst hs'
    dsimp only at hp'
    obtain rfl : p = p' := by rw [← hp']; exact hZl.symm
    refine acalls_of_aw Tryz.func40 rfl rfl ?_
    repeat' first | intro h1 | refine sd (h := ok_andD rfl rfl hw) ?_ | refine sd (h := ok_shlD rfl rfl (by omega) hsh) ?_ | refine sd (h := ok_orD rfl rfl hor) ?_ | refine stm (h := ok_storeN (cs' := List.map Value.string Z) rfl rfl (ListR.refl _) rfl rfl rfl rfl (by (rw [← hZ]; exact splice_map (f := Value.string) (by simp only [Nat.zero_add, Nat.mul_one]; omega) hjl)) (by ((repeat constructor); first | done | fail)) rfl) ?_ | refine stm (h := by (apply ok_append0 (xs := List.map Value.string P); rfl; rfl; rfl; rfl; rfl; rfl; (focus (refine Src.slc rfl Ty.eq rfl (by simp [hp]) (take_full (by simp [hp])) (by simp [Value.oneCell']) rfl)); (focus (exact Nat.le_refl _)); omega; (focus ((repeat constructor); first | done | fail)))) ?_ | refine st ?_ | refine stRW [0, 1] H ?_ | refine sdRW [0] H3 ?_ | refine stm ?_ | refine run_nil ?_ | refine sd ?_ | refine sdl ?_ | refine sdb ?_ | refine Jk ?_ | refine Jl ?_ | refine Jo ?_ ?_ | refine rund_nil ?_ | refine Jz ?_ | refine Jw ?_ | refine Jx (id := 2) [0,0,2,6,14,31,63,127,255,127,1023,2047,4095,8191,16383,8191,40959,106495,262143,524287,1048575,2097151,4194303,2097151,10485759,33554431,67108863,134217727,268435455,536870911,1073741823,2147483647,4294967295,1073741823,9663676415,1073741823,1073741823,69793218559,267361714175,549755813887,1099511627775] 41 ?_ | refine Jx (id := 6) [0,1,0,4,12,31,63,127] 7 ?_ | refine aw_block ?_ | refine Jq ?_ | refine Jt ?_ | refine Jy ?_ | refine aw_ret ?_
    all_goals try (exfalso; omega)
    refine aw_loopg
      (S := fun y : Wp => [(2, .pointer (some ⟨2, 0, none⟩)), (3, .pointer (some ⟨3, 0, none⟩)), (4, .pointer (some ⟨4, 0, none⟩)), (5, .int .i64 k), (6, .string y.d), (7, .int .i64 y.i)])
      (B := fun y : Wp => [some ⟨List.map Value.string L, false, 1⟩, some ⟨List.map Value.string P, false, 1⟩, some ⟨[.int .i64 ver, .string id, .bool true, .int .i64 mv, .int .i64 ms, .int .i64 mg, .int .i64 mq, .slice (some ⟨0, 0, none⟩) n n, .string data, .int .u64 b2, .slice (some ⟨5, 0, none⟩) p p], true, 1⟩, some ⟨[.int .i64 uk, .int .i64 uv, .string ui, .int .i64 k, .int .i64 j, .int .u64 ub, .string ud], true, 1⟩, some ⟨[.int .i64 0, .string ⟨#[]⟩, .bool false, .int .i64 0, .int .i64 0, .int .i64 0, .int .i64 0, .slice none 0 0, .string ⟨#[]⟩, .int .u64 0, .slice none 0 0], true, 1⟩, some ⟨List.map Value.string Z, true, 1⟩])
      (R := fun y : Wp => y.i ≤ p ∧ y.d = joinS (Z.take y.i) ∧ ∀ i : Nat, i < y.i → b2.testBit i = true)
      (μ := fun y : Wp => p - y.i) ⟨0, ⟨#[]⟩⟩ (fitsD [0, 1, 2, 3, 4, 6]) ⟨Nat.zero_le _, rfl, fun i hi => absurd hi (Nat.not_lt_zero _)⟩ ?_
    clear H H3
    rintro ⟨i, d⟩ ⟨g1, g2, g3⟩
    dsimp only at g1 g2 g3 ⊢
    by_cases hi : i < p
    · by_cases hbt : b2.testBit i = true
      · skip
        obtain ⟨q, hq⟩ : ∃ q, Z[i]? = some q := ⟨_, List.getElem?_eq_getElem (by omega)⟩
        have hw := bit_and b2 i hb64 (by omega)
        rw [if_pos hbt] at hw
        have hjs := jn_succ hq
        rw [← g2] at hjs
        have hjz := jn_take Z 4096 (i + 1) hZs
        rw [hjs, ByteArray.size_append] at hjz
        have hst : ∀ i' : Nat, i' < i + 1 → b2.testBit i' = true := fun i' hi' => by
          rcases Nat.lt_or_ge i' i with h | h
          · exact g3 i' h
          · obtain rfl : i' = i := by omega
            exact hbt
        clear g2 g3 HV HE hnx hall
        repeat' first | refine st (h := ok_andD rfl rfl hw) ?_ | refine st (h := ok_load_mapE (f := Value.string) i hq rfl rfl rfl (by omega)) ?_ | refine st (h := ok_str_add rfl rfl (by omega)) ?_ | refine st ?_ | refine run_nil ?_ | refine Jz ?_ | refine Jw ?_ | refine aw_block ?_ | refine Jr ?_ | refine Js ?_ | refine Jy ?_
        all_goals first | exact Exists.intro ⟨i + 1, d ++ q⟩ ⟨fitsD [0, 1, 2, 3, 4, 5], ⟨hi, hjs.symm, hst⟩, by dsimp only; omega⟩
      · have hw := bit_and b2 i hb64 (by omega)
        rw [if_neg hbt] at hw
        clear g2 g3 HV HE hnx hall
        repeat' first | refine st (h := ok_andD rfl rfl hw) ?_ | refine st ?_ | refine stm ?_ | refine run_nil ?_ | refine Jz ?_ | refine Jw ?_ | refine aw_block ?_ | refine Jq ?_ | refine Js ?_ | refine Jy ?_ | refine aw_ret ?_
        all_goals first | exact pm_ret _ (renumD [0, 1, 5]) rfl
    · obtain rfl : i = p := by omega
      exact absurd (hall.2 g3) c5
end Go.Proofs.YtjofcjogbopkjaaGreat
