/- Transfer: the next packets. Transfer: a packet put. Transfer: right stores (plain). -/
import Derived.Test.YtjofcjogbopkjaaGreatVL
import Derived.Test.YtjofcjogbopkjaaGreatU4
set_option linter.unusedVariables false
set_option linter.unusedSimpArgs false
namespace Go.Proofs.YtjofcjogbopkjaaGreat
open Go Av
set_option maxRecDepth 20000
theorem ac_next (s : Sto) (n p : Nat) (hn : s.L.length = n) (hp : s.P.length = p) (hb : n ≤ 1000000 ∧ p ≤ 1000000) (hc : chkM s.mv s.ms s.mg s.mq s.L = 0) (hdb : dnB s.ms s.mg s.data.size = true) (hd : s.data.size ≤ 1000000) (P' : List ByteArray) (m : Nat) (hP : (nxS s).P = P') (hm : P'.length = m) : ACalls Tryz.prog 34 [.pointer (some ⟨2, 0, none⟩)] [some ⟨List.map Value.string s.L, false, 1⟩, some ⟨List.map Value.string s.P, false, 1⟩, some ⟨[.int .i64 s.ver, .string s.id, .bool s.kn, .int .i64 s.mv, .int .i64 s.ms, .int .i64 s.mg, .int .i64 s.mq, .slice (some ⟨0, 0, none⟩) n n, .string s.data, .int .u64 s.bits, .slice (some ⟨1, 0, none⟩) p p], true, 1⟩] (.tuple #[]) [none, none, some ⟨[.int .i64 s.ver, .string s.id, .bool s.kn, .int .i64 s.mv, .int .i64 s.ms, .int .i64 s.mg, .int .i64 s.mq, .slice (some ⟨0, 0, none⟩) n n, .string s.data, .int .u64 0, .slice (some ⟨3, 0, none⟩) m m], true, 1⟩, some ⟨List.map Value.string P', true, 1⟩] := by
  have H := ac_done s n p hn hp hb (by have := chk_ok hc; have := siz_bd this.1; omega) hd _ rfl true hdb
  have HP := fun (i : Int) (e x : Int) (he : pgE 0 n i = e) (hx : pkM s.ms s.mg s.mq i e = x) => ac_packets s.mv s.ms s.mg s.mq i s.L n hn (by omega) 0 hc e he x hx
  obtain ⟨k, hk, f1, f2, f3, f4, f5, f6, f7, f8, f9⟩ := dn_fc hn hc hdb
  rw [hk] at H
  have HF := fun h => page_fc (i := k) hn hc h
  unfold nxS at hP
  dsimp only at hP
  rw [hn, hk] at hP
  clear hc hdb
  obtain ⟨ver, id, kn, mv, ms, mg, mq, L, data, bits, P⟩ := s
  dsimp only at *
  by_cases hkn : k = n
  · subst hkn
    rw [if_pos rfl] at hP
    subst hP
    obtain rfl : m = 0 := hm.symm
    have H1 := HP k 2 0 (by unfold pgE; rw [if_neg (by decide), if_pos (by omega)]) (if_pos (by decide))
    clear HP HF
    refine acalls_of_aw Tryz.func34 rfl rfl ?_
    refine aw_ghost 1 rfl ?_
    repeat' first | refine st ?_ | refine stRW [0, 1] H ?_ | refine stRW [0] H1 ?_ | refine stm ?_ | refine run_nil ?_ | refine Own.so ?_ | refine Own.som (n := 1) ?_ | refine Own.sow ?_ | refine Own.sob ?_ | refine Own.runo_nil ?_ | refine Jz ?_ | refine Jw ?_ | refine aw_region_oC (id := 2) [0, 0, 0, 4, 1, 17, 49, 127, 255, 511] 7 [[], [], [], [], [], [], [2], [], [], []] (by (repeat constructor)) (by kernel_rfl) (by kernel_rfl) (by kernel_rfl) (by rfl) (by rfl) ?_ | refine Jq ?_
    all_goals first | (refine pmw_normal _ (renumA [0, 1, 2, 3]) ?_; exact Wk.refl _)
  · rw [if_neg (by omega)] at hP
    obtain ⟨K, k1, k2, k3, k4, k5, k6, k7⟩ := HF (by omega)
    rw [k1, Int.toNat_natCast] at hP
    subst hP
    rw [List.length_replicate] at hm
    have eP : List.map Value.string (List.replicate K ⟨#[]⟩) = List.replicate K (Value.string ByteArray.empty) := by rw [List.map_replicate]; rfl
    subst hm
    have H1 := HP k 0 K k4 k5
    clear HP HF k7
    refine acalls_of_aw Tryz.func34 rfl rfl ?_
    repeat' first | refine st ?_ | refine stRW [0, 1] H ?_ | refine stRW [0] H1 ?_ | refine run_nil ?_ | refine Own.so ?_ | refine Own.som (n := 1) ?_ | refine Own.sow ?_ | refine Own.sob ?_ | refine Own.runo_nil ?_ | refine Jz ?_ | refine Jw ?_ | refine aw_region_oC (id := 2) [0, 0, 0, 4, 1, 17, 49, 127, 255, 511] 7 [[], [], [], [], [], [], [2], [], [], []] (by (repeat constructor)) (by kernel_rfl) (by kernel_rfl) (by kernel_rfl) (by rfl) (by rfl) ?_ | refine Jt ?_ | refine Jy ?_
    all_goals (try simp only [Int.toNat_natCast])
    all_goals (try rw [← eP])
    all_goals first | exact pm_normal _ (renumD [0, 1, 2, 3]) rfl
end Go.Proofs.YtjofcjogbopkjaaGreat
namespace Go.Proofs.YtjofcjogbopkjaaGreat
open Go Av
set_option maxRecDepth 20000
theorem ok_andD {P : Program} {ρ : Operand → Option Value} {m : Mem} {d : Option Tmp} {t : TypeId} {pp : String} {af : Array Edge} {g : Option (Nat × Bool)} {xt yt : TypeId} {x y : Operand} {k a b} {c : Int} (hx : ρ x = some (.int k a)) (hy : ρ y = some (.int k b)) (h : bitv .and k a b = c) : OpOK P ⟨d, .binOp .and xt x y yt, t, pp, af, g⟩ ρ m (.int k c) m := by
  subst h
  exact ok_and hx hy
theorem ok_orD {P : Program} {ρ : Operand → Option Value} {m : Mem} {d : Option Tmp} {t : TypeId} {pp : String} {af : Array Edge} {g : Option (Nat × Bool)} {xt yt : TypeId} {x y : Operand} {k a b} {c : Int} (hx : ρ x = some (.int k a)) (hy : ρ y = some (.int k b)) (h : bitv .or k a b = c) : OpOK P ⟨d, .binOp .or xt x y yt, t, pp, af, g⟩ ρ m (.int k c) m := by
  subst h
  exact ok_or hx hy
theorem ok_shlD {P : Program} {ρ : Operand → Option Value} {m : Mem} {d : Option Tmp} {t : TypeId} {pp : String} {af : Array Edge} {g : Option (Nat × Bool)} {xt yt : TypeId} {x y : Operand} {k k' a b} {c : Int} (hx : ρ x = some (.int k a)) (hy : ρ y = some (.int k' b)) (h0 : 0 ≤ b) (h : k.wrap (a * 2 ^ (min b.toNat k.bits)) = c) : OpOK P ⟨d, .binOp .shl xt x y yt, t, pp, af, g⟩ ρ m (.int k c) m := by
  subst h
  exact ok_shl hx hy h0
theorem vf_size {v sz pg i : Int} {L : List ByteArray} {d : ByteArray} (h : vfE v sz pg 0 i L d = 0) : (d.size : Int) = lenM sz pg i := by
  unfold vfE at h
  rw [if_neg (by decide)] at h
  split at h
  · omega
  · rename_i h1
    omega
theorem join_le : ∀ (P : List ByteArray) (c : Nat), (∀ q ∈ P, q.size ≤ c) → (P.flatMap fun s => s.data.toList).length ≤ c * P.length
  | [], c, _ => by simp
  | a :: P, c, h => by
    have h1 : a.data.toList.length ≤ c := by have := h a (by simp); rw [Array.length_toList]; exact this
    have h2 := join_le P c fun q hq => h q (by simp [hq])
    rw [List.flatMap_cons, List.length_append, List.length_cons, Nat.mul_succ]
    omega
/-- Data with one more page. -/
theorem dn_next {v ms mg mq : Int} {L : List ByteArray} {n k : Nat} {d q : ByteArray} (hn : L.length = n) (hc : chkM v ms mg mq L = 0) (hk : k < n) (hd : (d.size : Int) = k * mg) (hq : (q.size : Int) = lenM ms mg k) : dnB ms mg (d ++ q).size = true := by
  obtain ⟨q1, q2, q3, q4, q5⟩ := chk_ok hc
  have hbd := siz_bd q1
  have h1 : (k : Int) * mg < ms := (parts_lt (by omega)).1 (by omega)
  have h2 : (((d ++ q).size : Nat) : Int) = k * mg + lenM ms mg k := by rw [ByteArray.size_append]; omega
  unfold lenM at h2
  refine decide_eq_true ?_
  rcases Int.lt_or_le mg (ms - k * mg) with h | h
  · rw [Int.min_eq_left (by omega)] at h2
    refine .inr ⟨by omega, ?_⟩
    rw [h2, show (k : Int) * mg + mg = (k + 1) * mg by rw [Int.add_mul, Int.one_mul]]
    exact Int.mul_emod_left _ _
  · rw [Int.min_eq_right (by omega)] at h2
    exact .inl (by omega)
set_option maxHeartbeats 16000000 in
theorem ac_put (s : Sto) (n p : Nat) (hn : s.L.length = n) (hp : s.P.length = p) (hb : n ≤ 1000000 ∧ p ≤ 1000000) (hc : chkM s.mv s.ms s.mg s.mq s.L = 0) (hdb : dnB s.ms s.mg s.data.size = true) (hd : s.data.size ≤ 100000) (hbits : s.bits < 18446744073709551616) (k : Nat) (hk : dnN s.ms s.mg n s.data.size = k) (hkn : k < n) (ho : opnB s.ms s.mg s.mq k s.bits s.P = true)
    (uk uv : Int) (ui : ByteArray) (up ut : Int) (ub : Nat) (ud : ByteArray) (hut : 0 ≤ ut ∧ ut < 64) (hud : ud.size ≤ 96) (s' : Sto) (hs' : puS s ⟨uk, uv, ui, up, ut, ub, ud⟩ = s') (p' : Nat) (hp' : s'.P.length = p') :
    ACalls Tryz.prog 36 [.pointer (some ⟨2, 0, none⟩), .agg #[.int .i64 uk, .int .i64 uv, .string ui, .int .i64 up, .int .i64 ut, .int .u64 ub, .string ud]] [some ⟨List.map Value.string s.L, false, 1⟩, some ⟨List.map Value.string s.P, true, 1⟩, some ⟨[.int .i64 s.ver, .string s.id, .bool s.kn, .int .i64 s.mv, .int .i64 s.ms, .int .i64 s.mg, .int .i64 s.mq, .slice (some ⟨0, 0, none⟩) n n, .string s.data, .int .u64 s.bits, .slice (some ⟨1, 0, none⟩) p p], true, 1⟩] (.tuple #[]) [none, none, some ⟨[.int .i64 s'.ver, .string s'.id, .bool s'.kn, .int .i64 s'.mv, .int .i64 s'.ms, .int .i64 s'.mg, .int .i64 s'.mq, .slice (some ⟨0, 0, none⟩) n n, .string s'.data, .int .u64 s'.bits, .slice (some ⟨3, 0, none⟩) p' p'], true, 1⟩, some ⟨List.map Value.string s'.P, true, 1⟩] := by
  have HD := ac_done s n p hn hp hb (by have := chk_ok hc; have := siz_bd this.1; omega) (by omega) _ rfl true hdb
  rw [hk] at HD
  have HS := fun (i j e x e2 fr to : Int) (he : pgE 0 n i = e) (hx : pkM s.ms s.mg s.mq i e = x) (he2 : spE e x j = e2) (hfr : spF s.mg s.mq i j e2 = fr) (hto : spT s.ms s.mg s.mq i j e2 = to) => ac_span s.mv s.ms s.mg s.mq i j s.L n hn (by omega) 0 hc e he x hx e2 he2 fr to hfr hto
  obtain ⟨K, k1, k2, k3, k4, k5, k6, k7⟩ := page_fc hn hc hkn
  have ho' := of_decide_eq_true ho
  obtain ⟨o1, o2, o3, o4⟩ := ho'
  have HV := fun (q : ByteArray) (hq : q.size ≤ 1000000) (y : Int) (hy : vfE s.mv s.ms s.mg 0 k s.L q = y) => ac_verify s.mv s.ms s.mg s.mq k s.L n hn (by omega) q (by omega) 0 hc 0 k4 y hy
  obtain ⟨dk, dk1, f1, f2, f3, f4, f5, f6, f7, f8, f9⟩ := dn_fc hn hc hdb
  have hdk : (s.data.size : Int) = k * s.mg := by
    rw [hk] at dk1
    have : k = dk := by omega
    subst this
    exact f3 hkn
  have HN := fun (b : Nat) (P' : List ByteArray) (m : Nat) (hm : P'.length = m) (hmb : m ≤ 1000000) (d' : ByteArray) (hd' : d'.size ≤ 1000000) (hdb' : dnB s.ms s.mg d'.size = true) => ac_next { s with bits := b, P := P', data := d' } n m hn hm ⟨hb.1, hmb⟩ hc hdb' hd' _ _ rfl rfl
  have hnx := fun q : ByteArray => dn_next (d := s.data) (q := q) hn hc hkn hdk
  have hbt := fun h => bit_and s.bits ut.toNat hbits h
  unfold puS at hs'
  dsimp only at hs' HN
  rw [hn, hk] at hs'
  rw [show ((ut.toNat : Nat) : Int) = ut by omega] at hbt
  clear hc
  have hP : p = K := by omega
  subst hP
  obtain ⟨ver, id, kn, mv, ms, mg, mq, L, data, bits, P⟩ := s
  dsimp only at *
  rw [hp] at hs'
  obtain ⟨e, he⟩ : ∃ e, pgE 0 n up = e := ⟨_, rfl⟩
  obtain ⟨x, hx⟩ : ∃ x, pkM ms mg mq up e = x := ⟨_, rfl⟩
  obtain ⟨e2, he2⟩ : ∃ e2, spE e x ut = e2 := ⟨_, rfl⟩
  obtain ⟨fr, hfr⟩ : ∃ fr, spF mg mq up ut e2 = fr := ⟨_, rfl⟩
  obtain ⟨to, hto⟩ : ∃ to, spT ms mg mq up ut e2 = to := ⟨_, rfl⟩
  have H1 := HS up ut e x e2 fr to he hx he2 hfr hto
  by_cases c1 : up = k
  · subst c1
    rw [k4] at he
    subst he
    rw [k5] at hx
    subst hx
    by_cases c2 : ut < p
    · obtain ⟨j, hj⟩ : ∃ j : Nat, ut = j := ⟨ut.toNat, by omega⟩
      subst hj
      rw [Int.toNat_natCast] at hs' hbt
      obtain ⟨w1, w2, w3, w4⟩ := k7 j (by omega)
      rw [w1] at he2
      subst he2
      rw [hfr] at w2 w3
      rw [hto] at w3 w4
      have hpl : pkL ms mg mq k j = to - fr := by unfold pkL; rw [hfr, hto]
      have hw := hbt (by omega)
      rw [hpl] at hs'
      by_cases c3 : bits.testBit j = true
      · rw [if_pos (.inr (.inr (.inl c3)))] at hs'
        subst hs'
        dsimp only at hp'
        obtain rfl : p' = p := by rw [← hp']; exact hp
        rw [if_pos c3] at hw
        clear HV HN HS hnx k7 o4 ho hbt hfr hto
        refine acalls_of_aw Tryz.func36 rfl rfl ?_
        repeat' first | intro h1 | refine sd (h := ok_andD rfl rfl hw) ?_ | refine st ?_ | refine stRW [0, 1] HD ?_ | refine sdRW [0] H1 ?_ | refine stm ?_ | refine run_nil ?_ | refine sd ?_ | refine sdl ?_ | refine Jk ?_ | refine Jl ?_ | refine Jo ?_ ?_ | refine rund_nil ?_ | refine Jz ?_ | refine Jw ?_ | refine Jx (id := 2) [0,1,3,7,0,16,0,64,255,511,1023,1023,1023,2047,12287,32767] 16 ?_ | refine Jx (id := 3) [0,1,0,7,15,31,63,127,255,511,1023,2047,4095,511,8703,32767,65535,131071,262143,524287,1048575,2097151,4194303,1048575,1048575,26214399,67108863,134217727] 28 ?_ | refine Jq ?_ | refine aw_ret ?_
        all_goals first | (exfalso; omega) | exact pm_normal _ (renumD [0, 1, 2, 1]) rfl
      · rw [if_neg c3] at hw
        by_cases c4 : (ud.size : Int) = to - fr
        · rw [if_neg (by rintro (h | h | h | h); exact h rfl; omega; exact c3 h; exact h c4)] at hs'
          obtain ⟨b2, hb2⟩ : ∃ b2, bits ||| 2 ^ j = b2 := ⟨_, rfl⟩
          have hor := or_u bits (2 ^ j) hbits (Nat.pow_lt_pow_right (a := 2) (m := j) (n := 64) (by decide) (by omega))
          rw [hb2] at hor hs'
          have hsh := shl_one j (by omega)
          have HF := ac_full p (by omega)
          obtain ⟨F, hF⟩ : ∃ F, 2 ^ p - 1 = F := ⟨_, rfl⟩
          rw [hF] at HF hs'
          have hjl : j < P.length := by omega
          obtain ⟨Z, hZ⟩ : ∃ Z, P.set j ud = Z := ⟨_, rfl⟩
          have hZl : Z.length = p := by rw [← hZ, List.length_set]; exact hp
          rw [hZ] at hs'
          by_cases c5 : b2 = F
          · rw [if_neg (by simpa using c5)] at hs'
            have hZs : ∀ q ∈ Z, q.size ≤ 4096 := fun q hq => by
              rw [← hZ] at hq
              rcases List.mem_or_eq_of_mem_set hq with h | h
              · obtain ⟨i, hi, he⟩ := List.mem_iff_getElem.1 h
                have := o4 i (by omega)
                rw [List.getD_eq_getElem?_getD, List.getElem?_eq_getElem hi, he] at this
                obtain ⟨v1, v2, v3, v4⟩ := k7 i (by omega)
                unfold pkL at this
                unfold lenM at v4 k6
                dsimp only [Option.getD_some] at this
                split at this <;> omega
              · rw [h]; omega
            have hjs := join_le Z 4096 hZs
            rw [hZl] at hjs
            have hjb : (joinS Z).size ≤ 1000000 := by
              rw [join_size]
              have : 4096 * p ≤ 4096 * 64 := Nat.mul_le_mul_left _ (by omega)
              omega
            have HJ := ac_join Z p hZl (by rw [← join_size]; exact hjb) (by omega)
            obtain ⟨J, hJ⟩ : ∃ J, joinS Z = J := ⟨_, rfl⟩
            rw [hJ] at HJ hs' hjb
            obtain ⟨y, hy⟩ : ∃ y, vfE mv ms mg 0 k L J = y := ⟨_, rfl⟩
            have H4 := HV J hjb y hy
            rw [hy] at hs'
            by_cases c6 : y = 0
            · subst c6
              have hsz := vf_size hy
              rw [if_pos rfl] at hs'
              have hlb : lenM ms mg k ≤ 4096 := by unfold lenM; omega
              have H5 := HN b2 Z p hZl (by omega) (data ++ J) (by rw [ByteArray.size_append]; omega) (hnx J hsz)
              rw [hs'] at H5
              have hp2 := hp'
              subst hs'
              dsimp only [nxS] at H5
              rw [show (if dnN ms mg L.length (data ++ J).size = ↑L.length then [] else List.replicate (pkC ms mg mq (dnN ms mg L.length (data ++ J).size)).toNat ⟨#[]⟩) = (nxS ⟨ver, id, kn, mv, ms, mg, mq, L, data ++ J, b2, Z⟩).P from rfl, hp2] at H5
              clear HV HN HS hnx k7 o4 ho hbt hfr hto hjs hZs
              refine acalls_of_aw Tryz.func36 rfl rfl ?_
              repeat' first | intro h1 | refine sd (h := ok_andD rfl rfl hw) ?_ | refine sd (h := ok_shlD rfl rfl (by omega) hsh) ?_ | refine sd (h := ok_orD rfl rfl hor) ?_ | refine sdb (h := ok_storeN (cs' := List.map Value.string Z) rfl rfl (ListR.refl _) rfl rfl rfl rfl (by (rw [← hZ]; exact splice_map (f := Value.string) (by simp only [Nat.zero_add, Nat.mul_one]; omega) hjl)) (by ((repeat constructor); first | done | fail)) rfl) ?_ | refine st (h := ok_str_add rfl rfl (by omega)) ?_ | refine st ?_ | refine stRW [0, 1] HD ?_ | refine sdRW [0] H1 ?_ | refine sd_call (HF) ?_ | refine stRW [1] HJ ?_ | refine stRW [0] H4 ?_ | refine stMW [0, 1, 2] H5 ?_ | refine stm ?_ | refine run_nil ?_ | refine sd ?_ | refine sdl ?_ | refine sdb ?_ | refine Jk ?_ | refine Jl ?_ | refine Jo ?_ ?_ | refine rund_nil ?_ | refine Jz ?_ | refine Jw ?_ | refine Jx (id := 2) [0,1,3,7,0,16,0,64,255,511,1023,1023,1023,2047,12287,32767] 16 ?_ | refine Jx (id := 3) [0,1,0,7,15,31,63,127,255,511,1023,2047,4095,511,8703,32767,65535,131071,262143,524287,1048575,2097151,4194303,1048575,1048575,26214399,67108863,134217727] 28 ?_ | refine Jx (id := 4) [0,1,3,7,0,16,0,64,255,511] 9 ?_ | refine Jx (id := 5) [0,1,3,7,0,16,48,127,255,511,1023] 10 ?_ | refine Jx (id := 6) [0,1,3,7,0,16,48,112,240,496,1023] 11 ?_ | refine Jq ?_ | refine Jt ?_ | refine Jy ?_ | refine aw_ret ?_
              all_goals first | (exfalso; omega) | exact pm_normal _ (renumD [0, 1, 2, 4]) rfl
            · rw [if_neg c6] at hs'
              have H5 := HN b2 Z p hZl (by omega) data (by omega) hdb
              have hp2 := hp'
              subst hs'
              dsimp only [nxS] at H5
              rw [show (if dnN ms mg L.length data.size = ↑L.length then [] else List.replicate (pkC ms mg mq (dnN ms mg L.length data.size)).toNat ⟨#[]⟩) = (nxS ⟨ver, id, kn, mv, ms, mg, mq, L, data, b2, Z⟩).P from rfl, hp2] at H5
              clear HV HN HS hnx k7 o4 ho hbt hfr hto hjs hZs
              refine acalls_of_aw Tryz.func36 rfl rfl ?_
              repeat' first | intro h1 | refine sd (h := ok_andD rfl rfl hw) ?_ | refine sd (h := ok_shlD rfl rfl (by omega) hsh) ?_ | refine sd (h := ok_orD rfl rfl hor) ?_ | refine sdb (h := ok_storeN (cs' := List.map Value.string Z) rfl rfl (ListR.refl _) rfl rfl rfl rfl (by (rw [← hZ]; exact splice_map (f := Value.string) (by simp only [Nat.zero_add, Nat.mul_one]; omega) hjl)) (by ((repeat constructor); first | done | fail)) rfl) ?_ | refine st ?_ | refine stRW [0, 1] HD ?_ | refine sdRW [0] H1 ?_ | refine sd_call (HF) ?_ | refine stRW [1] HJ ?_ | refine stRW [0] H4 ?_ | refine stMW [0, 1, 2] H5 ?_ | refine stm ?_ | refine run_nil ?_ | refine sd ?_ | refine sdl ?_ | refine sdb ?_ | refine Jk ?_ | refine Jl ?_ | refine Jo ?_ ?_ | refine rund_nil ?_ | refine Jz ?_ | refine Jw ?_ | refine Jx (id := 2) [0,1,3,7,0,16,0,64,255,511,1023,1023,1023,2047,12287,32767] 16 ?_ | refine Jx (id := 3) [0,1,0,7,15,31,63,127,255,511,1023,2047,4095,511,8703,32767,65535,131071,262143,524287,1048575,2097151,4194303,1048575,1048575,26214399,67108863,134217727] 28 ?_ | refine Jx (id := 4) [0,1,3,7,0,16,0,64,255,511] 9 ?_ | refine Jx (id := 5) [0,1,3,7,0,16,48,127,255,511,1023] 10 ?_ | refine Jx (id := 6) [0,1,3,7,0,16,48,112,240,496,1023] 11 ?_ | refine Jq ?_ | refine Jt ?_ | refine Jy ?_ | refine aw_ret ?_
              all_goals first | (exfalso; omega) | exact pm_normal _ (renumD [0, 1, 2, 4]) rfl
          · rw [if_pos (by simpa using c5)] at hs'
            subst hs'
            dsimp only at hp'
            obtain rfl : p' = p := by rw [← hp']; exact hZl
            clear HV HN HS hnx k7 o4 ho hbt hfr hto
            refine acalls_of_aw Tryz.func36 rfl rfl ?_
            repeat' first | intro h1 | refine sd (h := ok_andD rfl rfl hw) ?_ | refine sd (h := ok_shlD rfl rfl (by omega) hsh) ?_ | refine sd (h := ok_orD rfl rfl hor) ?_ | refine sdb (h := ok_storeN (cs' := List.map Value.string Z) rfl rfl (ListR.refl _) rfl rfl rfl rfl (by (rw [← hZ]; exact splice_map (f := Value.string) (by simp only [Nat.zero_add, Nat.mul_one]; omega) hjl)) (by ((repeat constructor); first | done | fail)) rfl) ?_ | refine st ?_ | refine stRW [0, 1] HD ?_ | refine sdRW [0] H1 ?_ | refine sd_call (HF) ?_ | refine stm ?_ | refine run_nil ?_ | refine sd ?_ | refine sdl ?_ | refine sdb ?_ | refine Jk ?_ | refine Jl ?_ | refine Jo ?_ ?_ | refine rund_nil ?_ | refine Jz ?_ | refine Jw ?_ | refine Jx (id := 2) [0,1,3,7,0,16,0,64,255,511,1023,1023,1023,2047,12287,32767] 16 ?_ | refine Jx (id := 3) [0,1,0,7,15,31,63,127,255,511,1023,2047,4095,511,8703,32767,65535,131071,262143,524287,1048575,2097151,4194303,1048575,1048575,26214399,67108863,134217727] 28 ?_ | refine Jx (id := 4) [0,1,3,7,0,16,0,64,255,511] 9 ?_ | refine Jx (id := 5) [0,1,3,7,0,16,48,127,255,511,1023] 10 ?_ | refine Jx (id := 6) [0,1,3,7,0,16,48,112,240,496,1023] 11 ?_ | refine Jq ?_ | refine Js ?_ | refine Jt ?_ | refine Jy ?_ | refine aw_ret ?_
            all_goals first | (exfalso; omega) | exact pm_normal _ (renumD [0, 1, 2, 1]) rfl
        · rw [if_pos (.inr (.inr (.inr c4)))] at hs'
          subst hs'
          dsimp only at hp'
          obtain rfl : p' = p := by rw [← hp']; exact hp
          clear HV HN HS hnx k7 o4 ho hbt hfr hto
          refine acalls_of_aw Tryz.func36 rfl rfl ?_
          repeat' first | intro h1 | refine sd (h := ok_andD rfl rfl hw) ?_ | refine st ?_ | refine stRW [0, 1] HD ?_ | refine sdRW [0] H1 ?_ | refine stm ?_ | refine run_nil ?_ | refine sd ?_ | refine sdl ?_ | refine Jk ?_ | refine Jl ?_ | refine Jo ?_ ?_ | refine rund_nil ?_ | refine Jz ?_ | refine Jw ?_ | refine Jx (id := 2) [0,1,3,7,0,16,0,64,255,511,1023,1023,1023,2047,12287,32767] 16 ?_ | refine Jx (id := 3) [0,1,0,7,15,31,63,127,255,511,1023,2047,4095,511,8703,32767,65535,131071,262143,524287,1048575,2097151,4194303,1048575,1048575,26214399,67108863,134217727] 28 ?_ | refine Jq ?_ | refine Js ?_ | refine aw_ret ?_
          all_goals first | (exfalso; omega) | exact pm_normal _ (renumD [0, 1, 2, 1]) rfl
    · rw [if_pos (.inr (.inl (by omega)))] at hs'
      subst hs'
      dsimp only at hp'
      obtain rfl : p' = p := by rw [← hp']; exact hp
      obtain rfl : e2 = 2 := by rw [← he2]; unfold spE; rw [if_neg (by decide), if_pos (by omega)]
      clear HV HN HS hnx k7 o4 ho hbt hfr hto he2
      refine acalls_of_aw Tryz.func36 rfl rfl ?_
      repeat' first | intro h1 | refine st ?_ | refine stRW [0, 1] HD ?_ | refine sdRW [0] H1 ?_ | refine stm ?_ | refine run_nil ?_ | refine sd ?_ | refine sdl ?_ | refine Jk ?_ | refine Jl ?_ | refine Jo ?_ ?_ | refine rund_nil ?_ | refine Jz ?_ | refine Jw ?_ | refine Jx (id := 2) [0,1,3,7,0,16,0,64,255,511,1023,1023,1023,2047,12287,32767] 16 ?_ | refine Jx (id := 3) [0,1,0,7,15,31,63,127,255,511,1023,2047,4095,511,8703,32767,65535,131071,262143,524287,1048575,2097151,4194303,1048575,1048575,26214399,67108863,134217727] 28 ?_ | refine Jq ?_ | refine aw_ret ?_
      all_goals first | (exfalso; omega) | exact pm_normal _ (renumD [0, 1, 2, 1]) rfl
  · rw [if_pos (.inl (by omega))] at hs'
    subst hs'
    dsimp only at hp'
    obtain rfl : p' = p := by rw [← hp']; exact hp
    clear HV HN HS hnx k7 o4 ho hbt hfr hto he2 hx he
    refine acalls_of_aw Tryz.func36 rfl rfl ?_
    repeat' first | intro h1 | refine st ?_ | refine stRW [0, 1] HD ?_ | refine sdRW [0] H1 ?_ | refine stm ?_ | refine run_nil ?_ | refine sd ?_ | refine sdl ?_ | refine Jk ?_ | refine Jl ?_ | refine Jo ?_ ?_ | refine rund_nil ?_ | refine Jz ?_ | refine Jw ?_ | refine Jx (id := 2) [0,1,3,7,0,16,0,64,255,511,1023,1023,1023,2047,12287,32767] 16 ?_ | refine Jx (id := 3) [0,1,0,7,15,31,63,127,255,511,1023,2047,4095,511,8703,32767,65535,131071,262143,524287,1048575,2097151,4194303,1048575,1048575,26214399,67108863,134217727] 28 ?_ | refine Jq ?_ | refine Js ?_ | refine aw_ret ?_
    all_goals first | (exfalso; omega) | exact pm_normal _ (renumD [0, 1, 2, 1]) rfl
end Go.Proofs.YtjofcjogbopkjaaGreat
namespace Go.Proofs.YtjofcjogbopkjaaGreat
open Go Av
set_option maxRecDepth 20000
/-- A right store with a manifest. -/
theorem knB_spec {s : Sto} {n p : Nat} (hn : s.L.length = n) (hp : s.P.length = p) (h : knB s = true) : chkM s.mv s.ms s.mg s.mq s.L = 0 ∧ s.mv = s.ver ∧ dig 0 (idB (encS s.mv s.ms s.mg s.mq s.L)).data.toList = s.id ∧ dnB s.ms s.mg s.data.size = true ∧
    ∃ k : Nat, dnN s.ms s.mg n s.data.size = k ∧ k ≤ n ∧ pgsB s.mv s.ms s.mg s.L s.data k = true ∧ (k = n → (s.data.size : Int) = s.ms ∧ s.bits = 0 ∧ p = 0) ∧ (k < n → (s.data.size : Int) ≠ s.ms ∧ opnB s.ms s.mg s.mq k s.bits s.P = true) ∧ n ≤ 64 ∧ 1 ≤ s.mg ∧ (s.data.size : Int) ≤ s.ms ∧ s.ms ≤ 65536 := by
  unfold knB at h
  rw [Bool.and_eq_true, Bool.and_eq_true, Bool.and_eq_true, hn, hp] at h
  obtain ⟨⟨⟨h1, h2⟩, h3⟩, h4⟩ := h
  obtain ⟨c1, c2, c3⟩ := of_decide_eq_true h1
  obtain ⟨k, hk, f1, f2, f3, f4, f5, f6, f7, f8, f9⟩ := dn_fc hn c1 h2
  rw [hk] at h3 h4
  rw [Int.toNat_natCast] at h3
  refine ⟨c1, c2, c3, h2, k, hk, f1, h3, fun h => ?_, fun h => ?_, f8, f4, f6, f7⟩
  · rw [if_pos (by omega)] at h4
    exact ⟨f9.1 h, of_decide_eq_true h4⟩
  · rw [if_neg (by omega)] at h4
    exact ⟨fun he => by have := f9.2 he; omega, h4⟩
theorem chS_spec {s : Sto} (h : chS s = true) : zeB s = true ∨ (zeB s = false ∧ (1 ≤ s.ver ∧ s.ver ≤ 65535 ∧ s.id.size = 32) ∧ (s.kn = true → knB s = true) ∧ (s.kn = false → noK s.mv s.ms s.mg s.mq s.L.length s.data.size s.bits s.P.length = true)) := by
  unfold chS at h
  cases hz : zeB s with
  | true => exact .inl rfl
  | false =>
    rw [hz, Bool.false_or, Bool.and_eq_true] at h
    refine .inr ⟨rfl, of_decide_eq_true h.1, fun hk => ?_, fun hk => ?_⟩
    · have := h.2; rwa [if_pos hk] at this
    · have := h.2; rwa [if_neg (by rw [hk]; decide)] at this
end Go.Proofs.YtjofcjogbopkjaaGreat
