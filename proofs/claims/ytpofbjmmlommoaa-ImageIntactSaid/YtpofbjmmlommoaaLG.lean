/- ImageIntact: the law. -/
import Derived.Test.YtpofbjmmlommoaaL0
set_option linter.unusedVariables false
set_option linter.unusedSimpArgs false
namespace Go.Proofs.Ytpofbjmmlommoaa
open Go Av
set_option maxRecDepth 20000
theorem ok_xorE {P : Program} {ρ : Operand → Option Value} {m : Mem} {d : Option Tmp} {t : TypeId} {pp : String} {af : Array Edge} {g : Option (Nat × Bool)} {xt x y yt k a b} {c : Int} (hc : bitv .xor k a b = c) (hx : ρ x = some (.int k a)) (hy : ρ y = some (.int k b)) : OpOK P ⟨d, .binOp .xor xt x y yt, t, pp, af, g⟩ ρ m (.int k c) m := hc ▸ ok_xor hx hy
theorem ok_bytes_strE {P : Program} {ρ : Operand → Option Value} {m : Mem} {d : Option Tmp} {t : TypeId} {pp : String} {af : Array Edge} {g : Option (Nat × Bool)} {src dst : TypeId} {x : Operand} {id o n c : Nat} {e : TypeId} {B : Blk} {l : List UInt8} {z : ByteArray} (hz : (⟨l.toArray⟩ : ByteArray) = z) [Ty P src (.slice e)] [Ty P e (.int .u8)] [Ty P dst .string] (hx : ρ x = some (.slice (some ⟨id, o, none⟩) n c)) (hB : live m id = some B) (hfit : o + n ≤ B.cells.length) (hl : (B.cells.drop o).take n = l.map u8v) (hmz : Nat.beq B.z mapZ = false) :
    OpOK P ⟨d, .convert src dst x, t, pp, af, g⟩ ρ m (.string z) m := hz ▸ ok_bytes_str hx hB hfit hl hmz
theorem xor_u8 (a b : Int) : ∃ c : UInt8, bitv .xor .u8 a b = (c.toNat : Int) := by
  have h : ∀ x : Int, ∃ c : UInt8, IntKind.u8.wrap x = (c.toNat : Int) := fun x => ⟨b8 x, by
    have := u8v_b8 x
    unfold u8v at this
    injection this with _ h
    exact h.symm⟩
  exact h _
theorem mk_chk {v : Int} {d : ByteArray} {pg pk : Int} (h : mkE v d pg pk = 0) (N : Nat) (hN : mkN d pg = N) : chkM v d.size pg pk (mkL v d pg N) = 0 ∧ 1 ≤ N ∧ N ≤ 64 ∧ 1 ≤ pg ∧ 1 ≤ d.size ∧ (N : Int) = ((d.size : Int) + pg - 1) / pg := by
  unfold mkE at h
  split at h
  · omega
  rename_i h1
  split at h
  · omega
  rename_i h2
  split at h
  · omega
  rename_i h3
  have hb := siz_bd (by simpa using h1)
  have h4 : (N : Int) = ((d.size : Int) + pg - 1) / pg := by
    rw [← hN, mkN]
    have := Int.ediv_nonneg (a := (d.size : Int) + pg - 1) (b := pg) (by omega) (by omega)
    omega
  have h5 := (parts_lt (sz := d.size) (i := 0) (by omega : 1 ≤ pg)).2 (by omega)
  refine ⟨?_, by omega, by omega, by omega, by omega, h4⟩
  unfold chkM
  rw [if_neg]
  rintro (h | h | h | h | h | h)
  · exact h1 h
  · omega
  · omega
  · rw [mkL_len] at h; omega
  · rw [mkL_len] at h; omega
  · refine h (fidx_no fun j hj q hq => ?_)
    rw [mkL_len] at hj
    rw [mkL_at hj] at hq
    cases hq
    simp [dgS_size]
set_option maxHeartbeats 32000000 in
theorem law_intact (v : Int) (d : ByteArray) (pg pk q z : Int) (hq : 0 ≤ q ∧ q ≤ 65535) : ACalls Try.prog 8 [.int .i64 v, .string d, .int .i64 pg, .int .i64 pk, .int .u16 q, .int .u8 z] [] (.bool true) [] := by
  by_cases hd : d.size ≤ 1000
  · obtain ⟨e, he⟩ : ∃ e, mkE v d pg pk = e := ⟨_, rfl⟩
    obtain ⟨N, hN⟩ : ∃ N, mkN d pg = N := ⟨_, rfl⟩
    have H1 := ac_make v d pg pk (by omega) e he N hN
    by_cases he0 : e = 0
    · subst he0
      rw [if_neg (by decide), if_neg (by decide)] at H1
      obtain ⟨hc, m1, m2, m3, m4, m5⟩ := mk_chk he N hN
      have hlen := mkL_len v d pg N
      have H2 := ac_mcheck v d.size pg pk (mkL v d pg N) N hlen (by omega) 0 hc
      have H3 := ac_intact v d.size pg pk (mkL v d pg N) N hlen (by omega) d (by omega) 0 hc 0 (by unfold inE; rw [if_neg (by decide), if_neg (by simp), hN, if_pos rfl])
      have hj0 : 0 ≤ q % (d.size : Int) ∧ q % (d.size : Int) < d.size := ⟨Int.emod_nonneg _ (by omega), Int.emod_lt_of_pos _ (by omega)⟩
      obtain ⟨j, hj⟩ : ∃ j : Nat, q % (d.size : Int) = j := ⟨(q % (d.size : Int)).toNat, by omega⟩
      have hjl : j < d.data.toList.length := by rw [Array.length_toList]; show j < d.size; omega
      have hgd : d.data.toList.getD j 0 = d.data.toList[j] := by rw [List.getD_eq_getElem?_getD, List.getElem?_eq_getElem hjl]; rfl
      obtain ⟨c1, hc1⟩ := xor_u8 (d.data.toList[j].toNat : Int) z
      obtain ⟨d3, hd3e⟩ : ∃ d3, (⟨(d.data.toList.set j c1).toArray⟩ : ByteArray) = d3 := ⟨_, rfl⟩
      have hs3 : d3.size = d.size := by
        rw [← hd3e]
        show (d.data.toList.set j c1).toArray.size = d.data.size
        simp
      have hN3 : mkN d3 pg = N := by rw [← hN, mkN, mkN, hs3]
      have he3 : mkE v d3 pg pk = 0 := by rw [← he, mkE, mkE, hs3]
      by_cases hz : z = 0
      · subst hz
        generalize mkL v d pg N = L at H1 H2 H3
        clear he hN hc hN3 he3 hlen
        refine acalls_law Try.func8 rfl rfl rfl ?_
        repeat' first
          | refine st (h := ok_not_dec2 rfl) ?_
          | refine sd (h := ok_not_dec2 rfl) ?_
          | refine st (h := ok_load_map (f := u8v) (l := d.data.toList) (j := j) rfl rfl rfl (by simp only [Nat.zero_add, Nat.mul_one]; omega) hjl rfl) ?_
          | refine st (h := ok_xorE (c := (c1.toNat : Int)) (by rw [← hc1]; show bitv .xor .u8 (((d.data.toList.getD j default).toNat : Int)) _ = _; exact congrArg (fun z : UInt8 => bitv .xor .u8 (z.toNat : Int) _) hgd) rfl rfl) ?_
          | refine stm (h := ok_storeN (cs' := (d.data.toList.set j c1).map u8v) rfl rfl (ListR.refl _) rfl rfl rfl rfl (splice_map (f := u8v) (by simp only [Nat.zero_add, Nat.mul_one]; omega) hjl) (by ((repeat constructor); first | done | fail)) rfl) ?_
          | refine st (h := ok_bytes_strE hd3e (l := d.data.toList.set j c1) rfl rfl (by simp) (take_full (by simp only [List.length_map, List.length_set, Array.length_toList]; rfl)) rfl) ?_
          | refine stm (h := ok_str_bytes rfl (by ((repeat constructor); first | done | fail))) ?_
          | refine sdl (h := ok_load_mapE (f := Value.string) K hK rfl rfl rfl (by (try dsimp only); omega)) ?_
          | refine sd (h := ok_str_eqlT rfl rfl) ?_
          | refine sd (h := ok_str_eql rfl rfl) ?_
          | refine st ?_
          | refine st_call (ac_awake) ?_
          | refine stMW [] H1 ?_
          | refine stMW [] H5 ?_
          | refine stRW [0] H2 ?_
          | refine stRW [0] H3 ?_
          | refine stRW [0] H4 ?_
          | refine sdRW [0] H2 ?_
          | refine sdRW [0] H3 ?_
          | refine sdRW [0] H4 ?_
          | refine stm ?_
          | refine run_want rfl rfl ?_
          | refine run_unwant rfl rfl ?_
          | refine run_undef rfl rfl ?_
          | refine run_guard1t rfl rfl (by omega) ?_
          | refine run_guard1f rfl rfl (by omega) ?_
          | refine run_guard0t rfl rfl (by omega) ?_
          | refine run_guard0f rfl rfl (by omega) ?_
          | refine run_guard1 rfl rfl (fun h1 => ?_) (fun h1 => ?_)
          | refine run_guard0 rfl rfl (fun h1 => ?_) (fun h1 => ?_)
          | refine run_guard rfl rfl (fun h1 => ?_) (fun h1 => ?_)
          | refine run_nil ?_
          | refine sd ?_
          | refine sdl ?_
          | refine sdm (n := 1) ?_
          | refine sdm ?_
          | refine sdb ?_
          | refine rund_want rfl rfl ?_
          | refine rund_unwant rfl rfl ?_
          | refine rund_undef rfl rfl ?_
          | refine rund_guard1 rfl rfl (fun h1 => ?_) (fun h1 => ?_)
          | refine rund_guard0 rfl rfl (fun h1 => ?_) (fun h1 => ?_)
          | refine rund_guard rfl rfl (fun h1 => ?_) (fun h1 => ?_)
          | refine rund_nil ?_
          | refine aw_seq ?_
          | refine aw_region (by kernel_rfl) (Nat.le_of_ble_eq_true rfl) ?_
          | refine aw_region_dC (id := 14) [0, 1, 3, 7, 15, 7, 63, 127, 7, 263, 7, 1799, 3847, 8191, 16383, 32767] 16 (by (repeat constructor)) (by kernel_rfl) (by kernel_rfl) (by kernel_rfl) (by rfl) ?_
          | refine aw_block ?_
          | refine aw_cond_t rfl ?_
          | refine aw_cond_f rfl ?_
          | refine aw_cond_tp rfl (by omega) ?_
          | refine aw_cond_fp rfl (by omega) ?_
          | refine aw_cond1 rfl (fun h1 => ?_) (fun h1 => ?_)
          | refine aw_cond rfl (fun h1 => ?_) (fun h1 => ?_)
          | refine aw_skip ?_
          | refine aw_exit ?_
          | refine aw_ret ?_
          | refine pp_ret ?_
          | refine pp_normal ?_
        all_goals first
          | rfl
          | (exfalso; omega)
          | (simp [retOf]; done)
          | (exfalso; simp_all; done)
      · by_cases heq : mkL v d3 pg N = mkL v d pg N
        · have H4 := ac_intact v d.size pg pk (mkL v d pg N) N hlen (by omega) d3 (by omega) 0 hc 0 (by unfold inE; rw [if_neg (by decide), if_neg (by rw [hs3]; simp), hN3, if_pos heq])
          have H5 := ac_make v d3 pg pk (by omega) 0 he3 N hN3
          rw [if_neg (by decide), if_neg (by decide), heq] at H5
          generalize mkL v d pg N = L at H1 H2 H3 H4 H5 hlen
          have hk0 : 0 ≤ q % (d.size : Int) / pg ∧ q % (d.size : Int) / pg < N := by
            refine ⟨Int.ediv_nonneg hj0.1 (by omega), ?_⟩
            rw [m5, parts_lt (by omega)]
            have := Int.mul_ediv_add_emod (q % (d.size : Int)) pg
            have h2 := Int.emod_nonneg (q % (d.size : Int)) (by omega : pg ≠ 0)
            rw [Int.mul_comm] at this
            omega
          obtain ⟨K, hKe⟩ : ∃ K : Nat, q % (d.size : Int) / pg = K := ⟨(q % (d.size : Int) / pg).toNat, by omega⟩
          obtain ⟨t, hK⟩ : ∃ t, L[K]? = some t := ⟨_, List.getElem?_eq_getElem (by omega)⟩
          clear he hN hc hN3 he3 heq
          refine acalls_law Try.func8 rfl rfl rfl ?_
          repeat' first
            | refine st (h := ok_not_dec2 rfl) ?_
            | refine sd (h := ok_not_dec2 rfl) ?_
            | refine st (h := ok_load_map (f := u8v) (l := d.data.toList) (j := j) rfl rfl rfl (by simp only [Nat.zero_add, Nat.mul_one]; omega) hjl rfl) ?_
            | refine st (h := ok_xorE (c := (c1.toNat : Int)) (by rw [← hc1]; show bitv .xor .u8 (((d.data.toList.getD j default).toNat : Int)) _ = _; exact congrArg (fun z : UInt8 => bitv .xor .u8 (z.toNat : Int) _) hgd) rfl rfl) ?_
            | refine stm (h := ok_storeN (cs' := (d.data.toList.set j c1).map u8v) rfl rfl (ListR.refl _) rfl rfl rfl rfl (splice_map (f := u8v) (by simp only [Nat.zero_add, Nat.mul_one]; omega) hjl) (by ((repeat constructor); first | done | fail)) rfl) ?_
            | refine st (h := ok_bytes_strE hd3e (l := d.data.toList.set j c1) rfl rfl (by simp) (take_full (by simp only [List.length_map, List.length_set, Array.length_toList]; rfl)) rfl) ?_
            | refine stm (h := ok_str_bytes rfl (by ((repeat constructor); first | done | fail))) ?_
            | refine sdl (h := ok_load_mapE (f := Value.string) K hK rfl rfl rfl (by (try dsimp only); omega)) ?_
            | refine sd (h := ok_str_eqlT rfl rfl) ?_
            | refine sd (h := ok_str_eql rfl rfl) ?_
            | refine st ?_
            | refine st_call (ac_awake) ?_
            | refine stMW [] H1 ?_
            | refine stMW [] H5 ?_
            | refine stRW [0] H2 ?_
            | refine stRW [0] H3 ?_
            | refine stRW [0] H4 ?_
            | refine sdRW [0] H2 ?_
            | refine sdRW [0] H3 ?_
            | refine sdRW [0] H4 ?_
            | refine stm ?_
            | refine run_want rfl rfl ?_
            | refine run_unwant rfl rfl ?_
            | refine run_undef rfl rfl ?_
            | refine run_guard1t rfl rfl (by omega) ?_
            | refine run_guard1f rfl rfl (by omega) ?_
            | refine run_guard0t rfl rfl (by omega) ?_
            | refine run_guard0f rfl rfl (by omega) ?_
            | refine run_guard1 rfl rfl (fun h1 => ?_) (fun h1 => ?_)
            | refine run_guard0 rfl rfl (fun h1 => ?_) (fun h1 => ?_)
            | refine run_guard rfl rfl (fun h1 => ?_) (fun h1 => ?_)
            | refine run_nil ?_
            | refine sd ?_
            | refine sdl ?_
            | refine sdm (n := 1) ?_
            | refine sdm ?_
            | refine sdb ?_
            | refine rund_want rfl rfl ?_
            | refine rund_unwant rfl rfl ?_
            | refine rund_undef rfl rfl ?_
            | refine rund_guard1 rfl rfl (fun h1 => ?_) (fun h1 => ?_)
            | refine rund_guard0 rfl rfl (fun h1 => ?_) (fun h1 => ?_)
            | refine rund_guard rfl rfl (fun h1 => ?_) (fun h1 => ?_)
            | refine rund_nil ?_
            | refine aw_seq ?_
            | refine aw_region (by kernel_rfl) (Nat.le_of_ble_eq_true rfl) ?_
            | refine aw_region_dC (id := 14) [0, 1, 3, 7, 15, 7, 63, 127, 7, 263, 7, 1799, 3847, 8191, 16383, 32767] 16 (by (repeat constructor)) (by kernel_rfl) (by kernel_rfl) (by kernel_rfl) (by rfl) ?_
            | refine aw_block ?_
            | refine aw_cond_t rfl ?_
            | refine aw_cond_f rfl ?_
            | refine aw_cond_tp rfl (by omega) ?_
            | refine aw_cond_fp rfl (by omega) ?_
            | refine aw_cond1 rfl (fun h1 => ?_) (fun h1 => ?_)
            | refine aw_cond rfl (fun h1 => ?_) (fun h1 => ?_)
            | refine aw_skip ?_
            | refine aw_exit ?_
            | refine aw_ret ?_
            | refine pp_ret ?_
            | refine pp_normal ?_
          all_goals first
            | rfl
            | (exfalso; omega)
            | (simp [retOf]; done)
            | (exfalso; simp_all; done)
        · have H4 := ac_intact v d.size pg pk (mkL v d pg N) N hlen (by omega) d3 (by omega) 0 hc 20 (by unfold inE; rw [if_neg (by decide), if_neg (by rw [hs3]; simp), hN3, if_neg heq])
          generalize mkL v d pg N = L at H1 H2 H3 H4
          clear he hN hc hN3 he3 heq hlen
          refine acalls_law Try.func8 rfl rfl rfl ?_
          repeat' first
            | refine st (h := ok_not_dec2 rfl) ?_
            | refine sd (h := ok_not_dec2 rfl) ?_
            | refine st (h := ok_load_map (f := u8v) (l := d.data.toList) (j := j) rfl rfl rfl (by simp only [Nat.zero_add, Nat.mul_one]; omega) hjl rfl) ?_
            | refine st (h := ok_xorE (c := (c1.toNat : Int)) (by rw [← hc1]; show bitv .xor .u8 (((d.data.toList.getD j default).toNat : Int)) _ = _; exact congrArg (fun z : UInt8 => bitv .xor .u8 (z.toNat : Int) _) hgd) rfl rfl) ?_
            | refine stm (h := ok_storeN (cs' := (d.data.toList.set j c1).map u8v) rfl rfl (ListR.refl _) rfl rfl rfl rfl (splice_map (f := u8v) (by simp only [Nat.zero_add, Nat.mul_one]; omega) hjl) (by ((repeat constructor); first | done | fail)) rfl) ?_
            | refine st (h := ok_bytes_strE hd3e (l := d.data.toList.set j c1) rfl rfl (by simp) (take_full (by simp only [List.length_map, List.length_set, Array.length_toList]; rfl)) rfl) ?_
            | refine stm (h := ok_str_bytes rfl (by ((repeat constructor); first | done | fail))) ?_
            | refine sdl (h := ok_load_mapE (f := Value.string) K hK rfl rfl rfl (by (try dsimp only); omega)) ?_
            | refine sd (h := ok_str_eqlT rfl rfl) ?_
            | refine sd (h := ok_str_eql rfl rfl) ?_
            | refine st ?_
            | refine st_call (ac_awake) ?_
            | refine stMW [] H1 ?_
            | refine stMW [] H5 ?_
            | refine stRW [0] H2 ?_
            | refine stRW [0] H3 ?_
            | refine stRW [0] H4 ?_
            | refine sdRW [0] H2 ?_
            | refine sdRW [0] H3 ?_
            | refine sdRW [0] H4 ?_
            | refine stm ?_
            | refine run_want rfl rfl ?_
            | refine run_unwant rfl rfl ?_
            | refine run_undef rfl rfl ?_
            | refine run_guard1t rfl rfl (by omega) ?_
            | refine run_guard1f rfl rfl (by omega) ?_
            | refine run_guard0t rfl rfl (by omega) ?_
            | refine run_guard0f rfl rfl (by omega) ?_
            | refine run_guard1 rfl rfl (fun h1 => ?_) (fun h1 => ?_)
            | refine run_guard0 rfl rfl (fun h1 => ?_) (fun h1 => ?_)
            | refine run_guard rfl rfl (fun h1 => ?_) (fun h1 => ?_)
            | refine run_nil ?_
            | refine sd ?_
            | refine sdl ?_
            | refine sdm (n := 1) ?_
            | refine sdm ?_
            | refine sdb ?_
            | refine rund_want rfl rfl ?_
            | refine rund_unwant rfl rfl ?_
            | refine rund_undef rfl rfl ?_
            | refine rund_guard1 rfl rfl (fun h1 => ?_) (fun h1 => ?_)
            | refine rund_guard0 rfl rfl (fun h1 => ?_) (fun h1 => ?_)
            | refine rund_guard rfl rfl (fun h1 => ?_) (fun h1 => ?_)
            | refine rund_nil ?_
            | refine aw_seq ?_
            | refine aw_region (by kernel_rfl) (Nat.le_of_ble_eq_true rfl) ?_
            | refine aw_region_dC (id := 14) [0, 1, 3, 7, 15, 7, 63, 127, 7, 263, 7, 1799, 3847, 8191, 16383, 32767] 16 (by (repeat constructor)) (by kernel_rfl) (by kernel_rfl) (by kernel_rfl) (by rfl) ?_
            | refine aw_block ?_
            | refine aw_cond_t rfl ?_
            | refine aw_cond_f rfl ?_
            | refine aw_cond_tp rfl (by omega) ?_
            | refine aw_cond_fp rfl (by omega) ?_
            | refine aw_cond1 rfl (fun h1 => ?_) (fun h1 => ?_)
            | refine aw_cond rfl (fun h1 => ?_) (fun h1 => ?_)
            | refine aw_skip ?_
            | refine aw_exit ?_
            | refine aw_ret ?_
            | refine pp_ret ?_
            | refine pp_normal ?_
          all_goals first
            | rfl
            | (exfalso; omega)
            | (simp [retOf]; done)
            | (exfalso; simp_all; done)
    · rw [if_pos he0, if_pos he0] at H1
      clear he hN
      refine acalls_law Try.func8 rfl rfl rfl ?_
      repeat' first
        | refine st (h := ok_not_dec2 rfl) ?_
        | refine sd (h := ok_not_dec2 rfl) ?_
        | refine st ?_
        | refine st_call (ac_awake) ?_
        | refine stMW [] H1 ?_
        | refine stm ?_
        | refine run_want rfl rfl ?_
        | refine run_unwant rfl rfl ?_
        | refine run_undef rfl rfl ?_
        | refine run_guard1t rfl rfl (by omega) ?_
        | refine run_guard1f rfl rfl (by omega) ?_
        | refine run_guard0t rfl rfl (by omega) ?_
        | refine run_guard0f rfl rfl (by omega) ?_
        | refine run_guard1 rfl rfl (fun h1 => ?_) (fun h1 => ?_)
        | refine run_guard0 rfl rfl (fun h1 => ?_) (fun h1 => ?_)
        | refine run_guard rfl rfl (fun h1 => ?_) (fun h1 => ?_)
        | refine run_nil ?_
        | refine sd ?_
        | refine sdl ?_
        | refine sdm (n := 1) ?_
        | refine sdm ?_
        | refine sdb ?_
        | refine rund_want rfl rfl ?_
        | refine rund_unwant rfl rfl ?_
        | refine rund_undef rfl rfl ?_
        | refine rund_guard1 rfl rfl (fun h1 => ?_) (fun h1 => ?_)
        | refine rund_guard0 rfl rfl (fun h1 => ?_) (fun h1 => ?_)
        | refine rund_guard rfl rfl (fun h1 => ?_) (fun h1 => ?_)
        | refine rund_nil ?_
        | refine aw_seq ?_
        | refine aw_region (by kernel_rfl) (Nat.le_of_ble_eq_true rfl) ?_
        | refine aw_region_dC (id := 14) [0, 1, 3, 7, 15, 7, 63, 127, 7, 263, 7, 1799, 3847, 8191, 16383, 32767] 16 (by (repeat constructor)) (by kernel_rfl) (by kernel_rfl) (by kernel_rfl) (by rfl) ?_
        | refine aw_block ?_
        | refine aw_cond_t rfl ?_
        | refine aw_cond_f rfl ?_
        | refine aw_cond_tp rfl (by omega) ?_
        | refine aw_cond_fp rfl (by omega) ?_
        | refine aw_cond1 rfl (fun h1 => ?_) (fun h1 => ?_)
        | refine aw_cond rfl (fun h1 => ?_) (fun h1 => ?_)
        | refine aw_skip ?_
        | refine aw_exit ?_
        | refine aw_ret ?_
        | refine pp_ret ?_
        | refine pp_normal ?_
      all_goals first
        | rfl
        | (exfalso; omega)
        | (simp [retOf]; done)
        | (exfalso; simp_all; done)
  · refine acalls_law Try.func8 rfl rfl rfl ?_
    repeat' first
      | refine st (h := ok_not_dec2 rfl) ?_
      | refine sd (h := ok_not_dec2 rfl) ?_
      | refine st ?_
      | refine st_call (ac_awake) ?_
      | refine stMW [] H1 ?_
      | refine stm ?_
      | refine run_want rfl rfl ?_
      | refine run_unwant rfl rfl ?_
      | refine run_undef rfl rfl ?_
      | refine run_guard1t rfl rfl (by omega) ?_
      | refine run_guard1f rfl rfl (by omega) ?_
      | refine run_guard0t rfl rfl (by omega) ?_
      | refine run_guard0f rfl rfl (by omega) ?_
      | refine run_guard1 rfl rfl (fun h1 => ?_) (fun h1 => ?_)
      | refine run_guard0 rfl rfl (fun h1 => ?_) (fun h1 => ?_)
      | refine run_guard rfl rfl (fun h1 => ?_) (fun h1 => ?_)
      | refine run_nil ?_
      | refine sd ?_
      | refine sdl ?_
      | refine sdm (n := 1) ?_
      | refine sdm ?_
      | refine sdb ?_
      | refine rund_want rfl rfl ?_
      | refine rund_unwant rfl rfl ?_
      | refine rund_undef rfl rfl ?_
      | refine rund_guard1 rfl rfl (fun h1 => ?_) (fun h1 => ?_)
      | refine rund_guard0 rfl rfl (fun h1 => ?_) (fun h1 => ?_)
      | refine rund_guard rfl rfl (fun h1 => ?_) (fun h1 => ?_)
      | refine rund_nil ?_
      | refine aw_seq ?_
      | refine aw_region (by kernel_rfl) (Nat.le_of_ble_eq_true rfl) ?_
      | refine aw_region_dC (id := 14) [0, 1, 3, 7, 15, 7, 63, 127, 7, 263, 7, 1799, 3847, 8191, 16383, 32767] 16 (by (repeat constructor)) (by kernel_rfl) (by kernel_rfl) (by kernel_rfl) (by rfl) ?_
      | refine aw_block ?_
      | refine aw_cond_t rfl ?_
      | refine aw_cond_f rfl ?_
      | refine aw_cond_tp rfl (by omega) ?_
      | refine aw_cond_fp rfl (by omega) ?_
      | refine aw_cond1 rfl (fun h1 => ?_) (fun h1 => ?_)
      | refine aw_cond rfl (fun h1 => ?_) (fun h1 => ?_)
      | refine aw_skip ?_
      | refine aw_exit ?_
      | refine aw_ret ?_
      | refine pp_ret ?_
      | refine pp_normal ?_
    all_goals first
      | rfl
      | (exfalso; omega)
      | (simp [retOf]; done)
      | (exfalso; simp_all; done)
end Go.Proofs.Ytpofbjmmlommoaa
