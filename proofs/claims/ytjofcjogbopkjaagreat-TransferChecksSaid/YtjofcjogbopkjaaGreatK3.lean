/- Transfer: Hear of anything right. Transfer: right stores stay right (plain). Transfer: the stores of the example (plain). -/
import Derived.Test.YtjofcjogbopkjaaGreatV2h
import Derived.Test.YtjofcjogbopkjaaGreatV5h
import Derived.Test.YtjofcjogbopkjaaGreatV6h
import Derived.Test.YtjofcjogbopkjaaGreatT4
set_option linter.unusedVariables false
set_option linter.unusedSimpArgs false
namespace Go.Proofs.YtjofcjogbopkjaaGreat
open Go Av
set_option maxRecDepth 20000
theorem val_kind {uk uv : Int} {ui : ByteArray} {up ut : Int} {ub : Nat} {ud : ByteArray} (h : valU uk uv ui up ut ub ud = true) : (1 ≤ uv ∧ uv ≤ 65535 ∧ ui.size = 32) ∧ (uk = 1 ∨ uk = 2 ∨ (uk = 3 ∧ ud.size ≤ 4096) ∨ (uk = 4 ∧ (0 ≤ ut ∧ ut < 64) ∧ ud.size ≤ 96)) := by
  unfold valU at h
  rw [Bool.and_eq_true] at h
  refine ⟨of_decide_eq_true h.1, ?_⟩
  have h2 := h.2
  by_cases k1 : uk = 1
  · exact .inl k1
  by_cases k2 : uk = 2
  · exact .inr (.inl k2)
  rw [if_neg k1, if_neg k2] at h2
  by_cases k3 : uk = 3
  · rw [if_pos k3] at h2
    have := of_decide_eq_true h2
    exact .inr (.inr (.inl ⟨k3, this.1.2⟩))
  rw [if_neg k3] at h2
  by_cases k4 : uk = 4
  · rw [if_pos k4] at h2
    have := of_decide_eq_true h2
    exact .inr (.inr (.inr ⟨k4, this.2.1, this.2.2.1.2⟩))
  rw [if_neg k4] at h2
  exact absurd h2 (by decide)
theorem heE_not1 {s : Sto} {u : Upd} (h : u.kind ≠ 1) : heE s u = false := decide_eq_false fun k => h k.1
/-- Hear, of a right store and a right update. -/
theorem ac_Hear (s : Sto) (n p : Nat) (hn : s.L.length = n) (hp : s.P.length = p) (hb : n ≤ 1000000 ∧ p ≤ 1000000) (hbits : s.bits < 18446744073709551616) (hd : s.data.size ≤ 100000) (hc : chS s = true) (uk uv : Int) (ui : ByteArray) (up ut : Int) (ub : Nat) (ud : ByteArray) (hu : valU uk uv ui up ut ub ud = true) (s' : Sto) (hs' : heS s ⟨uk, uv, ui, up, ut, ub, ud⟩ = s') (e : Bool) (he : heE s ⟨uk, uv, ui, up, ut, ub, ud⟩ = e) (n' p' : Nat) (hn' : s'.L.length = n') (hp' : s'.P.length = p') :
    ACalls Tryz.prog 9 [.agg #[.int .i64 s.ver, .string s.id, .bool s.kn, .int .i64 s.mv, .int .i64 s.ms, .int .i64 s.mg, .int .i64 s.mq, .slice (some ⟨0, 0, none⟩) n n, .string s.data, .int .u64 s.bits, .slice (some ⟨1, 0, none⟩) p p], .agg #[.int .i64 uk, .int .i64 uv, .string ui, .int .i64 up, .int .i64 ut, .int .u64 ub, .string ud]] [some ⟨List.map Value.string s.L, false, 1⟩, some ⟨List.map Value.string s.P, false, 1⟩] (.tuple #[.agg #[.int .i64 s'.ver, .string s'.id, .bool s'.kn, .int .i64 s'.mv, .int .i64 s'.ms, .int .i64 s'.mg, .int .i64 s'.mq, .slice (some ⟨2, 0, none⟩) n' n', .string s'.data, .int .u64 s'.bits, .slice (some ⟨3, 0, none⟩) p' p'], .bool e, .int .i64 0]) [none, none, some ⟨List.map Value.string s'.L, true, 1⟩, some ⟨List.map Value.string s'.P, true, 1⟩] := by
  obtain ⟨hv0, hk⟩ := val_kind hu
  unfold heS at hs'
  dsimp only at hs'
  have keep : s = s' → ∀ e', e' = e → ACalls Tryz.prog 9 [.agg #[.int .i64 s.ver, .string s.id, .bool s.kn, .int .i64 s.mv, .int .i64 s.ms, .int .i64 s.mg, .int .i64 s.mq, .slice (some ⟨0, 0, none⟩) n n, .string s.data, .int .u64 s.bits, .slice (some ⟨1, 0, none⟩) p p], .agg #[.int .i64 uk, .int .i64 uv, .string ui, .int .i64 up, .int .i64 ut, .int .u64 ub, .string ud]] [some ⟨List.map Value.string s.L, false, 1⟩, some ⟨List.map Value.string s.P, false, 1⟩] (.tuple #[.agg #[.int .i64 s.ver, .string s.id, .bool s.kn, .int .i64 s.mv, .int .i64 s.ms, .int .i64 s.mg, .int .i64 s.mq, .slice (some ⟨2, 0, none⟩) n n, .string s.data, .int .u64 s.bits, .slice (some ⟨3, 0, none⟩) p p], .bool e', .int .i64 0]) [none, none, some ⟨List.map Value.string s.L, true, 1⟩, some ⟨List.map Value.string s.P, true, 1⟩] → ACalls Tryz.prog 9 [.agg #[.int .i64 s.ver, .string s.id, .bool s.kn, .int .i64 s.mv, .int .i64 s.ms, .int .i64 s.mg, .int .i64 s.mq, .slice (some ⟨0, 0, none⟩) n n, .string s.data, .int .u64 s.bits, .slice (some ⟨1, 0, none⟩) p p], .agg #[.int .i64 uk, .int .i64 uv, .string ui, .int .i64 up, .int .i64 ut, .int .u64 ub, .string ud]] [some ⟨List.map Value.string s.L, false, 1⟩, some ⟨List.map Value.string s.P, false, 1⟩] (.tuple #[.agg #[.int .i64 s'.ver, .string s'.id, .bool s'.kn, .int .i64 s'.mv, .int .i64 s'.ms, .int .i64 s'.mg, .int .i64 s'.mq, .slice (some ⟨2, 0, none⟩) n' n', .string s'.data, .int .u64 s'.bits, .slice (some ⟨3, 0, none⟩) p' p'], .bool e, .int .i64 0]) [none, none, some ⟨List.map Value.string s'.L, true, 1⟩, some ⟨List.map Value.string s'.P, true, 1⟩] := by
    rintro rfl e' rfl h
    obtain rfl : n = n' := by omega
    obtain rfl : p = p' := by omega
    exact h
  rcases hk with hk | hk | ⟨hk, h4⟩ | ⟨hk, h4, h5⟩
  · by_cases hv : s.ver < uv
    · rw [if_pos ⟨hk, hv⟩] at hs'
      have : e = false := by
        rw [← he]
        refine decide_eq_false fun k => ?_
        have := congrArg Upd.ver k.2.2
        dsimp only [annU] at this
        omega
      subst this
      subst hs'
      obtain rfl : n' = 0 := hn'.symm
      obtain rfl : p' = 0 := hp'.symm
      exact ac_HearN s n p hn hp hb hbits hd hc uk uv ui up ut ub ud hu hk hv
    · rw [if_neg (fun k => hv k.2), if_neg (fun k => by omega), if_neg (fun k => by omega)] at hs'
      have hz : zeB s = false := by
        rcases chS_spec hc with h | h
        · have := (of_decide_eq_true h).1
          omega
        · exact h.1
      refine keep hs' e rfl (ac_HearE s n p hn hp hb hbits hd hc uk uv ui up ut ub ud hu hk hv hz e ?_)
      rw [← he]
      exact decide_eq_decide.2 ⟨fun k => ⟨hk, hz, k⟩, fun k => k.2.2⟩
  · rw [if_neg (fun k => by omega), if_neg (fun k => by omega), if_neg (fun k => by omega)] at hs'
    rw [heE_not1 (by dsimp only; omega)] at he
    exact keep hs' false he (ac_HearK2 s n p hn hp hb hbits hd hc uk uv ui up ut ub ud hu false rfl hk)
  · rw [heE_not1 (by dsimp only; omega)] at he
    by_cases hv : uv = s.ver
    · by_cases hi : ui = s.id
      · by_cases hkn : s.kn = true
        · rw [if_neg (fun k => by omega), if_neg (fun k => by rw [hkn] at k; exact absurd k.2.2 (by decide)), if_neg (fun k => by omega)] at hs'
          exact keep hs' false he (ac_HearK3k s n p hn hp hb hbits hd hc uk uv ui up ut ub ud hu false rfl hk hv hi hkn)
        · have hkn : s.kn = false := by simpa using hkn
          rw [if_neg (fun k => by omega), if_pos ⟨hk, ⟨hv, hi⟩, hkn⟩] at hs'
          subst he
          exact ac_HearM s n p hn hp hb hbits hd hc uk uv ui up ut ub ud hu hk hv hi hkn h4 s' hs' n' p' hn' hp'
      · rw [if_neg (fun k => by omega), if_neg (fun k => hi k.2.1.2), if_neg (fun k => by omega)] at hs'
        exact keep hs' false he (ac_HearK3i s n p hn hp hb hbits hd hc uk uv ui up ut ub ud hu false rfl hk hv hi)
    · rw [if_neg (fun k => by omega), if_neg (fun k => hv k.2.1.1), if_neg (fun k => by omega)] at hs'
      exact keep hs' false he (ac_HearK3v s n p hn hp hb hbits hd hc uk uv ui up ut ub ud hu false rfl hk hv)
  · rw [heE_not1 (by dsimp only; omega)] at he
    by_cases hv : uv = s.ver
    · by_cases hi : ui = s.id
      · by_cases hkn : s.kn = false
        · rw [if_neg (fun k => by omega), if_neg (fun k => by omega), if_neg (fun k => by rw [hkn] at k; exact absurd k.2.2.1 (by decide))] at hs'
          exact keep hs' false he (ac_HearK4n s n p hn hp hb hbits hd hc uk uv ui up ut ub ud hu false rfl hk hv hi hkn)
        · have hkn : s.kn = true := by simpa using hkn
          by_cases hcc : cpB s = true
          · rw [if_neg (fun k => by omega), if_neg (fun k => by omega), if_neg (fun k => by rw [hcc] at k; exact absurd k.2.2.2 (by decide))] at hs'
            exact keep hs' false he (ac_HearK4c s n p hn hp hb hbits hd hc uk uv ui up ut ub ud hu false rfl hk hv hi hkn hcc)
          · have hcc : cpB s = false := by simpa using hcc
            rw [if_neg (fun k => by omega), if_neg (fun k => by omega), if_pos ⟨hk, ⟨hv, hi⟩, hkn, hcc⟩] at hs'
            subst he
            have := ac_HearP s n p hn hp hb hbits hd hc uk uv ui up ut ub ud hu hk hv hi hkn hcc s' hs' p' hp'
            have hL : s'.L = s.L := by
              rw [← hs']
              unfold puS
              dsimp only
              split
              · rfl
              · split <;> rfl
            obtain rfl : n = n' := by rw [← hn', hL, hn]
            rw [hL]
            exact this
      · rw [if_neg (fun k => by omega), if_neg (fun k => by omega), if_neg (fun k => hi k.2.1.2)] at hs'
        exact keep hs' false he (ac_HearK4i s n p hn hp hb hbits hd hc uk uv ui up ut ub ud hu false rfl hk hv hi)
    · rw [if_neg (fun k => by omega), if_neg (fun k => by omega), if_neg (fun k => hv k.2.1.1)] at hs'
      exact keep hs' false he (ac_HearK4v s n p hn hp hb hbits hd hc uk uv ui up ut ub ud hu false rfl hk hv)
end Go.Proofs.YtjofcjogbopkjaaGreat
namespace Go.Proofs.YtjofcjogbopkjaaGreat
open Go Av
set_option maxRecDepth 20000
/-- Empty packets for the next page are right. -/
theorem nx_ok {s : Sto} {n k : Nat} (hn : s.L.length = n) (h1 : chkM s.mv s.ms s.mg s.mq s.L = 0) (h2 : s.mv = s.ver) (h3 : dig 0 (idB (encS s.mv s.ms s.mg s.mq s.L)).data.toList = s.id) (h4 : dnB s.ms s.mg s.data.size = true) (hk : dnN s.ms s.mg n s.data.size = k) (h5 : pgsB s.mv s.ms s.mg s.L s.data k = true) : knB (nxS s) = true := by
  obtain ⟨k', hk', f1, f2, f3, f4, f5, f6, f7, f8, f9⟩ := dn_fc hn h1 h4
  rw [hk] at hk'
  obtain rfl : k = k' := by omega
  unfold knB nxS
  dsimp only
  rw [hn, hk]
  rw [decide_eq_true ⟨h1, h2, h3⟩, h4, Int.toNat_natCast, h5]
  simp only [Bool.true_and]
  by_cases hkn : k = n
  · subst hkn
    rw [if_pos rfl, if_pos rfl]
    exact decide_eq_true ⟨trivial, rfl⟩
  · rw [if_neg (by omega), if_neg (by omega)]
    obtain ⟨K, k1, k2, k3, k4, k5, k6, k7⟩ := page_fc (i := k) hn h1 (by omega)
    rw [k1, Int.toNat_natCast]
    have hp : 2 ^ 1 ≤ 2 ^ K := Nat.pow_le_pow_right (by decide) k2
    refine decide_eq_true ⟨by rw [List.length_replicate, k1], by rw [List.length_replicate]; omega, ?_, fun j hj => ?_⟩
    · rw [List.length_replicate]
      omega
    · rw [List.length_replicate] at hj
      rw [List.getD_eq_getElem?_getD, List.getElem?_replicate, if_pos hj, Nat.zero_testBit]
      rfl
/-- A store with a manifest, that is right. -/
theorem ch_known {s : Sto} (hv : 1 ≤ s.ver ∧ s.ver ≤ 65535 ∧ s.id.size = 32) (hk : s.kn = true) (h : knB s = true) : chS s = true := by
  unfold chS
  rw [decide_eq_true hv, hk, if_pos rfl, h]
  simp
/-- A newer version. -/
theorem ch_new {v : Int} {id : ByteArray} (hv : 1 ≤ v ∧ v ≤ 65535 ∧ id.size = 32) : chS ⟨v, id, false, 0, 0, 0, 0, [], ⟨#[]⟩, 0, []⟩ = true := by
  unfold chS
  rw [decide_eq_true hv]
  show (zeB _ || (true && noK 0 0 0 0 0 0 0 0)) = true
  rw [show noK 0 0 0 0 0 0 0 0 = true by decide]
  simp
/-- Data with one more page: the pages. -/
theorem pg_app {d J : ByteArray} {mg : Int} {k : Nat} (hmg : 1 ≤ mg) (hd : (d.size : Int) = k * mg) (hJ : (J.size : Int) ≤ mg) : (∀ i : Nat, i < k → pgS (d ++ J) mg i = pgS d mg i) ∧ pgS (d ++ J) mg k = J := by
  have hsz : (d ++ J).size = d.size + J.size := ByteArray.size_append
  constructor
  · intro i hi
    have h1 : ((i : Int) + 1) * mg ≤ k * mg := Int.mul_le_mul_of_nonneg_right (by omega) (by omega)
    have h0 : 0 ≤ (i : Int) * mg := Int.mul_nonneg (by omega) (by omega)
    have h2 : (i : Int) * mg ≤ ((i : Int) + 1) * mg := Int.mul_le_mul_of_nonneg_right (by omega) (by omega)
    unfold pgS
    rw [hsz]
    have e1 : min (((i : Int) + 1) * mg) ((d.size + J.size : Nat) : Int) = ((i : Int) + 1) * mg := by omega
    have e2 : min (((i : Int) + 1) * mg) (d.size : Int) = ((i : Int) + 1) * mg := by omega
    rw [e1, e2]
    apply ByteArray.ext
    rw [ByteArray.data_extract, ByteArray.data_extract, ByteArray.data_append, Array.extract_append]
    have e3 : (((i : Int) + 1) * mg).toNat - d.data.size = 0 := by
      have : d.data.size = d.size := rfl
      omega
    rw [e3]
    simp
  · have h1 : ((k : Int) + 1) * mg = k * mg + mg := by rw [Int.add_mul, Int.one_mul]
    have h0 : 0 ≤ (k : Int) * mg := Int.mul_nonneg (by omega) (by omega)
    unfold pgS
    rw [hsz, h1]
    have e1 : min ((k : Int) * mg + mg) ((d.size + J.size : Nat) : Int) = ((d.size + J.size : Nat) : Int) := by omega
    have e2 : ((k : Int) * mg).toNat = d.size := by omega
    rw [e1, e2, Int.toNat_natCast]
    apply ByteArray.ext
    rw [ByteArray.data_extract, ByteArray.data_append, Array.extract_append]
    have e3 : d.data.size = d.size := rfl
    have e4 : J.data.size = J.size := rfl
    rw [e3, Nat.sub_self, Nat.add_sub_cancel_left, ← e4]
    have e5 : d.data.extract d.size (d.size + J.data.size) = #[] := by
      apply Array.eq_empty_of_size_eq_zero
      rw [Array.size_extract, e3]
      omega
    rw [e5, Array.extract_size, Array.empty_append]
theorem pgsB_of {v ms mg : Int} {L : List ByteArray} {d : ByteArray} {k : Nat} (h : ∀ i : Nat, i < k → vfE v ms mg 0 i L (pgS d mg i) = 0) : pgsB v ms mg L d k = true := decide_eq_true h
/-- A packet leaves a right store right. -/
theorem ch_put {s : Sto} {u : Upd} (hc : chS s = true) (hk : s.kn = true) (hcc : cpB s = false) (hut : 0 ≤ u.pkt ∧ u.pkt < 64) : chS (puS s u) = true := by
  obtain ⟨hv, hkb⟩ : (1 ≤ s.ver ∧ s.ver ≤ 65535 ∧ s.id.size = 32) ∧ knB s = true := by
    rcases chS_spec hc with h | ⟨_, h1, h2, _⟩
    · exact absurd (of_decide_eq_true h).2.2.1 (by rw [hk]; decide)
    · exact ⟨h1, h2 hk⟩
  obtain ⟨r1, r2, r3, r4, k, r5, r6, r7, r8, r9, r10, r11, r12, r13⟩ := knB_spec rfl rfl hkb
  have hne : (s.data.size : Int) ≠ s.ms := fun h => by
    unfold cpB at hcc
    rw [hk, Bool.true_and] at hcc
    exact of_decide_eq_false hcc h
  have hkn : k < s.L.length := by
    rcases Nat.lt_or_ge k s.L.length with h | h
    · exact h
    · exact absurd (r8 (by omega)).1 hne
  have ho := of_decide_eq_true (r9 hkn).2
  obtain ⟨o1, o2, o3, o4⟩ := ho
  obtain ⟨dk, dk1, f1, f2, f3, f4, f5, f6, f7, f8, f9⟩ := dn_fc rfl r1 r4
  obtain rfl : k = dk := by omega
  have hdk := f3 hkn
  unfold puS
  dsimp only
  rw [r5]
  by_cases ha : u.page ≠ (k : Int) ∨ (s.P.length : Int) ≤ u.pkt ∨ s.bits.testBit u.pkt.toNat = true ∨ (u.data.size : Int) ≠ pkL s.ms s.mg s.mq k u.pkt
  · rw [if_pos ha]; exact hc
  · rw [if_neg ha]
    obtain ⟨j, hj⟩ : ∃ j : Nat, u.pkt = j := ⟨u.pkt.toNat, by omega⟩
    rw [hj, Int.toNat_natCast] at ha ⊢
    have a2 : j < s.P.length := by
      rcases Nat.lt_or_ge j s.P.length with h | h
      · exact h
      · exact absurd (.inr (.inl (by omega))) ha
    have a4 : (u.data.size : Int) = pkL s.ms s.mg s.mq k j := Decidable.byContradiction fun h => ha (.inr (.inr (.inr h)))
    by_cases hf : s.bits ||| 2 ^ j ≠ 2 ^ s.P.length - 1
    · rw [if_pos hf]
      refine ch_known hv hk ?_
      unfold knB
      dsimp only
      rw [r5, Int.toNat_natCast, decide_eq_true ⟨r1, r2, r3⟩, r4, r7, if_neg (by omega)]
      simp only [Bool.true_and]
      refine decide_eq_true ⟨by rw [List.length_set]; exact o1, by rw [List.length_set]; exact or_lt o2 a2, by rw [List.length_set]; exact hf, fun i hi => ?_⟩
      rw [List.length_set] at hi
      rw [List.getD_eq_getElem?_getD, List.getElem?_set]
      by_cases hij : j = i
      · subst hij
        rw [if_pos rfl, if_pos a2, Nat.testBit_or, Nat.testBit_two_pow_self, Bool.or_true, if_pos rfl]
        exact a4
      · rw [if_neg hij, Nat.testBit_or, Nat.testBit_two_pow_of_ne hij, Bool.or_false, ← List.getD_eq_getElem?_getD]
        exact o4 i hi
    · rw [if_neg hf]
      by_cases hy : vfE s.mv s.ms s.mg 0 k s.L (joinS (s.P.set j u.data)) = 0
      · rw [if_pos hy]
        generalize joinS (s.P.set j u.data) = J at hy
        have hJ := vf_size hy
        have hJ2 : (J.size : Int) ≤ s.mg := by unfold lenM at hJ; omega
        obtain ⟨p1, p2⟩ := pg_app (d := s.data) (J := J) f4 hdk hJ2
        have hdb := dn_next (d := s.data) (q := J) rfl r1 hkn hdk hJ
        obtain ⟨k', hk', _⟩ := dn_fc rfl r1 hdb
        refine ch_known hv hk (nx_ok (s := { s with bits := s.bits ||| 2 ^ j, P := s.P.set j u.data, data := s.data ++ J }) rfl r1 r2 r3 hdb hk' (pgsB_of fun i hi => ?_))
        have hk1 : k' ≤ k + 1 := by
          have hsz : (((s.data ++ J).size : Nat) : Int) = k * s.mg + J.size := by rw [ByteArray.size_append]; omega
          obtain ⟨k2, hk2, _, g2, _⟩ := dn_fc rfl r1 hdb
          obtain rfl : k' = k2 := by omega
          rcases Nat.lt_or_ge (k + 1) k' with h | h
          · have := (g2 (k + 1) h).2.1
            have h3 : ((k + 1 : Nat) : Int) * s.mg = k * s.mg + s.mg := by rw [Int.natCast_add, Int.add_mul]; simp
            omega
          · exact h
        rcases Nat.lt_or_ge i k with h | h
        · dsimp only
          rw [p1 i h]
          exact of_decide_eq_true r7 i h
        · obtain rfl : i = k := by omega
          dsimp only
          rw [p2]
          exact hy
      · rw [if_neg hy]
        exact ch_known hv hk (nx_ok (s := { s with bits := s.bits ||| 2 ^ j, P := s.P.set j u.data }) rfl r1 r2 r3 r4 r5 r7)
/-- A manifest leaves a right store right. -/
theorem ch_man {s : Sto} {d : ByteArray} (hc : chS s = true) (hv : 1 ≤ s.ver ∧ s.ver ≤ 65535 ∧ s.id.size = 32) (hk : s.kn = false) : chS (maS s d) = true := by
  have hno : s.data.size = 0 := by
    rcases chS_spec hc with h | ⟨_, _, _, h⟩
    · exact (of_decide_eq_true h).2.2.2.2.1
    · exact (of_decide_eq_true (h hk)).2.1
  unfold maS
  dsimp only
  split
  · rename_i h
    obtain ⟨h0, h1, h2⟩ := h
    obtain ⟨hcm, _⟩ := enc_de h0
    have hb := siz_bd (chk_ok hcm).1
    have hm := (chk_ok hcm).2.1
    have hdb : dnB (valS (d.extract 2 6)) (valS (d.extract 6 8)) s.data.size = true := decide_eq_true (.inr (by rw [hno]; exact ⟨by omega, Int.zero_emod _⟩))
    have hk0 : dnN (valS (d.extract 2 6)) (valS (d.extract 6 8)) (clL d (deN d)).length s.data.size = ((0 : Nat) : Int) := by
      unfold dnN
      rw [hno, if_neg (by omega)]
      exact Int.zero_ediv _
    exact ch_known hv rfl (nx_ok (s := { s with kn := true, mv := valS (d.extract 0 2), ms := valS (d.extract 2 6), mg := valS (d.extract 6 8), mq := valS (d.extract 8 9), L := clL d (deN d) }) rfl hcm h1 h2 hdb hk0 (pgsB_of fun i hi => absurd hi (Nat.not_lt_zero _)))
  · exact hc
/-- Right stores stay right. -/
theorem ch_hear {s : Sto} {u : Upd} (hc : chS s = true) (hu : okU u = true) : chS (heS s u) = true := by
  obtain ⟨hv, hk⟩ := val_kind hu
  unfold heS
  split
  · exact ch_new hv
  · split
    · rename_i h
      exact ch_man hc (by rw [← h.2.1.1, ← h.2.1.2]; exact hv) h.2.2
    · split
      · rename_i h
        refine ch_put hc h.2.2.1 h.2.2.2 ?_
        rcases hk with k | k | ⟨k, _⟩ | ⟨_, k, _⟩
        · omega
        · omega
        · omega
        · exact k
      · exact hc
end Go.Proofs.YtjofcjogbopkjaaGreat
namespace Go.Proofs.YtjofcjogbopkjaaGreat
open Go Av
set_option maxRecDepth 20000
/-- The example's stores: the manifest has the digests A and B. -/
theorem a3_chk (A B : ByteArray) (hA : A.size = 32) (hB : B.size = 32) : chkM 3 5 4 2 [A, B] = 0 := by
  unfold chkM
  refine if_neg ?_
  rintro (h | h | h | h | h | h)
  · exact absurd h (by decide)
  · exact absurd h (by decide)
  · exact absurd h (by decide)
  · exact absurd h (by simp)
  · exact h rfl
  · refine h (fidx_no fun j hj q hq => ?_)
    match j, hq with
    | 0, hq => cases hq; simp [hA]
    | 1, hq => cases hq; simp [hB]
theorem nx_eq {s : Sto} {K : Nat} (h : dnN s.ms s.mg s.L.length s.data.size ≠ s.L.length) (hK : (pkC s.ms s.mg s.mq (dnN s.ms s.mg s.L.length s.data.size)).toNat = K) : nxS s = { s with bits := 0, P := List.replicate K ⟨#[]⟩ } := by
  unfold nxS
  rw [if_neg h, hK]
theorem pu_part {s : Sto} {u : Upd} {n : Int} (hn : dnN s.ms s.mg s.L.length s.data.size = n) (h : ¬ (u.page ≠ n ∨ (s.P.length : Int) ≤ u.pkt ∨ s.bits.testBit u.pkt.toNat = true ∨ (u.data.size : Int) ≠ pkL s.ms s.mg s.mq n u.pkt)) (hb : s.bits ||| 2 ^ u.pkt.toNat ≠ 2 ^ s.P.length - 1) :
    puS s u = { s with bits := s.bits ||| 2 ^ u.pkt.toNat, P := s.P.set u.pkt.toNat u.data } := by
  unfold puS
  dsimp only
  rw [hn, if_neg h, if_pos hb]
theorem pu_bad {s : Sto} {u : Upd} {n : Int} (hn : dnN s.ms s.mg s.L.length s.data.size = n) (h : ¬ (u.page ≠ n ∨ (s.P.length : Int) ≤ u.pkt ∨ s.bits.testBit u.pkt.toNat = true ∨ (u.data.size : Int) ≠ pkL s.ms s.mg s.mq n u.pkt)) (hb : ¬ (s.bits ||| 2 ^ u.pkt.toNat ≠ 2 ^ s.P.length - 1)) (hv : vfE s.mv s.ms s.mg 0 n s.L (joinS (s.P.set u.pkt.toNat u.data)) ≠ 0) :
    puS s u = nxS { s with bits := s.bits ||| 2 ^ u.pkt.toNat, P := s.P.set u.pkt.toNat u.data } := by
  unfold puS
  dsimp only
  rw [hn, if_neg h, if_neg hb, if_neg hv]
@[reducible] def a3F (D A B : ByteArray) : Sto := ⟨3, D, true, 3, 5, 4, 2, [A, B], ⟨#[97, 98, 99, 100, 101]⟩, 0, []⟩
@[reducible] def a31 (D : ByteArray) : Sto := ⟨3, D, false, 0, 0, 0, 0, [], ⟨#[]⟩, 0, []⟩
@[reducible] def a32 (D A B : ByteArray) : Sto := ⟨3, D, true, 3, 5, 4, 2, [A, B], ⟨#[]⟩, 0, [⟨#[]⟩, ⟨#[]⟩]⟩
@[reducible] def a33 (D A B : ByteArray) : Sto := ⟨3, D, true, 3, 5, 4, 2, [A, B], ⟨#[]⟩, 2, [⟨#[]⟩, ⟨#[99, 100]⟩]⟩
theorem a3_s2 {A B D E : ByteArray} (hA : A.size = 32) (hB : B.size = 32) (hE : encS 3 5 4 2 [A, B] = E) (hD : dig 0 (idB E).data.toList = D) : maS (a31 D) E = a32 D A B := by
  obtain ⟨h1, h2, h3⟩ := de_enc (a3_chk A B hA hB) E hE
  obtain ⟨p1, p2, p3, p4⟩ := enc_parts (L := [A, B]) (v := 3) (sz := 5) (pg := 4) (pk := 2) (by decide) (by decide) (by decide) (by decide) E hE
  unfold maS
  dsimp only
  rw [p1, p2, p3, p4, h2, h3, hE, hD, if_pos ⟨h1, rfl, rfl⟩]
  refine (nx_eq (K := 2) ?_ ?_).trans rfl
  · show dnN 5 4 2 0 ≠ ((2 : Nat) : Int)
    decide
  · show (pkC 5 4 2 (dnN 5 4 2 0)).toNat = 2
    decide
theorem a3_s3 {A B D : ByteArray} : puS (a32 D A B) ⟨4, 3, D, 0, 1, 0, ⟨#[99, 100]⟩⟩ = a33 D A B := by
  refine (pu_part (n := 0) (by show dnN 5 4 2 0 = 0; decide) ?_ ?_).trans (by show (⟨3, D, true, 3, 5, 4, 2, [A, B], ⟨#[]⟩, 0 ||| 2 ^ 1, [⟨#[]⟩, ⟨#[99, 100]⟩]⟩ : Sto) = _; rw [show (0 ||| 2 ^ 1 : Nat) = 2 by decide])
  · rintro (h | h | h | h)
    · exact h rfl
    · revert h; show ¬ ((2 : Nat) : Int) ≤ 1; decide
    · exact absurd (show Nat.testBit 0 1 = true from h) (by decide)
    · revert h; show ¬ ((2 : Nat) : Int) ≠ pkL 5 4 2 0 1; decide
  · show (0 ||| 2 ^ 1 : Nat) ≠ 2 ^ 2 - 1
    decide
theorem a3_s4 {A B D : ByteArray} (hx : dgS 3 0 ⟨#[120, 120, 99, 100]⟩ ≠ A) : puS (a33 D A B) ⟨4, 3, D, 0, 0, 0, ⟨#[120, 120]⟩⟩ = a32 D A B := by
  have hv : vfE 3 5 4 0 0 [A, B] ⟨#[120, 120, 99, 100]⟩ ≠ 0 := by
    unfold vfE
    rw [if_neg (by decide), if_neg (by decide), if_pos]
    · decide
    · simpa using hx
  refine (pu_bad (n := 0) (by show dnN 5 4 2 0 = 0; decide) ?_ ?_ ?_).trans ((nx_eq (K := 2) ?_ ?_).trans rfl)
  · rintro (h | h | h | h)
    · exact h rfl
    · revert h; show ¬ ((2 : Nat) : Int) ≤ 0; decide
    · exact absurd (show Nat.testBit 2 0 = true from h) (by decide)
    · revert h; show ¬ ((2 : Nat) : Int) ≠ pkL 5 4 2 0 0; decide
  · show ¬ (2 ||| 2 ^ 0 : Nat) ≠ 2 ^ 2 - 1
    decide
  · have hj : joinS [⟨#[120, 120]⟩, ⟨#[99, 100]⟩] = ⟨#[120, 120, 99, 100]⟩ := by decide
    show vfE 3 5 4 0 0 [A, B] (joinS [⟨#[120, 120]⟩, ⟨#[99, 100]⟩]) ≠ 0
    rw [hj]
    exact hv
  · show dnN 5 4 2 0 ≠ ((2 : Nat) : Int)
    decide
  · show (pkC 5 4 2 (dnN 5 4 2 0)).toNat = 2
    decide
theorem a3_F {A B D E : ByteArray} (hA : dgS 3 0 ⟨#[97, 98, 99, 100]⟩ = A) (hB : dgS 3 1 ⟨#[101]⟩ = B) (sA : A.size = 32) (sB : B.size = 32) (hE : encS 3 5 4 2 [A, B] = E) (hD : dig 0 (idB E).data.toList = D) (sD : D.size = 32) : chS (a3F D A B) = true := by
  have hp : pgsB 3 5 4 [A, B] ⟨#[97, 98, 99, 100, 101]⟩ 2 = true := pgsB_of fun i hi => by
    have : i = 0 ∨ i = 1 := by omega
    rcases this with rfl | rfl
    · rw [show pgS ⟨#[97, 98, 99, 100, 101]⟩ 4 0 = ⟨#[97, 98, 99, 100]⟩ by decide]
      unfold vfE
      rw [if_neg (by decide), if_neg (by decide), if_neg]
      simpa using hA
    · rw [show pgS ⟨#[97, 98, 99, 100, 101]⟩ 4 1 = ⟨#[101]⟩ by decide]
      unfold vfE
      rw [if_neg (by decide), if_neg (by decide), if_neg]
      simpa using hB
  refine ch_known ⟨by show (1 : Int) ≤ 3; decide, by show (3 : Int) ≤ 65535; decide, sD⟩ rfl ?_
  have hn := nx_ok (s := a3F D A B) (n := 2) (k := 2) rfl (a3_chk A B sA sB) rfl (by show dig 0 (idB (encS 3 5 4 2 [A, B])).data.toList = D; rw [hE]; exact hD) (by show dnB 5 4 5 = true; decide) (by show dnN 5 4 2 5 = ((2 : Nat) : Int); decide) hp
  have e : nxS (a3F D A B) = a3F D A B := by
    unfold nxS
    rw [if_pos (by show dnN 5 4 2 5 = ((2 : Nat) : Int); decide)]
  rwa [e] at hn
end Go.Proofs.YtjofcjogbopkjaaGreat
