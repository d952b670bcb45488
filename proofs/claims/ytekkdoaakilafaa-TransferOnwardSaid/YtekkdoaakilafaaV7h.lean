/- Transfer: Hear of anything right. -/
import Derived.Test.YtekkdoaakilafaaV2h
import Derived.Test.YtekkdoaakilafaaV5h
import Derived.Test.YtekkdoaakilafaaV6h
set_option linter.unusedVariables false
set_option linter.unusedSimpArgs false
namespace Go.Proofs.Ytekkdoaakilafaa
open Go Av
set_option maxRecDepth 20000
theorem val_kind {uk uv : Int} {ui : ByteArray} {up ut : Int} {ub : Nat} {ud : ByteArray} (h : valU uk uv ui up ut ub ud = true) : (1 ≤ uv ∧ uv ≤ 65535 ∧ ui.size = 32) ∧ (uk = 1 ∨ uk = 2 ∨ (uk = 3 ∧ ud.size ≤ 4096) ∨ (uk = 4 ∧ (0 ≤ ut ∧ ut < 64) ∧ ud.size ≤ 96)) := by
  unfold valU at h
  rw [Bool.and_eq_true] at h
  refine ⟨of_decide_eq_true h.1, ?_⟩
  have h2 := h.2
  by_cases k1 : uk = 1
  · exact .inl k1
  by_cases k2 : uk = 2
  · exact .inr (.inl k2)
  rw [if_neg k1, if_neg k2] at h2
  by_cases k3 : uk = 3
  · rw [if_pos k3] at h2
    have := of_decide_eq_true h2
    exact .inr (.inr (.inl ⟨k3, this.1.2⟩))
  rw [if_neg k3] at h2
  by_cases k4 : uk = 4
  · rw [if_pos k4] at h2
    have := of_decide_eq_true h2
    exact .inr (.inr (.inr ⟨k4, this.2.1, this.2.2.1.2⟩))
  rw [if_neg k4] at h2
  exact absurd h2 (by decide)
theorem heE_not1 {s : Sto} {u : Upd} (h : u.kind ≠ 1) : heE s u = false := decide_eq_false fun k => h k.1
/-- Hear, of a right store and a right update. -/
theorem ac_Hear (s : Sto) (n p : Nat) (hn : s.L.length = n) (hp : s.P.length = p) (hb : n ≤ 1000000 ∧ p ≤ 1000000) (hbits : s.bits < 18446744073709551616) (hd : s.data.size ≤ 100000) (hc : chS s = true) (uk uv : Int) (ui : ByteArray) (up ut : Int) (ub : Nat) (ud : ByteArray) (hu : valU uk uv ui up ut ub ud = true) (s' : Sto) (hs' : heS s ⟨uk, uv, ui, up, ut, ub, ud⟩ = s') (e : Bool) (he : heE s ⟨uk, uv, ui, up, ut, ub, ud⟩ = e) (n' p' : Nat) (hn' : s'.L.length = n') (hp' : s'.P.length = p') :
    ACalls Try.prog 20 [.agg #[.int .i64 s.ver, .string s.id, .bool s.kn, .int .i64 s.mv, .int .i64 s.ms, .int .i64 s.mg, .int .i64 s.mq, .slice (some ⟨0, 0, none⟩) n n, .string s.data, .int .u64 s.bits, .slice (some ⟨1, 0, none⟩) p p], .agg #[.int .i64 uk, .int .i64 uv, .string ui, .int .i64 up, .int .i64 ut, .int .u64 ub, .string ud]] [some ⟨List.map Value.string s.L, false, 1⟩, some ⟨List.map Value.string s.P, false, 1⟩] (.tuple #[.agg #[.int .i64 s'.ver, .string s'.id, .bool s'.kn, .int .i64 s'.mv, .int .i64 s'.ms, .int .i64 s'.mg, .int .i64 s'.mq, .slice (some ⟨2, 0, none⟩) n' n', .string s'.data, .int .u64 s'.bits, .slice (some ⟨3, 0, none⟩) p' p'], .bool e, .int .i64 0]) [none, none, some ⟨List.map Value.string s'.L, true, 1⟩, some ⟨List.map Value.string s'.P, true, 1⟩] := by
  obtain ⟨hv0, hk⟩ := val_kind hu
  unfold heS at hs'
  dsimp only at hs'
  have keep : s = s' → ∀ e', e' = e → ACalls Try.prog 20 [.agg #[.int .i64 s.ver, .string s.id, .bool s.kn, .int .i64 s.mv, .int .i64 s.ms, .int .i64 s.mg, .int .i64 s.mq, .slice (some ⟨0, 0, none⟩) n n, .string s.data, .int .u64 s.bits, .slice (some ⟨1, 0, none⟩) p p], .agg #[.int .i64 uk, .int .i64 uv, .string ui, .int .i64 up, .int .i64 ut, .int .u64 ub, .string ud]] [some ⟨List.map Value.string s.L, false, 1⟩, some ⟨List.map Value.string s.P, false, 1⟩] (.tuple #[.agg #[.int .i64 s.ver, .string s.id, .bool s.kn, .int .i64 s.mv, .int .i64 s.ms, .int .i64 s.mg, .int .i64 s.mq, .slice (some ⟨2, 0, none⟩) n n, .string s.data, .int .u64 s.bits, .slice (some ⟨3, 0, none⟩) p p], .bool e', .int .i64 0]) [none, none, some ⟨List.map Value.string s.L, true, 1⟩, some ⟨List.map Value.string s.P, true, 1⟩] → ACalls Try.prog 20 [.agg #[.int .i64 s.ver, .string s.id, .bool s.kn, .int .i64 s.mv, .int .i64 s.ms, .int .i64 s.mg, .int .i64 s.mq, .slice (some ⟨0, 0, none⟩) n n, .string s.data, .int .u64 s.bits, .slice (some ⟨1, 0, none⟩) p p], .agg #[.int .i64 uk, .int .i64 uv, .string ui, .int .i64 up, .int .i64 ut, .int .u64 ub, .string ud]] [some ⟨List.map Value.string s.L, false, 1⟩, some ⟨List.map Value.string s.P, false, 1⟩] (.tuple #[.agg #[.int .i64 s'.ver, .string s'.id, .bool s'.kn, .int .i64 s'.mv, .int .i64 s'.ms, .int .i64 s'.mg, .int .i64 s'.mq, .slice (some ⟨2, 0, none⟩) n' n', .string s'.data, .int .u64 s'.bits, .slice (some ⟨3, 0, none⟩) p' p'], .bool e, .int .i64 0]) [none, none, some ⟨List.map Value.string s'.L, true, 1⟩, some ⟨List.map Value.string s'.P, true, 1⟩] := by
    rintro rfl e' rfl h
    obtain rfl : n = n' := by omega
    obtain rfl : p = p' := by omega
    exact h
  rcases hk with hk | hk | ⟨hk, h4⟩ | ⟨hk, h4, h5⟩
  · by_cases hv : s.ver < uv
    · rw [if_pos ⟨hk, hv⟩] at hs'
      have : e = false := by
        rw [← he]
        refine decide_eq_false fun k => ?_
        have := congrArg Upd.ver k.2.2
        dsimp only [annU] at this
        omega
      subst this
      subst hs'
      obtain rfl : n' = 0 := hn'.symm
      obtain rfl : p' = 0 := hp'.symm
      exact ac_HearN s n p hn hp hb hbits hd hc uk uv ui up ut ub ud hu hk hv
    · rw [if_neg (fun k => hv k.2), if_neg (fun k => by omega), if_neg (fun k => by omega)] at hs'
      have hz : zeB s = false := by
        rcases chS_spec hc with h | h
        · have := (of_decide_eq_true h).1
          omega
        · exact h.1
      refine keep hs' e rfl (ac_HearE s n p hn hp hb hbits hd hc uk uv ui up ut ub ud hu hk hv hz e ?_)
      rw [← he]
      exact decide_eq_decide.2 ⟨fun k => ⟨hk, hz, k⟩, fun k => k.2.2⟩
  · rw [if_neg (fun k => by omega), if_neg (fun k => by omega), if_neg (fun k => by omega)] at hs'
    rw [heE_not1 (by dsimp only; omega)] at he
    exact keep hs' false he (ac_HearK2 s n p hn hp hb hbits hd hc uk uv ui up ut ub ud hu false rfl hk)
  · rw [heE_not1 (by dsimp only; omega)] at he
    by_cases hv : uv = s.ver
    · by_cases hi : ui = s.id
      · by_cases hkn : s.kn = true
        · rw [if_neg (fun k => by omega), if_neg (fun k => by rw [hkn] at k; exact absurd k.2.2 (by decide)), if_neg (fun k => by omega)] at hs'
          exact keep hs' false he (ac_HearK3k s n p hn hp hb hbits hd hc uk uv ui up ut ub ud hu false rfl hk hv hi hkn)
        · have hkn : s.kn = false := by simpa using hkn
          rw [if_neg (fun k => by omega), if_pos ⟨hk, ⟨hv, hi⟩, hkn⟩] at hs'
          subst he
          exact ac_HearM s n p hn hp hb hbits hd hc uk uv ui up ut ub ud hu hk hv hi hkn h4 s' hs' n' p' hn' hp'
      · rw [if_neg (fun k => by omega), if_neg (fun k => hi k.2.1.2), if_neg (fun k => by omega)] at hs'
        exact keep hs' false he (ac_HearK3i s n p hn hp hb hbits hd hc uk uv ui up ut ub ud hu false rfl hk hv hi)
    · rw [if_neg (fun k => by omega), if_neg (fun k => hv k.2.1.1), if_neg (fun k => by omega)] at hs'
      exact keep hs' false he (ac_HearK3v s n p hn hp hb hbits hd hc uk uv ui up ut ub ud hu false rfl hk hv)
  · rw [heE_not1 (by dsimp only; omega)] at he
    by_cases hv : uv = s.ver
    · by_cases hi : ui = s.id
      · by_cases hkn : s.kn = false
        · rw [if_neg (fun k => by omega), if_neg (fun k => by omega), if_neg (fun k => by rw [hkn] at k; exact absurd k.2.2.1 (by decide))] at hs'
          exact keep hs' false he (ac_HearK4n s n p hn hp hb hbits hd hc uk uv ui up ut ub ud hu false rfl hk hv hi hkn)
        · have hkn : s.kn = true := by simpa using hkn
          by_cases hcc : cpB s = true
          · rw [if_neg (fun k => by omega), if_neg (fun k => by omega), if_neg (fun k => by rw [hcc] at k; exact absurd k.2.2.2 (by decide))] at hs'
            exact keep hs' false he (ac_HearK4c s n p hn hp hb hbits hd hc uk uv ui up ut ub ud hu false rfl hk hv hi hkn hcc)
          · have hcc : cpB s = false := by simpa using hcc
            rw [if_neg (fun k => by omega), if_neg (fun k => by omega), if_pos ⟨hk, ⟨hv, hi⟩, hkn, hcc⟩] at hs'
            subst he
            have := ac_HearP s n p hn hp hb hbits hd hc uk uv ui up ut ub ud hu hk hv hi hkn hcc s' hs' p' hp'
            have hL : s'.L = s.L := by
              rw [← hs']
              unfold puS
              dsimp only
              split
              · rfl
              · split <;> rfl
            obtain rfl : n = n' := by rw [← hn', hL, hn]
            rw [hL]
            exact this
      · rw [if_neg (fun k => by omega), if_neg (fun k => by omega), if_neg (fun k => hi k.2.1.2)] at hs'
        exact keep hs' false he (ac_HearK4i s n p hn hp hb hbits hd hc uk uv ui up ut ub ud hu false rfl hk hv hi)
    · rw [if_neg (fun k => by omega), if_neg (fun k => by omega), if_neg (fun k => hv k.2.1.1)] at hs'
      exact keep hs' false he (ac_HearK4v s n p hn hp hb hbits hd hc uk uv ui up ut ub ud hu false rfl hk hv)
end Go.Proofs.Ytekkdoaakilafaa
