/- Transfer: the reference puts packets that change nothing. -/
import Derived.Test.YtjofcjogbopkjaaGreatVL
import Derived.Test.YtjofcjogbopkjaaGreatZ1
set_option linter.unusedVariables false
set_option linter.unusedSimpArgs false
namespace Go.Proofs.YtjofcjogbopkjaaGreat
open Go Av
set_option maxRecDepth 20000
set_option maxHeartbeats 16000000 in
/-- packet, of what changes nothing. -/
theorem ac_rpackK (s : Sto) (n p : Nat) (hn : s.L.length = n) (hp : s.P.length = p) (hb : n ≤ 1000000 ∧ p ≤ 1000000) (hbits : s.bits < 18446744073709551616) (hd : s.data.size ≤ 100000) (hc : chS s = true) (hkn : s.kn = true) (uk uv : Int) (ui : ByteArray) (up ut : Int) (ub : Nat) (ud : ByteArray) (hut : 0 ≤ ut ∧ ut < 64) (h : cpB s = true ∨ up ≠ dnN s.ms s.mg n s.data.size ∨ (p : Int) ≤ ut ∨ s.bits.testBit ut.toNat = true ∨ (ud.size : Int) ≠ pkL s.ms s.mg s.mq (dnN s.ms s.mg n s.data.size) ut) : ACalls Tryz.prog 40 [.agg #[.int .i64 s.ver, .string s.id, .bool s.kn, .int .i64 s.mv, .int .i64 s.ms, .int .i64 s.mg, .int .i64 s.mq, .slice (some ⟨0, 0, none⟩) n n, .string s.data, .int .u64 s.bits, .slice (some ⟨1, 0, none⟩) p p], .agg #[.int .i64 uk, .int .i64 uv, .string ui, .int .i64 up, .int .i64 ut, .int .u64 ub, .string ud]] [some ⟨List.map Value.string s.L, false, 1⟩, some ⟨List.map Value.string s.P, false, 1⟩] (.agg #[.int .i64 s.ver, .string s.id, .bool s.kn, .int .i64 s.mv, .int .i64 s.ms, .int .i64 s.mg, .int .i64 s.mq, .slice (some ⟨0, 0, none⟩) n n, .string s.data, .int .u64 s.bits, .slice (some ⟨1, 0, none⟩) p p]) [none, none] := by
  obtain ⟨r1, r2, r3, r4, k, r5, r6, r7, r8, r9, r10, r11⟩ := ch_pg hn hp hc hkn
  have H := ac_rpages s n p hn hp hb r1 k r6
  rw [r5] at h
  by_cases hk : k = n
  · subst hk
    clear hc hbits h r1 r2 r5 r6 r9 r10 r11
    obtain ⟨ver, id, kn, mv, ms, mg, mq, L, data, bits, P⟩ := s
    dsimp only at *
    refine acalls_of_aw Tryz.func40 rfl rfl ?_
    repeat' first | intro h1 | refine st ?_ | refine stRW [0, 1] H ?_ | refine stm ?_ | refine run_nil ?_ | refine sd ?_ | refine sdl ?_ | refine Jk ?_ | refine Jl ?_ | refine Jo ?_ ?_ | refine rund_nil ?_ | refine Jz ?_ | refine Jw ?_ | refine Jx (id := 2) [0,0,2,6,14,31,63,127,255,127,1023,2047,4095,8191,16383,8191,40959,106495,262143,524287,1048575,2097151,4194303,2097151,10485759,33554431,67108863,134217727,268435455,536870911,1073741823,2147483647,4294967295,1073741823,9663676415,1073741823,1073741823,69793218559,267361714175,549755813887,1099511627775] 41 ?_ | refine Jq ?_ | refine aw_ret ?_
    all_goals first | (exfalso; omega) | exact pm_ret _ (renumD [0, 1]) rfl
  have hk2 : k < n := by omega
  have h := h.resolve_left (fun h => hk (r9.1 h))
  by_cases h1 : up = k
  case neg =>
    clear hc hbits h r1 r2 r5 r6 r9 r10 r11
    obtain ⟨ver, id, kn, mv, ms, mg, mq, L, data, bits, P⟩ := s
    dsimp only at *
    refine acalls_of_aw Tryz.func40 rfl rfl ?_
    repeat' first | intro h1 | refine st ?_ | refine stRW [0, 1] H ?_ | refine stm ?_ | refine run_nil ?_ | refine sd ?_ | refine sdl ?_ | refine Jk ?_ | refine Jl ?_ | refine Jo ?_ ?_ | refine rund_nil ?_ | refine Jz ?_ | refine Jw ?_ | refine Jx (id := 2) [0,0,2,6,14,31,63,127,255,127,1023,2047,4095,8191,16383,8191,40959,106495,262143,524287,1048575,2097151,4194303,2097151,10485759,33554431,67108863,134217727,268435455,536870911,1073741823,2147483647,4294967295,1073741823,9663676415,1073741823,1073741823,69793218559,267361714175,549755813887,1099511627775] 41 ?_ | refine Jq ?_ | refine aw_ret ?_
    all_goals first | (exfalso; omega) | exact pm_ret _ (renumD [0, 1]) rfl
  have h := h.resolve_left (fun h => h h1)
  by_cases h2 : (p : Int) ≤ ut
  · clear hc hbits h r1 r2 r5 r6 r9 r10 r11
    obtain ⟨ver, id, kn, mv, ms, mg, mq, L, data, bits, P⟩ := s
    dsimp only at *
    refine acalls_of_aw Tryz.func40 rfl rfl ?_
    repeat' first | intro h1 | refine st ?_ | refine stRW [0, 1] H ?_ | refine stm ?_ | refine run_nil ?_ | refine sd ?_ | refine sdl ?_ | refine Jk ?_ | refine Jl ?_ | refine Jo ?_ ?_ | refine rund_nil ?_ | refine Jz ?_ | refine Jw ?_ | refine Jx (id := 2) [0,0,2,6,14,31,63,127,255,127,1023,2047,4095,8191,16383,8191,40959,106495,262143,524287,1048575,2097151,4194303,2097151,10485759,33554431,67108863,134217727,268435455,536870911,1073741823,2147483647,4294967295,1073741823,9663676415,1073741823,1073741823,69793218559,267361714175,549755813887,1099511627775] 41 ?_ | refine Jq ?_ | refine aw_ret ?_
    all_goals first | (exfalso; omega) | exact pm_ret _ (renumD [0, 1]) rfl
  have h := h.resolve_left h2
  obtain ⟨j, hj⟩ : ∃ j : Nat, ut = j := ⟨ut.toNat, by omega⟩
  subst hj
  rw [Int.toNat_natCast] at h
  have hw := bit_and s.bits j hbits (by omega)
  by_cases h3 : s.bits.testBit j = true
  · rw [if_pos h3] at hw
    clear hc hbits h r1 r2 r5 r6 r9 r10 r11 h3
    obtain ⟨ver, id, kn, mv, ms, mg, mq, L, data, bits, P⟩ := s
    dsimp only at *
    refine acalls_of_aw Tryz.func40 rfl rfl ?_
    repeat' first | intro h1 | refine sd (h := ok_andD rfl rfl hw) ?_ | refine st ?_ | refine stRW [0, 1] H ?_ | refine stm ?_ | refine run_nil ?_ | refine sd ?_ | refine sdl ?_ | refine Jk ?_ | refine Jl ?_ | refine Jo ?_ ?_ | refine rund_nil ?_ | refine Jz ?_ | refine Jw ?_ | refine Jx (id := 2) [0,0,2,6,14,31,63,127,255,127,1023,2047,4095,8191,16383,8191,40959,106495,262143,524287,1048575,2097151,4194303,2097151,10485759,33554431,67108863,134217727,268435455,536870911,1073741823,2147483647,4294967295,1073741823,9663676415,1073741823,1073741823,69793218559,267361714175,549755813887,1099511627775] 41 ?_ | refine Jq ?_ | refine aw_ret ?_
    all_goals first | (exfalso; omega) | exact pm_ret _ (renumD [0, 1]) rfl
  have h := h.resolve_left h3
  rw [if_neg h3] at hw
  obtain ⟨K, k1, k2, k3, k4, k5, k6, k7⟩ := page_fc (i := k) hn r1 hk2
  obtain ⟨o1, o2, o3, o4⟩ := of_decide_eq_true (r10 hk2)
  rw [hp] at o1
  obtain ⟨x, hx⟩ : ∃ x, pkL s.ms s.mg s.mq k j = x := ⟨_, rfl⟩
  have H3 := ac_rlength s.mv s.ms s.mg s.mq s.L n hn (by omega) r1 k hk2 K k1 j (by omega) x hx
  rw [hx] at h
  clear hc hbits r1 r2 r5 r6 r9 r10 r11 h3 hx k1 k4 k5 k6 k7 o1 o2 o3 o4
  obtain ⟨ver, id, kn, mv, ms, mg, mq, L, data, bits, P⟩ := s
  dsimp only at *
  subst h1
  refine acalls_of_aw Tryz.func40 rfl rfl ?_
  repeat' first | intro h1 | refine sd (h := ok_andD rfl rfl hw) ?_ | refine st ?_ | refine stRW [0, 1] H ?_ | refine sdRW [0] H3 ?_ | refine stm ?_ | refine run_nil ?_ | refine sd ?_ | refine sdl ?_ | refine Jk ?_ | refine Jl ?_ | refine Jo ?_ ?_ | refine rund_nil ?_ | refine Jz ?_ | refine Jw ?_ | refine Jx (id := 2) [0,0,2,6,14,31,63,127,255,127,1023,2047,4095,8191,16383,8191,40959,106495,262143,524287,1048575,2097151,4194303,2097151,10485759,33554431,67108863,134217727,268435455,536870911,1073741823,2147483647,4294967295,1073741823,9663676415,1073741823,1073741823,69793218559,267361714175,549755813887,1099511627775] 41 ?_ | refine Jq ?_ | refine Js ?_ | refine aw_ret ?_
  all_goals first | (exfalso; omega) | exact pm_ret _ (renumD [0, 1]) rfl
end Go.Proofs.YtjofcjogbopkjaaGreat
