/- TopQuietWhenAgreed: slots. TopQuietWhenAgreed: the law. TopQuietWhenAgreed returns true of every input: nodes that agree make no more announcements than are enough.
   Conditions: none. -/
import Derived.Test.YtekkdoaakilafaaVL
import Derived.Test.YtekkdoaakilafaaTL
import Derived.Test.YtekkdoaakilafaaJ
import Derived.Test.YtekkdoaakilafaaRows
set_option linter.unusedVariables false
set_option linter.unusedSimpArgs false
namespace Go.Proofs.Ytekkdoaakilafaa
open Go Av
set_option maxRecDepth 20000
set_option maxHeartbeats 16000000 in
theorem tq_mid (l d e T : Int) (X : List Int) (who : Int) (t1 : l ≤ T) (t2 : T ≤ 262144) (h300 : ¬ 300 < T) (l1 : 2 ≤ l) (he0 : ¬ e = 0) (hvT : ∀ p h : Int, T / 2 ≤ p ∧ p < T → 0 ≤ h ∧ h ≤ 1048576 → vE l d e ⟨T, 0, p, h⟩ = 0) (hcT : ∀ p h s : Int, T / 2 ≤ p ∧ p < T → 0 ≤ h ∧ h ≤ 1048576 → 0 ≤ s ∧ s ≤ 1073741824 → cE l d e ⟨T, 0, p, h⟩ s = 0) (i n : Nat) (hin : i = n) (i0 : 1 ≤ i) (i6 : i ≤ 6) (hXl : X.length = i) (hX : ∀ x ∈ X, 0 ≤ x ∧ x ≤ 4294967295) (hwho : 0 ≤ who ∧ who ≤ 255) (Q0 : List (Int × Int)) (g2 : Q0.length = i) (g3 : Init T Q0) (e1 : 0 ≤ e) (e2 : e ≤ 16) (hg : gok l d e = true) (d1 : 0 ≤ d) : AW Try.prog Try.f9.ntmps 1 (seqAt Try.f9 7) (PostP Try.prog Try.f9.results.toList (.bool true)) ([(1, .slice (some ⟨0, 0, none⟩) n n), (2, .int .u8 who), (3, .pointer (some ⟨2, 0, none⟩)), (7, .int .i64 T), (8, .slice (some ⟨1, 0, none⟩) i i), (56, .slice (some ⟨0, 0, none⟩) n n), (57, .int .i64 n), (58, .int .i64 i)]) [some ⟨List.map (Value.int .u32) X, false, 1⟩, some ⟨Q0.flatMap (rmF T), true, 4⟩, some ⟨[.int .i64 l, .int .i64 d, .int .i64 e], true, 1⟩, none] := by
  subst hin
  repeat' first | intro h1 | intro h1 | refine st (h := ok_not_dec2 rfl) ?_ | refine sd (h := ok_not_dec2 rfl) ?_ | refine st ?_ | refine stm ?_ | refine Ja ?_ | refine Jb ?_ | refine Jc ?_ | refine Jd ?_ | refine Je ?_ | refine Jf ?_ | refine Jg ?_ | refine Jh ?_ ?_ | refine Ji ?_ ?_ | refine Jj ?_ ?_ | refine run_nil ?_ | refine sd ?_ | refine sdl ?_ | refine sdm (n := 1) ?_ | refine sdm ?_ | refine sdb ?_ | refine Jk ?_ | refine Jl ?_ | refine Jm ?_ | refine Jn ?_ ?_ | refine Jo ?_ ?_ | refine Jp ?_ ?_ | refine rund_nil ?_ | refine Jz ?_ | refine Jw ?_ | refine Jx (id := 22) [0,0,0,6,14,0,63,127,255,255,255,0,2559,7167,16383] 12 ?_ | refine Jx (id := 30) [0,0,0,0,0,24,56,0,252,508,1020,1020,2047,6143,16383] 13 ?_ | refine Jx (id := 41) [0,0,0,6,14,0,32,0,128,384,1023,2047,4095,4095,0,24575,65535] 15 ?_ | refine Jx (id := 44) [0,0,3,7,15,0,32,127] 8 ?_ | refine Jx (id := 45) [0,0,0,6,14,31,63] 7 ?_ | refine aw_block ?_ | refine Jq ?_ | refine Jr ?_ | refine Js ?_ | refine Jt ?_ | refine Ju ?_ ?_ | refine Jv ?_ ?_ | refine Jy ?_ | refine aw_exit ?_ | refine aw_ret ?_ | refine pp_ret ?_ | refine pp_normal ?_
  refine aw_loopg
    (S := fun y : Pg2 => [(1, .slice (some ⟨0, 0, none⟩) i i), (2, .int .u8 who), (3, .pointer (some ⟨2, 0, none⟩)), (7, .int .i64 T), (8, .slice (some ⟨1, 0, none⟩) i i), (13, .int .i64 y.made), (96, .int .i64 T), (97, .int .i64 y.i)])
    (B := fun y : Pg2 => [some ⟨List.map (Value.int .u32) X, false, 1⟩, some ⟨y.Q.flatMap (rmF T), true, 4⟩, some ⟨[.int .i64 l, .int .i64 d, .int .i64 e], true, 1⟩])
    (R := fun y : Pg2 => (y.i : Int) ≤ T ∧ PInv e T i y.i 0 y.made y.Q)
    (μ := fun y : Pg2 => T.toNat - y.i) ⟨0, 0, Q0⟩ (fitsD [0, 1, 2]) ⟨by dsimp only; omega, PInv.zero g2 (by omega) e1 g3.rng g3.dst⟩ ?_
  clear g3 g2 Q0
  rintro ⟨s, made, Q0⟩ ⟨k1, k2⟩
  dsimp only at k1 k2 ⊢
  by_cases hs : (s : Int) < T
  · exact tq_r2 l d e T X who t1 t2 h300 l1 he0 hvT hcT i s i6 hs made Q0 k2
  · have hfin := k2.fin (by omega)
    rw [if_neg he0] at hfin
    have hmd : 1 ≤ made ∧ made ≤ e := by omega
    have hQl := k2.len
    obtain ⟨w, hw⟩ : ∃ w, who % (i : Int) = w := ⟨_, rfl⟩
    have hwb : 0 ≤ w ∧ w < i := ⟨by rw [← hw]; exact Int.emod_nonneg _ (by omega), by rw [← hw]; exact Int.emod_lt_of_pos _ (by omega)⟩
    obtain ⟨j, hj⟩ : ∃ j : Nat, w = j := ⟨w.toNat, by omega⟩
    obtain ⟨⟨p, h⟩, hq⟩ : ∃ q, Q0[j]? = some q := ⟨_, List.getElem?_eq_getElem (by omega)⟩
    have hr := k2.rng j _ hq
    dsimp only at hr
    obtain ⟨x, hx⟩ : ∃ x, X[0]? = some x := ⟨_, List.getElem?_eq_getElem (by omega)⟩
    have hxr := hX x (List.mem_of_getElem? hx)
    have hcc := hcT p h (T - 1) ⟨hr.1, hr.2.1⟩ (by omega) (by omega)
    have hE : AW Try.prog Try.f9.ntmps 1 (seqAt Try.f9 19) (PostP Try.prog Try.f9.results.toList (.bool true)) ([(1, .slice (some ⟨0, 0, none⟩) i i), (2, .int .u8 who), (3, .pointer (some ⟨2, 0, none⟩)), (7, .int .i64 T), (8, .slice (some ⟨1, 0, none⟩) i i), (13, .int .i64 made), (96, .int .i64 T), (97, .int .i64 s)]) ([some ⟨List.map (Value.int .u32) X, false, 1⟩, some ⟨Q0.flatMap (rmF T), true, 4⟩, some ⟨[.int .i64 l, .int .i64 d, .int .i64 e], true, 1⟩]) := by
      by_cases hlT : l < T
      · exact tq_end1 l d e T X who t1 t2 h300 l1 he0 i s i0 i6 hXl made Q0 hQl hmd hwho w hw j hj (by omega) p h hq (by omega) x hx hxr hcc hg hlT d1
      · exact tq_end2 l d e T X who t1 t2 h300 l1 he0 i s i0 i6 hXl made Q0 hQl hmd hwho w hw j hj (by omega) p h hq (by omega) x hx hxr hcc hg (by omega)
    clear hfin k2 hX hvT hcT hcc
    repeat' first | intro h1 | intro h1 | refine st (h := ok_not_dec2 rfl) ?_ | refine sd (h := ok_not_dec2 rfl) ?_ | exact aw_fits (fitsD [0, 1, 2]) hE | refine st ?_ | refine stm ?_ | refine Ja ?_ | refine Jb ?_ | refine Jc ?_ | refine Jd ?_ | refine Je ?_ | refine Jf ?_ | refine Jg ?_ | refine Jh ?_ ?_ | refine Ji ?_ ?_ | refine Jj ?_ ?_ | refine run_nil ?_ | refine sd ?_ | refine sdl ?_ | refine sdm (n := 1) ?_ | refine sdm ?_ | refine sdb ?_ | refine Jk ?_ | refine Jl ?_ | refine Jm ?_ | refine Jn ?_ ?_ | refine Jo ?_ ?_ | refine Jp ?_ ?_ | refine rund_nil ?_ | refine Jz ?_ | refine Jw ?_ | refine Jx (id := 22) [0,0,0,6,14,0,63,127,255,255,255,0,2559,7167,16383] 12 ?_ | refine Jx (id := 30) [0,0,0,0,0,24,56,0,252,508,1020,1020,2047,6143,16383] 13 ?_ | refine Jx (id := 41) [0,0,0,6,14,0,32,0,128,384,1023,2047,4095,4095,0,24575,65535] 15 ?_ | refine Jx (id := 44) [0,0,3,7,15,0,32,127] 8 ?_ | refine Jx (id := 45) [0,0,0,6,14,31,63] 7 ?_ | refine aw_block ?_ | refine Jq ?_ | refine Jr ?_ | refine Js ?_ | refine Jt ?_ | refine Ju ?_ ?_ | refine Jv ?_ ?_ | refine Jy ?_ | refine aw_exit ?_ | refine aw_ret ?_ | refine pp_ret ?_ | refine pp_normal ?_
end Go.Proofs.Ytekkdoaakilafaa
namespace Go.Proofs.Ytekkdoaakilafaa
open Go Av
set_option maxRecDepth 20000
set_option maxHeartbeats 16000000 in
theorem tq_r1u {Q : Exit → Slots → Mem → Prop} (l d e T : Int) (X : List Int) (who : Int) (t1 : l ≤ T) (t2 : T ≤ 262144) (h300 : ¬ 300 < T) (l1 : 2 ≤ l) (he0 : ¬ e = 0) (hvT : ∀ p h : Int, T / 2 ≤ p ∧ p < T → 0 ≤ h ∧ h ≤ 1048576 → vE l d e ⟨T, 0, p, h⟩ = 0) (hcT : ∀ p h s : Int, T / 2 ≤ p ∧ p < T → 0 ≤ h ∧ h ≤ 1048576 → 0 ≤ s ∧ s ≤ 1073741824 → cE l d e ⟨T, 0, p, h⟩ s = 0) (n i : Nat) (n6 : ¬ 6 < n) (hn : X.length = n) (Q0 : List (Int × Int)) (g2 : Q0.length = i) (hi : i < n) (x : Int) (hx : X[i]? = some x) (hxr : 0 ≤ x ∧ x ≤ 4294967295) (r p : Int) (hr : x % (T - T / 2) = r) (hp : T / 2 + r = p) (hpb : T / 2 ≤ p ∧ p < T) (hin : ∃ q ∈ Q0, q.1 = p) (hR : ∀ σ m, PostP Try.prog Try.f9.results.toList (.bool true) .ret σ m → Q .ret σ m) : AW Try.prog Try.f9.ntmps 1 (loopAt Try.f9 0) (ThenA (fun σ1 m1 => ∃ y : Pg1, Fits 1 ([(1, .slice (some ⟨0, 0, none⟩) n n), (2, .int .u8 who), (3, .pointer (some ⟨2, 0, none⟩)), (7, .int .i64 T), (8, .slice (some ⟨1, 0, none⟩) y.i y.i), (9, .map (some 3)), (56, .slice (some ⟨0, 0, none⟩) n n), (57, .int .i64 n), (58, .int .i64 y.i)]) ([some ⟨List.map (Value.int .u32) X, false, 1⟩, some ⟨y.Q.flatMap (rmF T), true, 4⟩, some ⟨[.int .i64 l, .int .i64 d, .int .i64 e], true, 1⟩, some ⟨y.Q.flatMap mpF, true, mapZ⟩]) σ1 m1 ∧ (y.i ≤ n ∧ y.Q.length = y.i ∧ Init T y.Q) ∧ n - y.i < n - i) Q) ([(1, .slice (some ⟨0, 0, none⟩) n n), (2, .int .u8 who), (3, .pointer (some ⟨2, 0, none⟩)), (7, .int .i64 T), (8, .slice (some ⟨1, 0, none⟩) i i), (9, .map (some 3)), (56, .slice (some ⟨0, 0, none⟩) n n), (57, .int .i64 n), (58, .int .i64 i)]) ([some ⟨List.map (Value.int .u32) X, false, 1⟩, some ⟨Q0.flatMap (rmF T), true, 4⟩, some ⟨[.int .i64 l, .int .i64 d, .int .i64 e], true, 1⟩, some ⟨Q0.flatMap mpF, true, mapZ⟩]) := by
  have HV := ac_valid0 l d e T 0 p 0 (hvT p 0 hpb (by decide))
  have hat := mp_at hin
  clear hcT hvT hin
  repeat' first | intro h1 | intro h1 | refine st (h := ok_not_dec2 rfl) ?_ | refine sd (h := ok_not_dec2 rfl) ?_ | refine st (h := ok_load_mapE (f := Value.int .u32) i hx rfl rfl rfl (by omega)) ?_ | refine sdl (h := ok_load_mapE (f := Value.int .u32) i hx rfl rfl rfl (by omega)) ?_ | refine sd (h := ok_load_mapE (f := Value.int .u32) i hx rfl rfl rfl (by omega)) ?_ | refine st (v := .int .i64 r) (h := by (rw [← hr]; exact ok_rem_pos rfl rfl (by omega))) ?_ | refine st (v := .int .i64 p) (h := by (rw [← hp]; apply ok_add64; rfl; rfl; omega)) ?_ | refine st (v := .bool true) (h := ok_lookup rfl rfl rfl rfl hat) ?_ | refine st ?_ | refine st_call (HV) ?_ | refine sd_call (HV) ?_ | refine hR _ _ ?_ | refine stm ?_ | refine Ja ?_ | refine Jb ?_ | refine Jc ?_ | refine Jd ?_ | refine Je ?_ | refine Jf ?_ | refine Jg ?_ | refine Jh ?_ ?_ | refine Ji ?_ ?_ | refine Jj ?_ ?_ | refine run_nil ?_ | refine sd ?_ | refine sdl ?_ | refine sdm (n := 1) ?_ | refine sdm ?_ | refine sdb ?_ | refine Jk ?_ | refine Jl ?_ | refine Jm ?_ | refine Jn ?_ ?_ | refine Jo ?_ ?_ | refine Jp ?_ ?_ | refine rund_nil ?_ | refine Jz ?_ | refine Jw ?_ | refine Jx (id := 22) [0,0,0,6,14,0,63,127,255,255,255,0,2559,7167,16383] 12 ?_ | refine Jx (id := 30) [0,0,0,0,0,24,56,0,252,508,1020,1020,2047,6143,16383] 13 ?_ | refine Jx (id := 41) [0,0,0,6,14,0,32,0,128,384,1023,2047,4095,4095,0,24575,65535] 15 ?_ | refine Jx (id := 44) [0,0,3,7,15,0,32,127] 8 ?_ | refine Jx (id := 45) [0,0,0,6,14,31,63] 7 ?_ | refine aw_block ?_ | refine Jq ?_ | refine Jr ?_ | refine Js ?_ | refine Jt ?_ | refine Ju ?_ ?_ | refine Jv ?_ ?_ | refine Jy ?_ | refine aw_exit ?_ | refine aw_ret ?_ | refine pp_ret ?_ | refine pp_normal ?_
  all_goals first | rfl | (exfalso; omega) | (refine congrArg Value.bool ?_; first | exact decide_eq_true (by omega) | exact decide_eq_false (by omega) | exact (decide_eq_true (by omega)).symm | exact (decide_eq_false (by omega)).symm) | (show Value.bool _ = Value.bool _; congr 1; first | exact decide_eq_true (by omega) | exact decide_eq_false (by omega) | exact (decide_eq_true (by omega)).symm | exact (decide_eq_false (by omega)).symm) | (simp [retOf]; done)
set_option maxHeartbeats 32000000 in
theorem law_tquiet (l d e : Int) (X : List Int) (hX : ∀ x ∈ X, 0 ≤ x ∧ x ≤ 4294967295) (who : Int) (hwho : 0 ≤ who ∧ who ≤ 255) : ACalls Try.prog 9 [.agg #[.int .i64 l, .int .i64 d, .int .i64 e], .slice (some ⟨0, 0, none⟩) X.length X.length, .int .u8 who] [some ⟨List.map (Value.int .u32) X, false, 1⟩] (.bool true) [none] := by
  obtain ⟨n, hn⟩ : ∃ n, X.length = n := ⟨_, rfl⟩
  rw [hn]
  obtain ⟨g0, hg0⟩ : ∃ x, gE l d e = x := ⟨_, rfl⟩
  have HC := ac_gcheck l d e g0 hg0
  have HW := ac_works
  by_cases n0 : n = 0
  · subst n0
    clear hX
    refine acalls_law Try.func9 rfl rfl rfl ?_
    repeat' first | intro h1 | intro h1 | refine st (h := ok_not_dec2 rfl) ?_ | refine sd (h := ok_not_dec2 rfl) ?_ | refine st ?_ | refine st_call (HC) ?_ | refine st_call (HW) ?_ | refine st_call (HT) ?_ | refine sd_call (HC) ?_ | refine sd_call (HW) ?_ | refine sd_call (HT) ?_ | refine stm ?_ | refine Ja ?_ | refine Jb ?_ | refine Jc ?_ | refine Jd ?_ | refine Je ?_ | refine Jf ?_ | refine Jg ?_ | refine Jh ?_ ?_ | refine Ji ?_ ?_ | refine Jj ?_ ?_ | refine run_nil ?_ | refine sd ?_ | refine sdl ?_ | refine sdm (n := 1) ?_ | refine sdm ?_ | refine sdb ?_ | refine Jk ?_ | refine Jl ?_ | refine Jm ?_ | refine Jn ?_ ?_ | refine Jo ?_ ?_ | refine Jp ?_ ?_ | refine rund_nil ?_ | refine Jz ?_ | refine Jw ?_ | refine Jx (id := 22) [0,0,0,6,14,0,63,127,255,255,255,0,2559,7167,16383] 12 ?_ | refine Jx (id := 30) [0,0,0,0,0,24,56,0,252,508,1020,1020,2047,6143,16383] 13 ?_ | refine Jx (id := 41) [0,0,0,6,14,0,32,0,128,384,1023,2047,4095,4095,0,24575,65535] 15 ?_ | refine Jx (id := 44) [0,0,3,7,15,0,32,127] 8 ?_ | refine Jx (id := 45) [0,0,0,6,14,31,63] 7 ?_ | refine aw_block ?_ | refine Jq ?_ | refine Jr ?_ | refine Js ?_ | refine Jt ?_ | refine Ju ?_ ?_ | refine Jv ?_ ?_ | refine Jy ?_ | refine aw_exit ?_ | refine aw_ret ?_ | refine pp_ret ?_ | refine pp_normal ?_
    all_goals first | rfl | (exfalso; omega) | (simp [retOf]; done) | (exfalso; simp_all; done)
  by_cases n6 : 6 < n
  · clear hX
    refine acalls_law Try.func9 rfl rfl rfl ?_
    repeat' first | intro h1 | intro h1 | refine st (h := ok_not_dec2 rfl) ?_ | refine sd (h := ok_not_dec2 rfl) ?_ | refine st ?_ | refine st_call (HC) ?_ | refine st_call (HW) ?_ | refine st_call (HT) ?_ | refine sd_call (HC) ?_ | refine sd_call (HW) ?_ | refine sd_call (HT) ?_ | refine stm ?_ | refine Ja ?_ | refine Jb ?_ | refine Jc ?_ | refine Jd ?_ | refine Je ?_ | refine Jf ?_ | refine Jg ?_ | refine Jh ?_ ?_ | refine Ji ?_ ?_ | refine Jj ?_ ?_ | refine run_nil ?_ | refine sd ?_ | refine sdl ?_ | refine sdm (n := 1) ?_ | refine sdm ?_ | refine sdb ?_ | refine Jk ?_ | refine Jl ?_ | refine Jm ?_ | refine Jn ?_ ?_ | refine Jo ?_ ?_ | refine Jp ?_ ?_ | refine rund_nil ?_ | refine Jz ?_ | refine Jw ?_ | refine Jx (id := 22) [0,0,0,6,14,0,63,127,255,255,255,0,2559,7167,16383] 12 ?_ | refine Jx (id := 30) [0,0,0,0,0,24,56,0,252,508,1020,1020,2047,6143,16383] 13 ?_ | refine Jx (id := 41) [0,0,0,6,14,0,32,0,128,384,1023,2047,4095,4095,0,24575,65535] 15 ?_ | refine Jx (id := 44) [0,0,3,7,15,0,32,127] 8 ?_ | refine Jx (id := 45) [0,0,0,6,14,31,63] 7 ?_ | refine aw_block ?_ | refine Jq ?_ | refine Jr ?_ | refine Js ?_ | refine Jt ?_ | refine Ju ?_ ?_ | refine Jv ?_ ?_ | refine Jy ?_ | refine aw_exit ?_ | refine aw_ret ?_ | refine pp_ret ?_ | refine pp_normal ?_
    all_goals first | rfl | (exfalso; omega) | (simp [retOf]; done) | (exfalso; simp_all; done)
  by_cases hg1 : g0 = 0
  case neg =>
    clear hX
    refine acalls_law Try.func9 rfl rfl rfl ?_
    repeat' first | intro h1 | intro h1 | refine st (h := ok_not_dec2 rfl) ?_ | refine sd (h := ok_not_dec2 rfl) ?_ | refine st ?_ | refine st_call (HC) ?_ | refine st_call (HW) ?_ | refine st_call (HT) ?_ | refine sd_call (HC) ?_ | refine sd_call (HW) ?_ | refine sd_call (HT) ?_ | refine stm ?_ | refine Ja ?_ | refine Jb ?_ | refine Jc ?_ | refine Jd ?_ | refine Je ?_ | refine Jf ?_ | refine Jg ?_ | refine Jh ?_ ?_ | refine Ji ?_ ?_ | refine Jj ?_ ?_ | refine run_nil ?_ | refine sd ?_ | refine sdl ?_ | refine sdm (n := 1) ?_ | refine sdm ?_ | refine sdb ?_ | refine Jk ?_ | refine Jl ?_ | refine Jm ?_ | refine Jn ?_ ?_ | refine Jo ?_ ?_ | refine Jp ?_ ?_ | refine rund_nil ?_ | refine Jz ?_ | refine Jw ?_ | refine Jx (id := 22) [0,0,0,6,14,0,63,127,255,255,255,0,2559,7167,16383] 12 ?_ | refine Jx (id := 30) [0,0,0,0,0,24,56,0,252,508,1020,1020,2047,6143,16383] 13 ?_ | refine Jx (id := 41) [0,0,0,6,14,0,32,0,128,384,1023,2047,4095,4095,0,24575,65535] 15 ?_ | refine Jx (id := 44) [0,0,3,7,15,0,32,127] 8 ?_ | refine Jx (id := 45) [0,0,0,6,14,31,63] 7 ?_ | refine aw_block ?_ | refine Jq ?_ | refine Jr ?_ | refine Js ?_ | refine Jt ?_ | refine Ju ?_ ?_ | refine Jv ?_ ?_ | refine Jy ?_ | refine aw_exit ?_ | refine aw_ret ?_ | refine pp_ret ?_ | refine pp_normal ?_
    all_goals first | rfl | (exfalso; omega) | (simp [retOf]; done) | (exfalso; simp_all; done)
  subst hg1
  have hg : gok l d e = true := by
    cases hg : gok l d e with
    | true => rfl
    | false => simp [gE, hg] at hg0
  clear hg0
  obtain ⟨l1, l2, d1, d2, e1, e2⟩ := gok_t hg
  obtain ⟨t1, t2, t3⟩ := topT_bd hg
  have HT := ac_Great l d e hg
  have hvT := fun p h => vE_T (p := p) (h := h) hg
  have hcT := fun p h s => cE_T (p := p) (h := h) (s := s) hg
  obtain ⟨T, hT⟩ : ∃ T, top l d = T := ⟨_, rfl⟩
  rw [hT] at t1 t2 t3 HT hvT hcT
  by_cases h300 : 300 < T
  · clear hX
    refine acalls_law Try.func9 rfl rfl rfl ?_
    repeat' first | intro h1 | intro h1 | refine st (h := ok_not_dec2 rfl) ?_ | refine sd (h := ok_not_dec2 rfl) ?_ | refine st ?_ | refine st_call (HC) ?_ | refine st_call (HW) ?_ | refine st_call (HT) ?_ | refine sd_call (HC) ?_ | refine sd_call (HW) ?_ | refine sd_call (HT) ?_ | refine stm ?_ | refine Ja ?_ | refine Jb ?_ | refine Jc ?_ | refine Jd ?_ | refine Je ?_ | refine Jf ?_ | refine Jg ?_ | refine Jh ?_ ?_ | refine Ji ?_ ?_ | refine Jj ?_ ?_ | refine run_nil ?_ | refine sd ?_ | refine sdl ?_ | refine sdm (n := 1) ?_ | refine sdm ?_ | refine sdb ?_ | refine Jk ?_ | refine Jl ?_ | refine Jm ?_ | refine Jn ?_ ?_ | refine Jo ?_ ?_ | refine Jp ?_ ?_ | refine rund_nil ?_ | refine Jz ?_ | refine Jw ?_ | refine Jx (id := 22) [0,0,0,6,14,0,63,127,255,255,255,0,2559,7167,16383] 12 ?_ | refine Jx (id := 30) [0,0,0,0,0,24,56,0,252,508,1020,1020,2047,6143,16383] 13 ?_ | refine Jx (id := 41) [0,0,0,6,14,0,32,0,128,384,1023,2047,4095,4095,0,24575,65535] 15 ?_ | refine Jx (id := 44) [0,0,3,7,15,0,32,127] 8 ?_ | refine Jx (id := 45) [0,0,0,6,14,31,63] 7 ?_ | refine aw_block ?_ | refine Jq ?_ | refine Jr ?_ | refine Js ?_ | refine Jt ?_ | refine Ju ?_ ?_ | refine Jv ?_ ?_ | refine Jy ?_ | refine aw_exit ?_ | refine aw_ret ?_ | refine pp_ret ?_ | refine pp_normal ?_
    all_goals first | rfl | (exfalso; omega) | (simp [retOf]; done) | (exfalso; simp_all; done)
  by_cases he0 : e = 0
  · subst he0
    clear hX
    refine acalls_law Try.func9 rfl rfl rfl ?_
    repeat' first | intro h1 | intro h1 | refine st (h := ok_not_dec2 rfl) ?_ | refine sd (h := ok_not_dec2 rfl) ?_ | refine st ?_ | refine st_call (HC) ?_ | refine st_call (HW) ?_ | refine st_call (HT) ?_ | refine sd_call (HC) ?_ | refine sd_call (HW) ?_ | refine sd_call (HT) ?_ | refine stm ?_ | refine Ja ?_ | refine Jb ?_ | refine Jc ?_ | refine Jd ?_ | refine Je ?_ | refine Jf ?_ | refine Jg ?_ | refine Jh ?_ ?_ | refine Ji ?_ ?_ | refine Jj ?_ ?_ | refine run_nil ?_ | refine sd ?_ | refine sdl ?_ | refine sdm (n := 1) ?_ | refine sdm ?_ | refine sdb ?_ | refine Jk ?_ | refine Jl ?_ | refine Jm ?_ | refine Jn ?_ ?_ | refine Jo ?_ ?_ | refine Jp ?_ ?_ | refine rund_nil ?_ | refine Jz ?_ | refine Jw ?_ | refine Jx (id := 22) [0,0,0,6,14,0,63,127,255,255,255,0,2559,7167,16383] 12 ?_ | refine Jx (id := 30) [0,0,0,0,0,24,56,0,252,508,1020,1020,2047,6143,16383] 13 ?_ | refine Jx (id := 41) [0,0,0,6,14,0,32,0,128,384,1023,2047,4095,4095,0,24575,65535] 15 ?_ | refine Jx (id := 44) [0,0,3,7,15,0,32,127] 8 ?_ | refine Jx (id := 45) [0,0,0,6,14,31,63] 7 ?_ | refine aw_block ?_ | refine Jq ?_ | refine Jr ?_ | refine Js ?_ | refine Jt ?_ | refine Ju ?_ ?_ | refine Jv ?_ ?_ | refine Jy ?_ | refine aw_exit ?_ | refine aw_ret ?_ | refine pp_ret ?_ | refine pp_normal ?_
    all_goals first | rfl | (exfalso; omega) | (simp [retOf]; done) | (exfalso; simp_all; done)
  refine acalls_law Try.func9 rfl rfl rfl ?_
  refine aw_ghost 4 rfl ?_
  repeat' first | intro h1 | intro h1 | refine st (h := ok_not_dec2 rfl) ?_ | refine sd (h := ok_not_dec2 rfl) ?_ | refine st ?_ | refine st_call (HC) ?_ | refine st_call (HW) ?_ | refine st_call (HT) ?_ | refine sd_call (HC) ?_ | refine sd_call (HW) ?_ | refine sd_call (HT) ?_ | refine stm (h := ok_makeMap (by (repeat constructor))) ?_ | refine stm ?_ | refine Ja ?_ | refine Jb ?_ | refine Jc ?_ | refine Jd ?_ | refine Je ?_ | refine Jf ?_ | refine Jg ?_ | refine Jh ?_ ?_ | refine Ji ?_ ?_ | refine Jj ?_ ?_ | refine run_nil ?_ | refine sd ?_ | refine sdl ?_ | refine sdm (n := 1) ?_ | refine sdm ?_ | refine sdb ?_ | refine Jk ?_ | refine Jl ?_ | refine Jm ?_ | refine Jn ?_ ?_ | refine Jo ?_ ?_ | refine Jp ?_ ?_ | refine rund_nil ?_ | refine Jz ?_ | refine Jw ?_ | refine Jx (id := 22) [0,0,0,6,14,0,63,127,255,255,255,0,2559,7167,16383] 12 ?_ | refine Jx (id := 30) [0,0,0,0,0,24,56,0,252,508,1020,1020,2047,6143,16383] 13 ?_ | refine Jx (id := 41) [0,0,0,6,14,0,32,0,128,384,1023,2047,4095,4095,0,24575,65535] 15 ?_ | refine Jx (id := 44) [0,0,3,7,15,0,32,127] 8 ?_ | refine Jx (id := 45) [0,0,0,6,14,31,63] 7 ?_ | refine aw_block ?_ | refine Jq ?_ | refine Jr ?_ | refine Js ?_ | refine Jt ?_ | refine Ju ?_ ?_ | refine Jv ?_ ?_ | refine Jy ?_ | refine aw_exit ?_ | refine aw_ret ?_ | refine pp_ret ?_ | refine pp_normal ?_
  all_goals try (exfalso; omega)
  clear HC HT
  refine aw_loopg
    (S := fun y : Pg1 => [(1, .slice (some ⟨0, 0, none⟩) n n), (2, .int .u8 who), (3, .pointer (some ⟨2, 0, none⟩)), (7, .int .i64 T), (8, .slice (some ⟨1, 0, none⟩) y.i y.i), (9, .map (some 3)), (56, .slice (some ⟨0, 0, none⟩) n n), (57, .int .i64 n), (58, .int .i64 y.i)])
    (B := fun y : Pg1 => [some ⟨List.map (Value.int .u32) X, false, 1⟩, some ⟨y.Q.flatMap (rmF T), true, 4⟩, some ⟨[.int .i64 l, .int .i64 d, .int .i64 e], true, 1⟩, some ⟨y.Q.flatMap mpF, true, mapZ⟩])
    (R := fun y : Pg1 => y.i ≤ n ∧ y.Q.length = y.i ∧ Init T y.Q)
    (μ := fun y : Pg1 => n - y.i) ⟨0, []⟩ (fitsD [0, 1, 2, 3]) ⟨Nat.zero_le _, rfl, Init.nil T⟩ ?_
  rintro ⟨i, Q⟩ ⟨g1, g2, g3⟩
  dsimp only at g1 g2 g3 ⊢
  by_cases hi : i < n
  · obtain ⟨x, hx⟩ : ∃ x, X[i]? = some x := ⟨_, List.getElem?_eq_getElem (by omega)⟩
    have hxr := hX x (List.mem_of_getElem? hx)
    have hmd := md_bd T x (by omega) t2
    obtain ⟨r, hr⟩ : ∃ r, x % (T - T / 2) = r := ⟨_, rfl⟩
    rw [hr] at hmd
    obtain ⟨p, hp⟩ : ∃ p, T / 2 + r = p := ⟨_, rfl⟩
    have hpb : T / 2 ≤ p ∧ p < T := by omega
    have HV := ac_valid0 l d e T 0 p 0 (hvT p 0 hpb (by decide))
    by_cases hin : ∃ q ∈ Q, q.1 = p
    · exact tq_r1u l d e T X who t1 t2 h300 l1 he0 hvT hcT n i n6 hn Q g2 hi x hx hxr r p hr hp hpb hin (fun σ m h => h)
    · have hno : ∀ q ∈ Q, q.1 ≠ p := fun q hq h => hin ⟨q, hq, h⟩
      exact tq_r1 l d e T X who t1 t2 h300 l1 he0 hvT hcT n i n6 hn Q g2 g3 hi x hx hxr r p hr hp hpb hno
  · obtain rfl : i = n := by omega
    have hM := tq_mid l d e T X who t1 t2 h300 l1 he0 hvT hcT i i rfl (by omega) (by omega) hn hX hwho Q g2 g3 e1 e2 hg d1
    clear hvT hcT hX g3
    repeat' first | intro h1 | intro h1 | refine st (h := ok_not_dec2 rfl) ?_ | refine sd (h := ok_not_dec2 rfl) ?_ | exact aw_fits (fitsD [0, 1, 2, 3]) hM | refine st ?_ | refine stm ?_ | refine Ja ?_ | refine Jb ?_ | refine Jc ?_ | refine Jd ?_ | refine Je ?_ | refine Jf ?_ | refine Jg ?_ | refine Jh ?_ ?_ | refine Ji ?_ ?_ | refine Jj ?_ ?_ | refine run_nil ?_ | refine sd ?_ | refine sdl ?_ | refine sdm (n := 1) ?_ | refine sdm ?_ | refine sdb ?_ | refine Jk ?_ | refine Jl ?_ | refine Jm ?_ | refine Jn ?_ ?_ | refine Jo ?_ ?_ | refine Jp ?_ ?_ | refine rund_nil ?_ | refine Jz ?_ | refine Jw ?_ | refine Jx (id := 22) [0,0,0,6,14,0,63,127,255,255,255,0,2559,7167,16383] 12 ?_ | refine Jx (id := 30) [0,0,0,0,0,24,56,0,252,508,1020,1020,2047,6143,16383] 13 ?_ | refine Jx (id := 41) [0,0,0,6,14,0,32,0,128,384,1023,2047,4095,4095,0,24575,65535] 15 ?_ | refine Jx (id := 44) [0,0,3,7,15,0,32,127] 8 ?_ | refine Jx (id := 45) [0,0,0,6,14,31,63] 7 ?_ | refine aw_block ?_ | refine Jq ?_ | refine Jr ?_ | refine Js ?_ | refine Jt ?_ | refine Ju ?_ ?_ | refine Jv ?_ ?_ | refine Jy ?_ | refine aw_exit ?_ | refine aw_ret ?_ | refine pp_ret ?_ | refine pp_normal ?_
end Go.Proofs.Ytekkdoaakilafaa
namespace Go.Proofs.Ytekkdoaakilafaa
open Go Av
set_option maxRecDepth 20000
open Go.ChangeShapes Go.WideShapes Go.ChangeAt Go.RowKit
namespace topQuietWhenAgreed
theorem own : ownKnob Try.prog.godebug = none := by kernel_rfl
set_option maxRecDepth 100000 in
theorem lifted (os : Os) (started : os.Started) (H : Type) (enc : TypeId × Value → H) :
    ReturnsInHanded {} Try.checked os 9 .any (Rows.topQuietWhenAgreedSpec.pre6 enc Try.prog Try.f9 Rows.topQuietWhenAgreedRow.domain false) (Rows.topQuietWhenAgreedSpec.post enc Try.prog Try.f9 false true false false) := by
  refine returnsInHanded_of_change_sized (C := Try.checked) own started (by kernel_rfl) Try.func9
    (ChangeSpec.witness6 (enc := enc) (C := Try.checked) false ⟨#[], #[.agg #[.int .i64 0, .int .i64 0, .int .i64 0], .slice none 0 0, .int .u8 0], []⟩ 8 (by kernel_rfl) (by kernel_rfl) (by kernel_rfl) (by kernel_rfl)) ?_
  intro W base args ds gs before hval0 hW _ hsz _
  obtain ⟨p, q, hA0, hV, hbf, hfz, hnd⟩ := id hW
  have hA : DataW.TrodAll enc Try.prog W 0 (fun _ => true) true [63, 64, 5] args.toList ds p := hA0
  obtain ⟨a, hR, ls, hl, hv, hc⟩ := RdA.rd (P := Try.prog) hA fun j t v h1 h2 => hval0 j t v (by rw [← Array.getElem?_toList]; exact h1) (by rw [← Array.getElem?_toList]; exact h2)
  have hcall := calls_rd0 (P := Try.prog) (f := 9) (r := .bool true) (W := W) (by
    have e1 : IntKind.u32.min = 0 := rfl
    have e2 : IntKind.u32.max = 4294967295 := rfl
    have e3 : IntKind.u8.min = 0 := rfl
    have e4 : IntKind.u8.max = 255 := rfl
    have h := hR.2.1
    have h3 := hR.2.2.1
    rw [e1, e2] at h
    rw [e3, e4] at h3
    have h := law_tquiet a.1.1 a.1.2.1 a.1.2.2.1 a.2.1 h a.2.2.1 h3
    rw [← flat_u32] at h
    exact ⟨_, h⟩) rfl hl (hv 0) hc
  obtain ⟨v0, vs0, d0, ds0, p0, q0, x0, rfl, y0, h0, r0⟩ := trodAll_cons hA
  obtain ⟨v1, vs1, d1, ds1, p1, q1, x1, rfl, y1, h1, r1⟩ := trodAll_cons r0
  obtain ⟨v2, vs2, d2, ds2, p2, q2, x2, rfl, y2, h2, r2⟩ := trodAll_cons r1
  obtain ⟨_, rfl, _⟩ := trodAll_nil r2
  exact hcall.mono fun e W' ⟨he, hb⟩ => ⟨_, he, law_post (tb := 4) (by kernel_rfl) (by kernel_rfl) rfl Try.underlying4 rfl rfl rfl rfl hW hb⟩
theorem over : Rows.topQuietWhenAgreedRow.holds Try.pinned (OpenSpec.ofChange Rows.topQuietWhenAgreedSpec) :=
  OpenClaim.holds_of_wide 9 Try.f9 rfl rfl rfl rfl rfl rfl rfl ⟨rfl, rfl, rfl, rfl, rfl⟩ rfl rfl rfl rfl rfl (by kernel_rfl) Try.func9 (by kernel_rfl)
    (of_decide_eq_true (by kernel_rfl)) (by unfold Func.isWrapper; first | (rw [if_pos (by decide +kernel)]; kernel_rfl) | (rw [if_neg (by decide +kernel)]; exact ⟨rfl, rfl⟩))
    (fun os started H enc _ => lifted os started H enc)
theorem proved : Rows.TopQuietWhenAgreedSaid := over
#print axioms proved
end topQuietWhenAgreed
end Go.Proofs.Ytekkdoaakilafaa
