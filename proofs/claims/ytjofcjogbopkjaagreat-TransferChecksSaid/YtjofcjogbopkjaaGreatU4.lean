/- Transfer: stores with a manifest. Transfer: stores checked, complete stores. -/
import Derived.Test.YtjofcjogbopkjaaGreatVL
import Derived.Test.YtjofcjogbopkjaaGreatU2
set_option linter.unusedVariables false
set_option linter.unusedSimpArgs false
namespace Go.Proofs.YtjofcjogbopkjaaGreat
open Go Av
set_option maxRecDepth 20000
/-- Whole pages of data. -/
theorem dn_fc {v ms mg mq : Int} {L : List ByteArray} {n ds : Nat} (hn : L.length = n) (hc : chkM v ms mg mq L = 0) (hd : dnB ms mg ds = true) : ∃ k : Nat, dnN ms mg n ds = k ∧ k ≤ n ∧ (∀ i : Nat, i < k → 0 ≤ (i : Int) * mg ∧ (i : Int) * mg < ds ∧ ((i : Int) + 1) * mg = i * mg + mg) ∧ (k < n → (ds : Int) = k * mg) ∧ 1 ≤ mg ∧ mg ≤ 4096 ∧ (ds : Int) ≤ ms ∧ ms ≤ 65536 ∧ n ≤ 64 ∧ ((k = n) ↔ (ds : Int) = ms) := by
  obtain ⟨q1, q2, q3, q4, q5⟩ := chk_ok hc
  have hbd := siz_bd q1
  rw [hn] at q4 q3
  have hp := fun i : Int => parts_lt (sz := ms) (i := i) (by omega : 1 ≤ mg)
  have h := of_decide_eq_true hd
  have hm : ∀ i : Nat, 0 ≤ (i : Int) * mg ∧ ((i : Int) + 1) * mg = i * mg + mg := fun i => ⟨Int.mul_nonneg (by omega) (by omega), by rw [Int.add_mul, Int.one_mul]⟩
  unfold dnN
  by_cases he : (ds : Int) = ms
  · rw [if_pos he]
    refine ⟨n, rfl, Nat.le_refl _, fun i hi => ⟨(hm i).1, ?_, (hm i).2⟩, fun h => absurd h (by omega), by omega, by omega, by omega, by omega, by omega, ⟨fun _ => he, fun _ => rfl⟩⟩
    have := (hp i).1 (by omega)
    omega
  · rw [if_neg he]
    obtain ⟨h1, h2⟩ : (ds : Int) < ms ∧ (ds : Int) % mg = 0 := by omega
    have hq0 : 0 ≤ (ds : Int) / mg := Int.ediv_nonneg (by omega) (by omega)
    obtain ⟨k, hk⟩ : ∃ k : Nat, (ds : Int) / mg = k := ⟨((ds : Int) / mg).toNat, by omega⟩
    have hkm : (ds : Int) = k * mg := by
      have := Int.mul_ediv_add_emod (ds : Int) mg
      rw [h2, hk, Int.mul_comm] at this
      omega
    have hkn : (k : Int) < n := by rw [q4]; exact (hp k).2 (by omega)
    refine ⟨k, hk, by omega, fun i hi => ⟨(hm i).1, ?_, (hm i).2⟩, fun _ => hkm, by omega, by omega, by omega, by omega, by omega, ⟨fun h => absurd h (by omega), fun h => absurd h he⟩⟩
    rw [hkm]
    exact Int.mul_lt_mul_of_pos_right (by omega) (by omega)
theorem pgsB_step {v ms mg : Int} {L : List ByteArray} {data : ByteArray} {k i : Nat} (h : pgsB v ms mg L data i = true) (h2 : vfE v ms mg 0 i L (pgS data mg i) = 0) : pgsB v ms mg L data (i + 1) = true := decide_eq_true fun j hj => by
  rcases Nat.lt_or_ge j i with h3 | h3
  · exact of_decide_eq_true h j h3
  · obtain rfl : j = i := by omega
    exact h2
set_option maxHeartbeats 8000000 in
theorem ac_known (s : Sto) (n p : Nat) (hn : s.L.length = n) (hp : s.P.length = p) (hb : n ≤ 1000000 ∧ p ≤ 1000000) (hbits : s.bits < 18446744073709551616) (hd : s.data.size ≤ 1000000) (x : Bool) (hx : knB s = x) : ACalls Tryz.prog 58 [.agg #[.int .i64 s.ver, .string s.id, .bool s.kn, .int .i64 s.mv, .int .i64 s.ms, .int .i64 s.mg, .int .i64 s.mq, .slice (some ⟨0, 0, none⟩) n n, .string s.data, .int .u64 s.bits, .slice (some ⟨1, 0, none⟩) p p]] [some ⟨List.map Value.string s.L, false, 1⟩, some ⟨List.map Value.string s.P, false, 1⟩] (.bool x) [none, none] := by
  obtain ⟨o, ho⟩ : ∃ o, opnB s.ms s.mg s.mq (dnN s.ms s.mg s.L.length s.data.size) s.bits s.P = o := ⟨_, rfl⟩
  have HO : ∀ i : Nat, chkM s.mv s.ms s.mg s.mq s.L = 0 → i < n → dnN s.ms s.mg s.L.length s.data.size = i → ACalls Tryz.prog 78 [.agg #[.int .i64 s.ver, .string s.id, .bool s.kn, .int .i64 s.mv, .int .i64 s.ms, .int .i64 s.mg, .int .i64 s.mq, .slice (some ⟨0, 0, none⟩) n n, .string s.data, .int .u64 s.bits, .slice (some ⟨1, 0, none⟩) p p], .int .i64 i] [some ⟨List.map Value.string s.L, false, 1⟩, some ⟨List.map Value.string s.P, false, 1⟩] (.bool o) [none, none] := fun i h1 h2 h3 => ac_open s n p hn hp hb i h1 h2 hbits o (by rw [← ho, h3])
  have HD := fun h y => ac_done s n p hn hp hb h hd _ rfl y
  obtain ⟨ver, id, kn, mv, ms, mg, mq, L, data, bits, P⟩ := s
  dsimp only at *
  unfold knB at hx
  dsimp only at hx
  rw [hn] at ho HO hx
  rw [ho, hp] at hx
  rcases chk_01 mv ms mg mq L with hc | hc
  · obtain ⟨D, hD⟩ : ∃ D, dig 0 (idB (encS mv ms mg mq L)).data.toList = D := ⟨_, rfl⟩
    have H1 := ac_ID mv ms mg mq L n hn (by omega) 0 hc D (by rw [← hD]; exact if_neg (by decide))
    rw [hD, hc] at hx
    by_cases e0 : mv = ver ∧ D = id
    · obtain ⟨rfl, rfl⟩ := e0
      simp only [true_and, and_self, decide_true, Bool.true_and] at hx
      cases hdb : dnB ms mg data.size with
      | false =>
        obtain rfl : x = false := by rw [← hx, hdb]; simp
        have H2 := HD (.inr (by have := chk_ok hc; have := siz_bd this.1; omega)) false hdb
        clear hx HO HD hc hD
        refine acalls_law Tryz.func58 rfl rfl rfl ?_
        repeat' first | refine st (h := ok_str_neqF rfl rfl) ?_ | refine st ?_ | refine stRW [0] H1 ?_ | refine stRW [0, 1] H2 ?_ | refine stm ?_ | refine Ja ?_ | refine Jf ?_ | refine run_nil ?_ | refine Jz ?_ | refine Jw ?_ | refine Jq ?_ | refine Jr ?_ | refine Jy ?_ | refine aw_ret ?_ | refine pp_ret ?_
        all_goals first
          | rfl
          | (exfalso; omega)
          | (exfalso; simp only [Bool.not_eq_true', Bool.not_eq_false', decide_eq_true_eq, decide_eq_false_iff_not, Bool.not_false, Bool.not_true] at *; omega)
          | (exfalso; simp_all; first | done | omega)
      | true =>
        obtain ⟨k, hk, f1, f2, f3, f4, f5, f6, f7, f8, f9⟩ := dn_fc hn hc hdb
        have H2 := HD (.inr f4) true hdb
        rw [hdb, hk, Bool.true_and, Int.toNat_natCast] at hx
        rw [hk] at H2
        have HO := fun h => HO k hc h hk
        refine acalls_law Tryz.func58 rfl rfl rfl ?_
        repeat' first | refine st (h := ok_str_neqF rfl rfl) ?_ | refine st ?_ | refine stRW [0] H1 ?_ | refine stRW [0, 1] H2 ?_ | refine stm ?_ | refine Ja ?_ | refine Jf ?_ | refine run_nil ?_ | refine Jz ?_ | refine Jw ?_ | refine aw_block ?_ | refine Jr ?_ | refine Jy ?_
        all_goals try (exfalso; omega)
        refine aw_loopg
          (S := fun y : Oq => [(1, .pointer (some ⟨2, 0, none⟩)), (3, .pointer (some ⟨3, 0, none⟩)), (6, .int .i64 k), (38, .int .i64 k), (39, .int .i64 y.i)])
          (B := fun _ : Oq => [some ⟨List.map Value.string L, false, 1⟩, some ⟨List.map Value.string P, false, 1⟩, some ⟨[.int .i64 mv, .string D, .bool kn, .int .i64 mv, .int .i64 ms, .int .i64 mg, .int .i64 mq, .slice (some ⟨0, 0, none⟩) n n, .string data, .int .u64 bits, .slice (some ⟨1, 0, none⟩) p p], true, 1⟩, some ⟨[.int .i64 mv, .int .i64 ms, .int .i64 mg, .int .i64 mq, .slice (some ⟨0, 0, none⟩) n n], true, 1⟩])
          (R := fun y : Oq => y.i ≤ k ∧ pgsB mv ms mg L data y.i = true)
          (μ := fun y : Oq => k - y.i) ⟨0⟩ (fitsD [0, 1, 2, 3]) ⟨Nat.zero_le _, decide_eq_true fun j hj => absurd hj (Nat.not_lt_zero _)⟩ ?_
        rintro ⟨i⟩ ⟨g1, g2⟩
        dsimp only at g1 g2 ⊢
        by_cases hi : i < k
        · obtain ⟨m1, m2, m3⟩ := f2 i hi
          have hpe : pgE 0 n i = 0 := by unfold pgE; rw [if_neg (by decide), if_neg (by omega)]
          have hps : (pgS data mg i).size ≤ data.size := by unfold pgS; rw [ByteArray.size_extract]; omega
          obtain ⟨y, hy⟩ : ∃ y, vfE mv ms mg 0 i L (pgS data mg i) = y := ⟨_, rfl⟩
          have H3 := ac_verify mv ms mg mq i L n hn (by omega) (pgS data mg i) (by omega) 0 hc 0 hpe y hy
          by_cases hy0 : y = 0
          · subst hy0
            have hst := pgsB_step (k := k) g2 hy
            clear hx hy g2
            repeat' first | refine sd (h := ok_mul64 rfl rfl (by omega)) ?_ | refine st ?_ | refine sdRW [0] H3 ?_ | refine run_nil ?_ | refine sd ?_ | refine sdl ?_ | refine rund_nil ?_ | refine Jz ?_ | refine Jw ?_ | refine Jx (id := 11) [0,0,0,4,0,0,32,112,0,256,0,1024,3840,0,8192,24576,65280,131068,262143,524287] 20 ?_ | refine aw_block ?_ | refine Jr ?_ | refine Js ?_ | refine Jy ?_
            all_goals first | exact Exists.intro ⟨i + 1⟩ ⟨fitsD [0, 1, 2, 3], ⟨by dsimp only; omega, hst⟩, by dsimp only; omega⟩
          · obtain rfl : x = false := by
              rw [← hx]
              have : pgsB mv ms mg L data k = false := decide_eq_false fun h => hy0 (by rw [← hy]; exact h i hi)
              rw [this]; rfl
            clear hx hy g2
            repeat' first | refine sd (h := ok_mul64 rfl rfl (by omega)) ?_ | refine st ?_ | refine sdRW [0] H3 ?_ | refine run_nil ?_ | refine sd ?_ | refine sdl ?_ | refine rund_nil ?_ | refine Jz ?_ | refine Jw ?_ | refine Jx (id := 11) [0,0,0,4,0,0,32,112,0,256,0,1024,3840,0,8192,24576,65280,131068,262143,524287] 20 ?_ | refine aw_block ?_ | refine Js ?_ | refine Jy ?_ | refine aw_ret ?_ | refine pp_ret ?_
            all_goals first
              | rfl
              | (exfalso; omega)
              | (exfalso; simp only [Bool.not_eq_true', Bool.not_eq_false', decide_eq_true_eq, decide_eq_false_iff_not, Bool.not_false, Bool.not_true] at *; omega)
              | (exfalso; simp_all; first | done | omega)
        · obtain rfl : i = k := by omega
          rw [g2, Bool.true_and] at hx
          by_cases hkn : i = n
          · subst hkn
            rw [if_pos rfl] at hx
            clear HO HD g2
            repeat' first | intro h1 | refine st ?_ | refine Ja ?_ | refine Jb ?_ | refine Jh ?_ ?_ | refine run_nil ?_ | refine Jz ?_ | refine Jw ?_ | refine Js ?_ | refine Jt ?_ | refine aw_exit ?_ | refine aw_ret ?_ | refine pp_ret ?_
            all_goals first
              | rfl
              | (exfalso; omega)
              | (rw [← hx]; refine congrArg Value.bool ?_; first | exact (decide_eq_true (by omega)).symm | exact (decide_eq_false (by omega)).symm | exact decide_eq_decide.2 (by omega))
              | (rw [← hx]; show Value.bool _ = Value.bool _; congr 1; first | exact (decide_eq_true (by omega)).symm | exact (decide_eq_false (by omega)).symm | exact decide_eq_decide.2 (by omega))
              | (exfalso; simp only [Bool.not_eq_true', Bool.not_eq_false', decide_eq_true_eq, decide_eq_false_iff_not, Bool.not_false, Bool.not_true] at *; omega)
              | (simp [retOf]; done)
          · rw [if_neg (by omega)] at hx
            subst hx
            have HO := HO (by omega)
            clear HD g2
            repeat' first | refine st ?_ | refine stRW [0, 1] HO ?_ | refine run_nil ?_ | refine Jz ?_ | refine Jw ?_ | refine Jt ?_ | refine Jy ?_ | refine aw_exit ?_ | refine aw_ret ?_ | refine pp_ret ?_
            all_goals first
              | rfl
              | (exfalso; omega)
              | (exfalso; simp only [Bool.not_eq_true', Bool.not_eq_false', decide_eq_true_eq, decide_eq_false_iff_not, Bool.not_false, Bool.not_true] at *; omega)
              | (exfalso; simp_all; first | done | omega)
    · obtain rfl : x = false := by
        rw [← hx]
        have : decide ((0 : Int) = 0 ∧ mv = ver ∧ D = id) = false := decide_eq_false fun h => e0 h.2
        rw [this]; rfl
      clear hx HO HD
      by_cases e1 : mv = ver
      · have e2 : decide (D = id) = false := decide_eq_false fun h => e0 ⟨e1, h⟩
        refine acalls_law Tryz.func58 rfl rfl rfl ?_
        repeat' first | refine st (h := ok_str_neqD rfl rfl e2) ?_ | refine st ?_ | refine stRW [0] H1 ?_ | refine stm ?_ | refine Ja ?_ | refine Jf ?_ | refine run_nil ?_ | refine Jz ?_ | refine Jw ?_ | refine Jq ?_ | refine aw_ret ?_ | refine pp_ret ?_
        all_goals first
          | rfl
          | (exfalso; omega)
          | (exfalso; simp only [Bool.not_eq_true', Bool.not_eq_false', decide_eq_true_eq, decide_eq_false_iff_not, Bool.not_false, Bool.not_true] at *; omega)
          | (exfalso; simp_all; first | done | omega)
      · obtain ⟨b, e2⟩ : ∃ b, decide (D = id) = b := ⟨_, rfl⟩
        refine acalls_law Tryz.func58 rfl rfl rfl ?_
        repeat' first | intro h1 | refine st (h := ok_str_neqD rfl rfl e2) ?_ | refine st ?_ | refine stRW [0] H1 ?_ | refine stm ?_ | refine Ja ?_ | refine Jb ?_ | refine Ji ?_ ?_ | refine run_nil ?_ | refine Jz ?_ | refine Jw ?_ | refine Jq ?_ | refine Jv ?_ ?_ | refine Jy ?_ | refine aw_ret ?_ | refine pp_ret ?_
        all_goals first
          | rfl
          | (exfalso; omega)
          | (exfalso; simp only [Bool.not_eq_true', Bool.not_eq_false', decide_eq_true_eq, decide_eq_false_iff_not, Bool.not_false, Bool.not_true] at *; omega)
          | (exfalso; simp_all; first | done | omega)
  · obtain rfl : x = false := by
      rw [← hx, hc]
      have : ∀ Q : Prop, [Decidable Q] → decide ((1 : Int) = 0 ∧ Q) = false := fun Q _ => decide_eq_false fun h => by omega
      rw [this]; rfl
    have H1 := ac_ID mv ms mg mq L n hn (by omega) 1 hc ⟨#[]⟩ (if_pos (by decide))
    clear hx HO HD hc
    refine acalls_law Tryz.func58 rfl rfl rfl ?_
    repeat' first | refine st ?_ | refine stRW [0] H1 ?_ | refine stm ?_ | refine Jb ?_ | refine run_nil ?_ | refine Jz ?_ | refine Jw ?_ | refine Jq ?_ | refine aw_ret ?_ | refine pp_ret ?_
    all_goals first
      | rfl
      | (exfalso; omega)
      | (exfalso; simp only [Bool.not_eq_true', Bool.not_eq_false', decide_eq_true_eq, decide_eq_false_iff_not, Bool.not_false, Bool.not_true] at *; omega)
      | (exfalso; simp_all; first | done | omega)
end Go.Proofs.YtjofcjogbopkjaaGreat
namespace Go.Proofs.YtjofcjogbopkjaaGreat
open Go Av
set_option maxRecDepth 20000
set_option maxHeartbeats 8000000 in
theorem ac_check (s : Sto) (n p : Nat) (hn : s.L.length = n) (hp : s.P.length = p) (hb : n ≤ 1000000 ∧ p ≤ 1000000) (hbits : s.bits < 18446744073709551616) (hd : s.data.size ≤ 1000000) (x : Bool) (hx : chS s = x) : ACalls Tryz.prog 27 [.agg #[.int .i64 s.ver, .string s.id, .bool s.kn, .int .i64 s.mv, .int .i64 s.ms, .int .i64 s.mg, .int .i64 s.mq, .slice (some ⟨0, 0, none⟩) n n, .string s.data, .int .u64 s.bits, .slice (some ⟨1, 0, none⟩) p p]] [some ⟨List.map Value.string s.L, false, 1⟩, some ⟨List.map Value.string s.P, false, 1⟩] (.bool x) [none, none] := by
  obtain ⟨z, hz⟩ : ∃ z, zeB s = z := ⟨_, rfl⟩
  obtain ⟨k, hk⟩ : ∃ k, knB s = k := ⟨_, rfl⟩
  have H0 := ac_zero s n p hn hp hb z hz
  have H1 := ac_known s n p hn hp hb hbits hd k hk
  unfold chS at hx
  rw [hz, hk] at hx
  clear hz hk
  obtain ⟨ver, id, kn, mv, ms, mg, mq, L, data, bits, P⟩ := s
  dsimp only at *
  rw [hn, hp] at hx
  obtain ⟨y, hy⟩ : ∃ y, noM mv ms mg mq n = y := ⟨_, rfl⟩
  have H2 := ac_nothing mv ms mg mq L n y hy
  unfold noK at hx
  rw [hy] at hx
  clear hy
  cases z
  · rw [Bool.false_or] at hx
    by_cases hv : 1 ≤ ver ∧ ver ≤ 65535 ∧ id.size = 32
    · rw [decide_eq_true hv, Bool.true_and] at hx
      cases kn
      · rw [if_neg (by decide)] at hx
        obtain ⟨b, hb'⟩ : ∃ b, decide (data = ⟨#[]⟩) = b := ⟨_, rfl⟩
        have hbd : b = true ↔ data.size = 0 := by rw [← hb', decide_eq_true_eq, empty_size]
        clear H1
        cases y
        · obtain rfl : x = false := by rw [← hx]; exact decide_eq_false fun h => absurd h.1 (by decide)
          clear hx hbd
          have hx := rfl (a := false)
          refine acalls_law Tryz.func27 rfl rfl rfl ?_
          repeat' first | refine st ?_ | refine stRW [0, 1] H0 ?_ | refine stRW [0] H2 ?_ | refine stm ?_ | refine Ja ?_ | refine Jb ?_ | refine Jf ?_ | refine run_nil ?_ | refine Jz ?_ | refine Jw ?_ | refine Jq ?_ | refine Jr ?_ | refine Jt ?_ | refine Jy ?_ | refine aw_ret ?_ | refine pp_ret ?_
          all_goals first
            | rfl
            | (exfalso; omega)
            | (rw [← hx]; refine congrArg Value.bool ?_; first | exact (decide_eq_true (by omega)).symm | exact (decide_eq_false (by omega)).symm | exact decide_eq_decide.2 (by omega))
            | (rw [← hx]; show Value.bool _ = Value.bool _; congr 1; first | exact (decide_eq_true (by omega)).symm | exact (decide_eq_false (by omega)).symm | exact decide_eq_decide.2 (by omega))
            | (exfalso; simp only [Bool.not_eq_true', Bool.not_eq_false', decide_eq_true_eq, decide_eq_false_iff_not, Bool.not_false, Bool.not_true] at *; omega)
            | (simp [retOf]; done)
        · simp only [true_and] at hx
          cases b <;> simp only [true_iff, false_iff, Bool.false_eq_true, not_false_eq_true] at hbd
          all_goals refine acalls_law Tryz.func27 rfl rfl rfl ?_
          repeat' first | intro h1 | refine st (h := ok_str_eqlD rfl rfl hb') ?_ | refine st ?_ | refine stRW [0, 1] H0 ?_ | refine stRW [0] H2 ?_ | refine stm ?_ | refine Ja ?_ | refine Jb ?_ | refine Jf ?_ | refine Jh ?_ ?_ | refine run_nil ?_ | refine Jz ?_ | refine Jw ?_ | refine Jq ?_ | refine Jr ?_ | refine Jt ?_ | refine Jy ?_ | refine aw_ret ?_ | refine pp_ret ?_
          all_goals first
            | rfl
            | (exfalso; omega)
            | (rw [← hx]; refine congrArg Value.bool ?_; first | exact (decide_eq_true (by omega)).symm | exact (decide_eq_false (by omega)).symm | exact decide_eq_decide.2 (by omega))
            | (rw [← hx]; show Value.bool _ = Value.bool _; congr 1; first | exact (decide_eq_true (by omega)).symm | exact (decide_eq_false (by omega)).symm | exact decide_eq_decide.2 (by omega))
            | (exfalso; simp only [Bool.not_eq_true', Bool.not_eq_false', decide_eq_true_eq, decide_eq_false_iff_not, Bool.not_false, Bool.not_true] at *; omega)
            | (simp [retOf]; done)
      · rw [if_pos rfl] at hx
        subst hx
        refine acalls_law Tryz.func27 rfl rfl rfl ?_
        repeat' first | refine st ?_ | refine stRW [0, 1] H0 ?_ | refine stRW [0, 1] H1 ?_ | refine stm ?_ | refine Ja ?_ | refine Jf ?_ | refine run_nil ?_ | refine Jz ?_ | refine Jw ?_ | refine Jr ?_ | refine Jt ?_ | refine Jy ?_ | refine aw_ret ?_ | refine pp_ret ?_
        all_goals first
          | rfl
          | (exfalso; omega)
          | (exfalso; simp only [Bool.not_eq_true', Bool.not_eq_false', decide_eq_true_eq, decide_eq_false_iff_not, Bool.not_false, Bool.not_true] at *; omega)
          | (exfalso; simp_all; first | done | omega)
    · rw [decide_eq_false hv, Bool.false_and] at hx
      subst hx
      refine acalls_law Tryz.func27 rfl rfl rfl ?_
      repeat' first | intro h1 | refine st ?_ | refine stRW [0, 1] H0 ?_ | refine stm ?_ | refine Ja ?_ | refine Jb ?_ | refine Ji ?_ ?_ | refine run_nil ?_ | refine Jz ?_ | refine Jw ?_ | refine Jq ?_ | refine Jr ?_ | refine Js ?_ | refine Jy ?_ | refine aw_ret ?_ | refine pp_ret ?_
      all_goals first
        | rfl
        | (exfalso; omega)
        | (exfalso; simp only [Bool.not_eq_true', Bool.not_eq_false', decide_eq_true_eq, decide_eq_false_iff_not, Bool.not_false, Bool.not_true] at *; omega)
        | (exfalso; simp_all; first | done | omega)
  · rw [Bool.true_or] at hx
    subst hx
    refine acalls_law Tryz.func27 rfl rfl rfl ?_
    repeat' first | refine st ?_ | refine stRW [0, 1] H0 ?_ | refine stm ?_ | refine run_nil ?_ | refine Jz ?_ | refine Jw ?_ | refine Jq ?_ | refine aw_ret ?_ | refine pp_ret ?_
    all_goals first
      | rfl
      | (exfalso; omega)
      | (exfalso; simp only [Bool.not_eq_true', Bool.not_eq_false', decide_eq_true_eq, decide_eq_false_iff_not, Bool.not_false, Bool.not_true] at *; omega)
      | (exfalso; simp_all; first | done | omega)
theorem ac_Check (s : Sto) (n p : Nat) (hn : s.L.length = n) (hp : s.P.length = p) (hb : n ≤ 1000000 ∧ p ≤ 1000000) (hbits : s.bits < 18446744073709551616) (hd : s.data.size ≤ 1000000) (x : Bool) (hx : chS s = x) : ACalls Tryz.prog 18 [.agg #[.int .i64 s.ver, .string s.id, .bool s.kn, .int .i64 s.mv, .int .i64 s.ms, .int .i64 s.mg, .int .i64 s.mq, .slice (some ⟨0, 0, none⟩) n n, .string s.data, .int .u64 s.bits, .slice (some ⟨1, 0, none⟩) p p]] [some ⟨List.map Value.string s.L, false, 1⟩, some ⟨List.map Value.string s.P, false, 1⟩] (.int .i64 (if x then 0 else 1)) [none, none] := by
  have H := ac_check s n p hn hp hb hbits hd x hx
  clear hx
  obtain ⟨ver, id, kn, mv, ms, mg, mq, L, data, bits, P⟩ := s
  dsimp only at *
  cases x
  all_goals refine acalls_law Tryz.func18 rfl rfl rfl ?_
  repeat' first | refine st ?_ | refine stRW [0, 1] H ?_ | refine stm ?_ | refine run_nil ?_ | refine Jz ?_ | refine Jw ?_ | refine Jq ?_ | refine Jr ?_ | refine Jy ?_ | refine aw_ret ?_ | refine pp_ret ?_
  all_goals first
    | rfl
    | (exfalso; omega)
    | (exfalso; simp only [Bool.not_eq_true', Bool.not_eq_false', decide_eq_true_eq, decide_eq_false_iff_not, Bool.not_false, Bool.not_true] at *; omega)
    | (exfalso; simp_all; first | done | omega)
theorem ac_complete (s : Sto) (n p : Nat) (hn : s.L.length = n) (hp : s.P.length = p) (hb : n ≤ 1000000 ∧ p ≤ 1000000) (x : Bool) (hx : cpB s = x) : ACalls Tryz.prog 35 [.agg #[.int .i64 s.ver, .string s.id, .bool s.kn, .int .i64 s.mv, .int .i64 s.ms, .int .i64 s.mg, .int .i64 s.mq, .slice (some ⟨0, 0, none⟩) n n, .string s.data, .int .u64 s.bits, .slice (some ⟨1, 0, none⟩) p p]] [some ⟨List.map Value.string s.L, false, 1⟩, some ⟨List.map Value.string s.P, false, 1⟩] (.bool x) [none, none] := by
  unfold cpB at hx
  obtain ⟨ver, id, kn, mv, ms, mg, mq, L, data, bits, P⟩ := s
  dsimp only at *
  cases kn
  · rw [Bool.false_and] at hx
    subst hx
    have hx := rfl (a := false)
    refine acalls_law Tryz.func35 rfl rfl rfl ?_
    repeat' first | refine st ?_ | refine stm ?_ | refine Jb ?_ | refine run_nil ?_ | refine Jz ?_ | refine Jw ?_ | refine aw_ret ?_ | refine pp_ret ?_
    all_goals first
      | rfl
      | (exfalso; omega)
      | (rw [← hx]; refine congrArg Value.bool ?_; first | exact (decide_eq_true (by omega)).symm | exact (decide_eq_false (by omega)).symm | exact decide_eq_decide.2 (by omega))
      | (rw [← hx]; show Value.bool _ = Value.bool _; congr 1; first | exact (decide_eq_true (by omega)).symm | exact (decide_eq_false (by omega)).symm | exact decide_eq_decide.2 (by omega))
      | (exfalso; simp only [Bool.not_eq_true', Bool.not_eq_false', decide_eq_true_eq, decide_eq_false_iff_not, Bool.not_false, Bool.not_true] at *; omega)
      | (simp [retOf]; done)
  · rw [Bool.true_and] at hx
    refine acalls_law Tryz.func35 rfl rfl rfl ?_
    repeat' first | refine st ?_ | refine stm ?_ | refine Ja ?_ | refine run_nil ?_ | refine Jz ?_ | refine Jw ?_ | refine aw_ret ?_ | refine pp_ret ?_
    all_goals first
      | rfl
      | (exfalso; omega)
      | (rw [← hx]; refine congrArg Value.bool ?_; first | exact (decide_eq_true (by omega)).symm | exact (decide_eq_false (by omega)).symm | exact decide_eq_decide.2 (by omega))
      | (rw [← hx]; show Value.bool _ = Value.bool _; congr 1; first | exact (decide_eq_true (by omega)).symm | exact (decide_eq_false (by omega)).symm | exact decide_eq_decide.2 (by omega))
      | (exfalso; simp only [Bool.not_eq_true', Bool.not_eq_false', decide_eq_true_eq, decide_eq_false_iff_not, Bool.not_false, Bool.not_true] at *; omega)
      | (simp [retOf]; done)
theorem ac_Complete (s : Sto) (n p : Nat) (hn : s.L.length = n) (hp : s.P.length = p) (hb : n ≤ 1000000 ∧ p ≤ 1000000) (hbits : s.bits < 18446744073709551616) (hd : s.data.size ≤ 1000000) (x y : Bool) (hx : chS s = x) (hy : cpB s = y) : ACalls Tryz.prog 20 [.agg #[.int .i64 s.ver, .string s.id, .bool s.kn, .int .i64 s.mv, .int .i64 s.ms, .int .i64 s.mg, .int .i64 s.mq, .slice (some ⟨0, 0, none⟩) n n, .string s.data, .int .u64 s.bits, .slice (some ⟨1, 0, none⟩) p p]] [some ⟨List.map Value.string s.L, false, 1⟩, some ⟨List.map Value.string s.P, false, 1⟩] (.bool (x && y)) [none, none] := by
  have H := ac_check s n p hn hp hb hbits hd x hx
  have H1 := ac_complete s n p hn hp hb y hy
  clear hx hy
  obtain ⟨ver, id, kn, mv, ms, mg, mq, L, data, bits, P⟩ := s
  dsimp only at *
  cases x
  all_goals refine acalls_law Tryz.func20 rfl rfl rfl ?_
  repeat' first | refine st ?_ | refine stRW [0, 1] H ?_ | refine stRW [0, 1] H1 ?_ | refine stm ?_ | refine Ja ?_ | refine Jb ?_ | refine run_nil ?_ | refine Jz ?_ | refine Jw ?_ | refine aw_ret ?_ | refine pp_ret ?_
  all_goals first
    | rfl
    | (exfalso; omega)
    | (exfalso; simp only [Bool.not_eq_true', Bool.not_eq_false', decide_eq_true_eq, decide_eq_false_iff_not, Bool.not_false, Bool.not_true] at *; omega)
    | (exfalso; simp_all; first | done | omega)
end Go.Proofs.YtjofcjogbopkjaaGreat
