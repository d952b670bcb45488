/- CellmsgBack returns true of every input: a right message is read from its bytes; bytes that are read are those of the message.
   Conditions: none. -/
import Derived.Test.YtjamfmnlhiolkaaLZ
import Derived.Test.YtjamfmnlhiolkaaK1
import Derived.Test.YtjamfmnlhiolkaaG3
import Derived.Test.YtjamfmnlhiolkaaH5
import Derived.Test.YtjamfmnlhiolkaaJ
import Derived.Test.YtjamfmnlhiolkaaRows
set_option linter.unusedVariables false
set_option linter.unusedSimpArgs false
namespace Go.Proofs.Ytjamfmnlhiolkaa
open Go Av
set_option maxRecDepth 20000
set_option maxHeartbeats 8000000 in
theorem law_back (k n c cnt : Int) (r : Bool) (S O : List Sp) (d : ByteArray) : ACalls Try.prog 9 [.agg #[.int .i64 k, .bool r, .int .i64 n, .int .i64 c, .int .i64 cnt, .slice (some ⟨0, 0, none⟩) S.length S.length, .slice (some ⟨1, 0, none⟩) O.length O.length], .string d] [some ⟨S.flatMap spC, false, 2⟩, some ⟨O.flatMap spC, false, 2⟩] (.bool true) [none, none] := by
  obtain ⟨s, hs⟩ : ∃ s, S.length = s := ⟨_, rfl⟩
  obtain ⟨o, ho⟩ : ∃ o, O.length = o := ⟨_, rfl⟩
  rw [hs, ho]
  have HF := ac_few k n c cnt r s o
  by_cases hf : s ≤ 12 ∧ o ≤ 12
  · rw [decide_eq_true hf] at HF
    by_cases hd : d.size ≤ 100
    · obtain ⟨k3, r3, n3, c3, cnt3, S3, O3, x3, hres3, b3, b4, hx3⟩ := dec_back d
      obtain ⟨s3, hs3⟩ : ∃ s, S3.length = s := ⟨_, rfl⟩
      obtain ⟨o3, ho3⟩ : ∃ o, O3.length = o := ⟨_, rfl⟩
      have H4 := ac_decode d (by omega) _ x3 s3 o3 hres3 hs3 ho3
      dsimp only at H4
      obtain ⟨y, hy⟩ : ∃ y, chk k n c cnt r S O = y := ⟨_, rfl⟩
      have H2 := ac_check k n c cnt y r S O s o hs ho hy
      by_cases hy0 : y = 0
      · subst hy0
        have H1 := ac_encode0 k n c cnt r S O s o hs ho hy
        have hsz := enc_size (m := (k, r, n, c, cnt, S, O)) hy
        have H3 := ac_decode (encM (k, r, n, c, cnt, S, O)) (by omega) _ 0 s o (decP_enc hy) hs ho
        dsimp only at H3
        have H5 := ac_same k n c cnt k n c cnt r r S O S O s o s o hs ho hs ho (by omega) (by omega) (by omega) (by omega) true (sameM_iff.2 rfl)
        rw [encM_eq] at H3 hsz
        have hne : pkB (msgB k n c cnt r S O) ≠ ⟨#[]⟩ := fun h => by rw [h] at hsz; exact absurd hsz.1 (by decide)
        generalize pkB (msgB k n c cnt r S O) = w at H1 H3 hsz hne
        rcases hx3 with rfl | ⟨rfl, g1, g2⟩
        · clear hres3
          refine acalls_law Try.func9 rfl rfl rfl ?_
          repeat' first
            | refine st (h := ok_str_eqlT rfl rfl) ?_
            | refine st (h := ok_str_neqF rfl rfl) ?_
            | refine st ?_
            | refine st_call (ac_awake) ?_
            | refine stRW [0, 1] HF ?_
            | refine stRW [0, 1] H1 ?_
            | refine stRW [0, 1] H2 ?_
            | refine stMW [] H3 ?_
            | refine stRW [3, 4, 0, 1] H5 ?_
            | refine stMW [] H4 ?_
            | refine stRW [6, 7] H6 ?_
            | refine stm ?_
            | refine run_want rfl rfl ?_
            | refine run_unwant rfl rfl ?_
            | refine run_undef rfl rfl ?_
            | refine run_guard1t rfl rfl (by omega) ?_
            | refine run_guard1f rfl rfl (by omega) ?_
            | refine run_guard0t rfl rfl (by omega) ?_
            | refine run_guard0f rfl rfl (by omega) ?_
            | refine run_guard1 rfl rfl (fun h1 => ?_) (fun h1 => ?_)
            | refine run_guard0 rfl rfl (fun h1 => ?_) (fun h1 => ?_)
            | refine run_guard rfl rfl (fun h1 => ?_) (fun h1 => ?_)
            | refine run_nil ?_
            | refine aw_seq ?_
            | refine aw_region (by kernel_rfl) (Nat.le_of_ble_eq_true rfl) ?_
            | refine aw_block ?_
            | refine aw_cond_t rfl ?_
            | refine aw_cond_f rfl ?_
            | refine aw_cond_tp rfl (by omega) ?_
            | refine aw_cond_fp rfl (by omega) ?_
            | refine aw_cond1 rfl (fun h1 => ?_) (fun h1 => ?_)
            | refine aw_cond rfl (fun h1 => ?_) (fun h1 => ?_)
            | refine aw_skip ?_
            | refine aw_exit ?_
            | refine aw_ret ?_
            | refine pp_ret ?_
            | refine pp_normal ?_
          all_goals first
            | rfl
            | (exfalso; omega)
            | (simp [retOf]; done)
            | (exfalso; simp_all; done)
        · have H6 := ac_encode0 k3 n3 c3 cnt3 r3 S3 O3 s3 o3 hs3 ho3 g1
          rw [g2] at H6
          clear hres3 g2
          refine acalls_law Try.func9 rfl rfl rfl ?_
          repeat' first
            | refine st (h := ok_str_eqlT rfl rfl) ?_
            | refine st (h := ok_str_neqF rfl rfl) ?_
            | refine st ?_
            | refine st_call (ac_awake) ?_
            | refine stRW [0, 1] HF ?_
            | refine stRW [0, 1] H1 ?_
            | refine stRW [0, 1] H2 ?_
            | refine stMW [] H3 ?_
            | refine stRW [3, 4, 0, 1] H5 ?_
            | refine stMW [] H4 ?_
            | refine stRW [6, 7] H6 ?_
            | refine stm ?_
            | refine run_want rfl rfl ?_
            | refine run_unwant rfl rfl ?_
            | refine run_undef rfl rfl ?_
            | refine run_guard1t rfl rfl (by omega) ?_
            | refine run_guard1f rfl rfl (by omega) ?_
            | refine run_guard0t rfl rfl (by omega) ?_
            | refine run_guard0f rfl rfl (by omega) ?_
            | refine run_guard1 rfl rfl (fun h1 => ?_) (fun h1 => ?_)
            | refine run_guard0 rfl rfl (fun h1 => ?_) (fun h1 => ?_)
            | refine run_guard rfl rfl (fun h1 => ?_) (fun h1 => ?_)
            | refine run_nil ?_
            | refine aw_seq ?_
            | refine aw_region (by kernel_rfl) (Nat.le_of_ble_eq_true rfl) ?_
            | refine aw_block ?_
            | refine aw_cond_t rfl ?_
            | refine aw_cond_f rfl ?_
            | refine aw_cond_tp rfl (by omega) ?_
            | refine aw_cond_fp rfl (by omega) ?_
            | refine aw_cond1 rfl (fun h1 => ?_) (fun h1 => ?_)
            | refine aw_cond rfl (fun h1 => ?_) (fun h1 => ?_)
            | refine aw_skip ?_
            | refine aw_exit ?_
            | refine aw_ret ?_
            | refine pp_ret ?_
            | refine pp_normal ?_
          all_goals first
            | rfl
            | (exfalso; omega)
            | (simp [retOf]; done)
            | (exfalso; simp_all; done)
      · have H1 := ac_encodeE k n c cnt r S O s o hs ho y hy hy0
        rcases hx3 with rfl | ⟨rfl, g1, g2⟩
        · clear hres3
          refine acalls_law Try.func9 rfl rfl rfl ?_
          repeat' first
            | refine st (h := ok_str_eqlT rfl rfl) ?_
            | refine st (h := ok_str_neqF rfl rfl) ?_
            | refine st ?_
            | refine st_call (ac_awake) ?_
            | refine stRW [0, 1] HF ?_
            | refine stRW [0, 1] H1 ?_
            | refine stRW [0, 1] H2 ?_
            | refine stMW [] H4 ?_
            | refine stRW [3, 4] H6 ?_
            | refine stm ?_
            | refine run_want rfl rfl ?_
            | refine run_unwant rfl rfl ?_
            | refine run_undef rfl rfl ?_
            | refine run_guard1t rfl rfl (by omega) ?_
            | refine run_guard1f rfl rfl (by omega) ?_
            | refine run_guard0t rfl rfl (by omega) ?_
            | refine run_guard0f rfl rfl (by omega) ?_
            | refine run_guard1 rfl rfl (fun h1 => ?_) (fun h1 => ?_)
            | refine run_guard0 rfl rfl (fun h1 => ?_) (fun h1 => ?_)
            | refine run_guard rfl rfl (fun h1 => ?_) (fun h1 => ?_)
            | refine run_nil ?_
            | refine aw_seq ?_
            | refine aw_region (by kernel_rfl) (Nat.le_of_ble_eq_true rfl) ?_
            | refine aw_block ?_
            | refine aw_cond_t rfl ?_
            | refine aw_cond_f rfl ?_
            | refine aw_cond_tp rfl (by omega) ?_
            | refine aw_cond_fp rfl (by omega) ?_
            | refine aw_cond1 rfl (fun h1 => ?_) (fun h1 => ?_)
            | refine aw_cond rfl (fun h1 => ?_) (fun h1 => ?_)
            | refine aw_skip ?_
            | refine aw_exit ?_
            | refine aw_ret ?_
            | refine pp_ret ?_
            | refine pp_normal ?_
          all_goals first
            | rfl
            | (exfalso; omega)
            | (simp [retOf]; done)
            | (exfalso; simp_all; done)
        · have H6 := ac_encode0 k3 n3 c3 cnt3 r3 S3 O3 s3 o3 hs3 ho3 g1
          rw [g2] at H6
          clear hres3 g2
          refine acalls_law Try.func9 rfl rfl rfl ?_
          repeat' first
            | refine st (h := ok_str_eqlT rfl rfl) ?_
            | refine st (h := ok_str_neqF rfl rfl) ?_
            | refine st ?_
            | refine st_call (ac_awake) ?_
            | refine stRW [0, 1] HF ?_
            | refine stRW [0, 1] H1 ?_
            | refine stRW [0, 1] H2 ?_
            | refine stMW [] H4 ?_
            | refine stRW [3, 4] H6 ?_
            | refine stm ?_
            | refine run_want rfl rfl ?_
            | refine run_unwant rfl rfl ?_
            | refine run_undef rfl rfl ?_
            | refine run_guard1t rfl rfl (by omega) ?_
            | refine run_guard1f rfl rfl (by omega) ?_
            | refine run_guard0t rfl rfl (by omega) ?_
            | refine run_guard0f rfl rfl (by omega) ?_
            | refine run_guard1 rfl rfl (fun h1 => ?_) (fun h1 => ?_)
            | refine run_guard0 rfl rfl (fun h1 => ?_) (fun h1 => ?_)
            | refine run_guard rfl rfl (fun h1 => ?_) (fun h1 => ?_)
            | refine run_nil ?_
            | refine aw_seq ?_
            | refine aw_region (by kernel_rfl) (Nat.le_of_ble_eq_true rfl) ?_
            | refine aw_block ?_
            | refine aw_cond_t rfl ?_
            | refine aw_cond_f rfl ?_
            | refine aw_cond_tp rfl (by omega) ?_
            | refine aw_cond_fp rfl (by omega) ?_
            | refine aw_cond1 rfl (fun h1 => ?_) (fun h1 => ?_)
            | refine aw_cond rfl (fun h1 => ?_) (fun h1 => ?_)
            | refine aw_skip ?_
            | refine aw_exit ?_
            | refine aw_ret ?_
            | refine pp_ret ?_
            | refine pp_normal ?_
          all_goals first
            | rfl
            | (exfalso; omega)
            | (simp [retOf]; done)
            | (exfalso; simp_all; done)
    · refine acalls_law Try.func9 rfl rfl rfl ?_
      repeat' first
        | refine st ?_
        | refine st_call (ac_awake) ?_
        | refine stRW [0, 1] HF ?_
        | refine stm ?_
        | refine run_want rfl rfl ?_
        | refine run_unwant rfl rfl ?_
        | refine run_undef rfl rfl ?_
        | refine run_guard1t rfl rfl (by omega) ?_
        | refine run_guard1f rfl rfl (by omega) ?_
        | refine run_guard0t rfl rfl (by omega) ?_
        | refine run_guard0f rfl rfl (by omega) ?_
        | refine run_guard1 rfl rfl (fun h1 => ?_) (fun h1 => ?_)
        | refine run_guard0 rfl rfl (fun h1 => ?_) (fun h1 => ?_)
        | refine run_guard rfl rfl (fun h1 => ?_) (fun h1 => ?_)
        | refine run_nil ?_
        | refine aw_seq ?_
        | refine aw_region (by kernel_rfl) (Nat.le_of_ble_eq_true rfl) ?_
        | refine aw_block ?_
        | refine aw_cond_t rfl ?_
        | refine aw_cond_f rfl ?_
        | refine aw_cond_tp rfl (by omega) ?_
        | refine aw_cond_fp rfl (by omega) ?_
        | refine aw_cond1 rfl (fun h1 => ?_) (fun h1 => ?_)
        | refine aw_cond rfl (fun h1 => ?_) (fun h1 => ?_)
        | refine aw_skip ?_
        | refine aw_exit ?_
        | refine aw_ret ?_
        | refine pp_ret ?_
        | refine pp_normal ?_
      all_goals first
        | rfl
        | (exfalso; omega)
        | (simp [retOf]; done)
        | (exfalso; simp_all; done)
  · rw [decide_eq_false hf] at HF
    refine acalls_law Try.func9 rfl rfl rfl ?_
    repeat' first
      | refine st ?_
      | refine st_call (ac_awake) ?_
      | refine stRW [0, 1] HF ?_
      | refine stm ?_
      | refine run_want rfl rfl ?_
      | refine run_unwant rfl rfl ?_
      | refine run_undef rfl rfl ?_
      | refine run_guard1t rfl rfl (by omega) ?_
      | refine run_guard1f rfl rfl (by omega) ?_
      | refine run_guard0t rfl rfl (by omega) ?_
      | refine run_guard0f rfl rfl (by omega) ?_
      | refine run_guard1 rfl rfl (fun h1 => ?_) (fun h1 => ?_)
      | refine run_guard0 rfl rfl (fun h1 => ?_) (fun h1 => ?_)
      | refine run_guard rfl rfl (fun h1 => ?_) (fun h1 => ?_)
      | refine run_nil ?_
      | refine aw_seq ?_
      | refine aw_region (by kernel_rfl) (Nat.le_of_ble_eq_true rfl) ?_
      | refine aw_block ?_
      | refine aw_cond_t rfl ?_
      | refine aw_cond_f rfl ?_
      | refine aw_cond_tp rfl (by omega) ?_
      | refine aw_cond_fp rfl (by omega) ?_
      | refine aw_cond1 rfl (fun h1 => ?_) (fun h1 => ?_)
      | refine aw_cond rfl (fun h1 => ?_) (fun h1 => ?_)
      | refine aw_skip ?_
      | refine aw_exit ?_
      | refine aw_ret ?_
      | refine pp_ret ?_
      | refine pp_normal ?_
    all_goals first
      | rfl
      | (exfalso; omega)
      | (simp [retOf]; done)
      | (exfalso; simp_all; done)
open Go.ChangeShapes Go.WideShapes Go.ChangeAt Go.RowKit
namespace cellmsgBack
theorem own : ownKnob Try.prog.godebug = none := by kernel_rfl
set_option maxRecDepth 100000 in
theorem lifted (os : Os) (started : os.Started) (H : Type) (enc : TypeId × Value → H) :
    ReturnsInHanded {} Try.checked os 9 .any (Rows.cellmsgBackSpec.pre6 enc Try.prog Try.f9 Rows.cellmsgBackRow.domain false) (Rows.cellmsgBackSpec.post enc Try.prog Try.f9 false true false false) := by
  refine returnsInHanded_of_change_sized (C := Try.checked) own started (by kernel_rfl) Try.func9
    (ChangeSpec.witness6 (enc := enc) (C := Try.checked) false ⟨#[], #[.agg #[.int .i64 0, .bool false, .int .i64 0, .int .i64 0, .int .i64 0, .slice none 0 0, .slice none 0 0], .string .empty], []⟩ 8 (by kernel_rfl) (by kernel_rfl) (by kernel_rfl) (by kernel_rfl)) ?_
  intro W base args ds gs before hval0 hW _ hsz _
  obtain ⟨p, q, hA0, hV, hbf, hfz, hnd⟩ := id hW
  have hA : DataW.TrodAll enc Try.prog W 0 (fun _ => true) true [24, 9] args.toList ds p := hA0
  obtain ⟨a, hR, ls, hl, hv, hc⟩ := RdA.rd (P := Try.prog) hA fun j t v h1 h2 => hval0 j t v (by rw [← Array.getElem?_toList]; exact h1) (by rw [← Array.getElem?_toList]; exact h2)
  have hcall := calls_rd0 (P := Try.prog) (f := 9) (r := .bool true) (W := W) (by
    exact ⟨_, law_back a.1.1 a.1.2.2.1 a.1.2.2.2.1 a.1.2.2.2.2.1 a.1.2.1 a.1.2.2.2.2.2.1 a.1.2.2.2.2.2.2.1 a.2.1⟩) rfl hl (hv 0) hc
  obtain ⟨v0, vs0, d0, ds0, p0, q0, x0, rfl, y0, h0, r0⟩ := trodAll_cons hA
  obtain ⟨v1, vs1, d1, ds1, p1, q1, x1, rfl, y1, h1, r1⟩ := trodAll_cons r0
  obtain ⟨_, rfl, _⟩ := trodAll_nil r1
  exact hcall.mono fun e W' ⟨he, hb⟩ => ⟨_, he, law_post (tb := 4) (by kernel_rfl) (by kernel_rfl) rfl Try.underlying4 rfl rfl rfl rfl hW hb⟩
theorem over : Rows.cellmsgBackRow.holds Try.pinned (OpenSpec.ofChange Rows.cellmsgBackSpec) :=
  OpenClaim.holds_of_wide 9 Try.f9 rfl rfl rfl rfl rfl rfl rfl ⟨rfl, rfl, rfl, rfl, rfl⟩ rfl rfl rfl rfl rfl (by kernel_rfl) Try.func9 (by kernel_rfl)
    (of_decide_eq_true (by kernel_rfl)) (by unfold Func.isWrapper; first | (rw [if_pos (by decide +kernel)]; kernel_rfl) | (rw [if_neg (by decide +kernel)]; exact ⟨rfl, rfl⟩))
    (fun os started H enc _ => lifted os started H enc)
theorem proved : Rows.CellmsgBackSaid := over
#print axioms proved
end cellmsgBack
end Go.Proofs.Ytjamfmnlhiolkaa
