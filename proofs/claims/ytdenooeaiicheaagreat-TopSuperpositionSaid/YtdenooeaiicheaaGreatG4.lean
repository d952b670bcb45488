/- Frames: Encode, Time, over contracts. Frames: Time. -/
import Derived.Test.YtdenooeaiicheaaGreatBA
import Derived.Test.YtdenooeaiicheaaGreatVL
import Derived.Test.YtdenooeaiicheaaGreatJ
import Derived.Test.YtdenooeaiicheaaGreatF2
import Derived.Test.YtdenooeaiicheaaGreatF3
import Derived.Test.YtdenooeaiicheaaGreatG1
import Derived.Test.YtdenooeaiicheaaGreatG2
import Derived.Test.YtdenooeaiicheaaGreatGB
set_option linter.unusedVariables false
set_option linter.unusedSimpArgs false
namespace Go.Proofs.YtdenooeaiicheaaGreat
open Go Av
set_option maxRecDepth 20000
set_option maxHeartbeats 8000000 in
theorem ac_fencE (g0 g1 g2 g3 g4 g5 g6 g7 g8 g9 g10 : Int) (dt : ByteArray) (c : Int) (hc : c ≠ 0) (H1 : ACalls Tryz.prog 54 [.agg #[.int .i64 g0, .int .i64 g1, .int .i64 g2, .int .i64 g3, .int .i64 g4, .int .i64 g5, .int .i64 g6, .int .i64 g7, .int .i64 g8, .int .i64 g9, .int .i64 g10, .string dt]] [] (.int .i64 c) []) : ACalls Tryz.prog 29 [.agg #[.int .i64 g0, .int .i64 g1, .int .i64 g2, .int .i64 g3, .int .i64 g4, .int .i64 g5, .int .i64 g6, .int .i64 g7, .int .i64 g8, .int .i64 g9, .int .i64 g10, .string dt]] [] (.tuple #[.string ⟨#[]⟩, .int .i64 c]) [] := by
  refine acalls_law Tryz.func29 rfl rfl rfl ?_
  repeat' first | refine st ?_ | refine st_call (H1) ?_ | refine stm ?_ | refine run_nil ?_ | refine Jz ?_ | refine Jw ?_ | refine Js ?_ | refine aw_ret ?_ | refine pp_ret ?_
  all_goals first | rfl
set_option maxHeartbeats 8000000 in
theorem ac_fenc1 (n : Nat) (k e : Int) (Z : List Int) (g0 g1 g2 g3 g4 g5 g6 g7 g8 g9 g10 : Int) (dt : ByteArray) (he : e ≠ 0) (H1 : ACalls Tryz.prog 54 [.agg #[.int .i64 g0, .int .i64 g1, .int .i64 g2, .int .i64 g3, .int .i64 g4, .int .i64 g5, .int .i64 g6, .int .i64 g7, .int .i64 g8, .int .i64 g9, .int .i64 g10, .string dt]] [] (.int .i64 0) []) (H3 : ACalls Tryz.prog 56 [.agg #[.pointer (some ⟨0, 0, none⟩), .pointer none], .pointer (some ⟨2, 0, none⟩)] [some ⟨[.slice (some ⟨1, 0, none⟩) 0 0, .int .i64 0, .int .i64 0], true, 1⟩, some ⟨List.map (Value.int .u8) [], true, 1⟩, some ⟨[.int .i64 g0, .int .i64 g1, .int .i64 g2, .int .i64 g3, .int .i64 g4, .int .i64 g5, .int .i64 g6, .int .i64 g7, .int .i64 g8, .int .i64 g9, .int .i64 g10, .string dt], true, 1⟩] (.bool true) [some ⟨[.slice (some ⟨3, 0, none⟩) n n, .int .i64 k, .int .i64 e], true, 1⟩, none, some ⟨[.int .i64 g0, .int .i64 g1, .int .i64 g2, .int .i64 g3, .int .i64 g4, .int .i64 g5, .int .i64 g6, .int .i64 g7, .int .i64 g8, .int .i64 g9, .int .i64 g10, .string dt], true, 1⟩, some ⟨List.map (Value.int .u8) Z, true, 1⟩]) (H4 : ACalls Tryz.prog 57 [.pointer (some ⟨0, 0, none⟩)] [some ⟨[.slice (some ⟨1, 0, none⟩) n n, .int .i64 k, .int .i64 e], false, 1⟩, some ⟨List.map (Value.int .u8) Z, false, 1⟩] (.tuple #[.string ⟨#[]⟩, .int .i64 e]) [none, none]) : ACalls Tryz.prog 29 [.agg #[.int .i64 g0, .int .i64 g1, .int .i64 g2, .int .i64 g3, .int .i64 g4, .int .i64 g5, .int .i64 g6, .int .i64 g7, .int .i64 g8, .int .i64 g9, .int .i64 g10, .string dt]] [] (.tuple #[.string ⟨#[]⟩, .int .i64 8]) [] := by
  have H2 := ac_newW
  refine acalls_law Tryz.func29 rfl rfl rfl ?_
  repeat' first | refine st ?_ | refine st_call (H1) ?_ | refine stMW [] H2 ?_ | refine stMW [1, 2, 0] H3 ?_ | refine stRW [1, 3] H4 ?_ | refine stm ?_ | refine Jb ?_ | refine Jg ?_ | refine run_nil ?_ | refine Jz ?_ | refine Jw ?_ | refine Jq ?_ | refine Jr ?_ | refine Jy ?_ | refine aw_ret ?_ | refine pp_ret ?_
  all_goals first | rfl
set_option maxHeartbeats 8000000 in
theorem ac_fenc2 (n : Nat) (k e : Int) (Z : List Int) (d T : ByteArray) (g0 g1 g2 g3 g4 g5 g6 g7 g8 g9 g10 : Int) (dt : ByteArray) (hd : d.size ≤ 125) (he : e = 0) (H1 : ACalls Tryz.prog 54 [.agg #[.int .i64 g0, .int .i64 g1, .int .i64 g2, .int .i64 g3, .int .i64 g4, .int .i64 g5, .int .i64 g6, .int .i64 g7, .int .i64 g8, .int .i64 g9, .int .i64 g10, .string dt]] [] (.int .i64 0) []) (H3 : ACalls Tryz.prog 56 [.agg #[.pointer (some ⟨0, 0, none⟩), .pointer none], .pointer (some ⟨2, 0, none⟩)] [some ⟨[.slice (some ⟨1, 0, none⟩) 0 0, .int .i64 0, .int .i64 0], true, 1⟩, some ⟨List.map (Value.int .u8) [], true, 1⟩, some ⟨[.int .i64 g0, .int .i64 g1, .int .i64 g2, .int .i64 g3, .int .i64 g4, .int .i64 g5, .int .i64 g6, .int .i64 g7, .int .i64 g8, .int .i64 g9, .int .i64 g10, .string dt], true, 1⟩] (.bool true) [some ⟨[.slice (some ⟨3, 0, none⟩) n n, .int .i64 k, .int .i64 e], true, 1⟩, none, some ⟨[.int .i64 g0, .int .i64 g1, .int .i64 g2, .int .i64 g3, .int .i64 g4, .int .i64 g5, .int .i64 g6, .int .i64 g7, .int .i64 g8, .int .i64 g9, .int .i64 g10, .string dt], true, 1⟩, some ⟨List.map (Value.int .u8) Z, true, 1⟩]) (H4 : ACalls Tryz.prog 57 [.pointer (some ⟨0, 0, none⟩)] [some ⟨[.slice (some ⟨1, 0, none⟩) n n, .int .i64 k, .int .i64 e], false, 1⟩, some ⟨List.map (Value.int .u8) Z, false, 1⟩] (.tuple #[.string d, .int .i64 e]) [none, none]) (H5 : ACalls Tryz.prog 58 [.string d] [] (.string T) []) : ACalls Tryz.prog 29 [.agg #[.int .i64 g0, .int .i64 g1, .int .i64 g2, .int .i64 g3, .int .i64 g4, .int .i64 g5, .int .i64 g6, .int .i64 g7, .int .i64 g8, .int .i64 g9, .int .i64 g10, .string dt]] [] (.tuple #[.string T, .int .i64 0]) [] := by
  have H2 := ac_newW
  subst he
  refine acalls_law Tryz.func29 rfl rfl rfl ?_
  repeat' first | refine st ?_ | refine st_call (H1) ?_ | refine st_call (H5) ?_ | refine stMW [] H2 ?_ | refine stMW [1, 2, 0] H3 ?_ | refine stRW [1, 3] H4 ?_ | refine stm ?_ | refine Ja ?_ | refine run_nil ?_ | refine Jz ?_ | refine Jw ?_ | refine Jr ?_ | refine Jt ?_ | refine Jy ?_ | refine aw_ret ?_ | refine pp_ret ?_
  all_goals first | rfl
set_option maxHeartbeats 8000000 in
theorem ac_fenc3 (n : Nat) (k e : Int) (Z : List Int) (d : ByteArray) (g0 g1 g2 g3 g4 g5 g6 g7 g8 g9 g10 : Int) (dt : ByteArray) (hd : 125 < d.size) (hd2 : d.size ≤ 1000000) (he : e = 0) (H1 : ACalls Tryz.prog 54 [.agg #[.int .i64 g0, .int .i64 g1, .int .i64 g2, .int .i64 g3, .int .i64 g4, .int .i64 g5, .int .i64 g6, .int .i64 g7, .int .i64 g8, .int .i64 g9, .int .i64 g10, .string dt]] [] (.int .i64 0) []) (H3 : ACalls Tryz.prog 56 [.agg #[.pointer (some ⟨0, 0, none⟩), .pointer none], .pointer (some ⟨2, 0, none⟩)] [some ⟨[.slice (some ⟨1, 0, none⟩) 0 0, .int .i64 0, .int .i64 0], true, 1⟩, some ⟨List.map (Value.int .u8) [], true, 1⟩, some ⟨[.int .i64 g0, .int .i64 g1, .int .i64 g2, .int .i64 g3, .int .i64 g4, .int .i64 g5, .int .i64 g6, .int .i64 g7, .int .i64 g8, .int .i64 g9, .int .i64 g10, .string dt], true, 1⟩] (.bool true) [some ⟨[.slice (some ⟨3, 0, none⟩) n n, .int .i64 k, .int .i64 e], true, 1⟩, none, some ⟨[.int .i64 g0, .int .i64 g1, .int .i64 g2, .int .i64 g3, .int .i64 g4, .int .i64 g5, .int .i64 g6, .int .i64 g7, .int .i64 g8, .int .i64 g9, .int .i64 g10, .string dt], true, 1⟩, some ⟨List.map (Value.int .u8) Z, true, 1⟩]) (H4 : ACalls Tryz.prog 57 [.pointer (some ⟨0, 0, none⟩)] [some ⟨[.slice (some ⟨1, 0, none⟩) n n, .int .i64 k, .int .i64 e], false, 1⟩, some ⟨List.map (Value.int .u8) Z, false, 1⟩] (.tuple #[.string d, .int .i64 e]) [none, none]) : ACalls Tryz.prog 29 [.agg #[.int .i64 g0, .int .i64 g1, .int .i64 g2, .int .i64 g3, .int .i64 g4, .int .i64 g5, .int .i64 g6, .int .i64 g7, .int .i64 g8, .int .i64 g9, .int .i64 g10, .string dt]] [] (.tuple #[.string ⟨#[]⟩, .int .i64 8]) [] := by
  have H2 := ac_newW
  subst he
  refine acalls_law Tryz.func29 rfl rfl rfl ?_
  repeat' first | refine st ?_ | refine st_call (H1) ?_ | refine stMW [] H2 ?_ | refine stMW [1, 2, 0] H3 ?_ | refine stRW [1, 3] H4 ?_ | refine stm ?_ | refine Ja ?_ | refine run_nil ?_ | refine Jz ?_ | refine Jw ?_ | refine Jr ?_ | refine Js ?_ | refine Jy ?_ | refine aw_ret ?_ | refine pp_ret ?_
  all_goals first | rfl
theorem ac_timeE (g0 g1 g2 g3 g4 g5 g6 g7 g8 g9 g10 : Int) (dt : ByteArray) (c : Int) (hc : c ≠ 0) (H1 : ACalls Tryz.prog 29 [.agg #[.int .i64 g0, .int .i64 g1, .int .i64 g2, .int .i64 g3, .int .i64 g4, .int .i64 g5, .int .i64 g6, .int .i64 g7, .int .i64 g8, .int .i64 g9, .int .i64 g10, .string dt]] [] (.tuple #[.string ⟨#[]⟩, .int .i64 c]) []) : ACalls Tryz.prog 13 [.agg #[.int .i64 g0, .int .i64 g1, .int .i64 g2, .int .i64 g3, .int .i64 g4, .int .i64 g5, .int .i64 g6, .int .i64 g7, .int .i64 g8, .int .i64 g9, .int .i64 g10, .string dt]] [] (.tuple #[.int .i64 0, .int .i64 c]) [] := by
  refine acalls_law Tryz.func13 rfl rfl rfl ?_
  repeat' first | refine st ?_ | refine st_call (H1) ?_ | refine stm ?_ | refine run_nil ?_ | refine Jz ?_ | refine Jw ?_ | refine Js ?_ | refine aw_ret ?_ | refine pp_ret ?_
  all_goals first | rfl
theorem ac_timeK (g0 g1 g2 g3 g4 g5 g6 g7 g8 g9 g10 : Int) (dt : ByteArray) (T : ByteArray) (hT : T.size ≤ 127) (v : Int) (hv : (if g0 = 2 then 832 else 32 * ((T.size : Int) + 6)) = v) (H1 : ACalls Tryz.prog 29 [.agg #[.int .i64 g0, .int .i64 g1, .int .i64 g2, .int .i64 g3, .int .i64 g4, .int .i64 g5, .int .i64 g6, .int .i64 g7, .int .i64 g8, .int .i64 g9, .int .i64 g10, .string dt]] [] (.tuple #[.string T, .int .i64 0]) []) : ACalls Tryz.prog 13 [.agg #[.int .i64 g0, .int .i64 g1, .int .i64 g2, .int .i64 g3, .int .i64 g4, .int .i64 g5, .int .i64 g6, .int .i64 g7, .int .i64 g8, .int .i64 g9, .int .i64 g10, .string dt]] [] (.tuple #[.int .i64 v, .int .i64 0]) [] := by
  by_cases h2 : g0 = 2
  · rw [if_pos h2] at hv
    subst hv
    refine acalls_law Tryz.func13 rfl rfl rfl ?_
    repeat' first | refine st ?_ | refine st_call (H1) ?_ | refine stm ?_ | refine run_nil ?_ | refine Jz ?_ | refine Jw ?_ | refine Jr ?_ | refine Js ?_ | refine Jy ?_ | refine aw_ret ?_ | refine pp_ret ?_
    all_goals first | rfl
  · rw [if_neg h2] at hv
    subst hv
    refine acalls_law Tryz.func13 rfl rfl rfl ?_
    repeat' first | refine st ?_ | refine st_call (H1) ?_ | refine stm ?_ | refine run_nil ?_ | refine Jz ?_ | refine Jw ?_ | refine Jr ?_ | refine Jt ?_ | refine Jy ?_ | refine aw_ret ?_ | refine pp_ret ?_
    all_goals first | rfl
end Go.Proofs.YtdenooeaiicheaaGreat
namespace Go.Proofs.YtdenooeaiicheaaGreat
open Go Av
set_option maxRecDepth 20000
theorem u8_rng (z : Int) : 0 ≤ IntKind.u8.wrap z ∧ IntKind.u8.wrap z ≤ 255 := by
  simp only [IntKind.wrap, IntKind.signed, IntKind.bits]
  simp
  omega
theorem fw_len {bs bs' : List Int} {e e' : Int} {r f : Bool} {w x : Int} (h : fieldW bs e r f w x = (bs', e')) (hw : 0 ≤ w) (hl : bs.length ≤ 524288) : bs'.length ≤ 524288 := by
  unfold fieldW at h
  split at h
  · cases h; exact hl
  · split at h
    · cases h; exact hl
    · split at h
      · cases h; exact hl
      · split at h
        · cases h; exact hl
        · cases h
          rw [List.length_append, bitsOf_len]
          omega
theorem tw_len {bs bs' : List Int} {e e' m : Int} {s : ByteArray} (h : txtW bs e m s = (bs', e')) (hm : 0 ≤ wdth m) (hl : bs.length ≤ 524288) : bs'.length ≤ 524288 := by
  unfold txtW at h
  split at h
  · cases h; exact hl
  · split at h
    · cases h; exact hl
    · split at h
      · cases h; exact hl
      · cases h
        rw [List.length_append, List.length_append, bitsOf_len, strBits_len]
        omega
theorem ac_protE (d : ByteArray) (hd : d.size ≤ 1000000) : ∃ T : ByteArray, T.size = d.size + 2 ∧ ACalls Tryz.prog 58 [.string d] [] (.string T) [] := by
  have hb := cr_bd d.data.toList 0 (by omega)
  obtain ⟨s, hs⟩ : ∃ s, crS 0 d.data.toList = s := ⟨_, rfl⟩
  rw [hs] at hb
  refine ⟨d ++ ⟨#[UInt8.ofNat (s / 256).toNat, UInt8.ofNat (IntKind.u8.wrap s).toNat]⟩, by rw [ByteArray.size_append]; rfl, ac_cprot d _ hd s hs _ _ ?_ ?_ rfl⟩
  · rw [UInt8.toNat_ofNat']
    omega
  · have hw := u8_rng s
    rw [UInt8.toNat_ofNat']
    omega
set_option maxHeartbeats 4000000 in
theorem ac_frm1 (g1 g2 g3 g4 g5 g6 g7 g8 g9 g10 : Int) (dt : ByteArray) (hf : (0 ≤ g1 ∧ g1 ≤ 31) ∧ (-1 ≤ g2 ∧ g2 ≤ 31) ∧ (0 ≤ g3 ∧ g3 ≤ 255) ∧ (0 ≤ g4 ∧ g4 ≤ 255) ∧ (0 ≤ g5 ∧ g5 ≤ 255) ∧ (0 ≤ g6 ∧ g6 ≤ 65535) ∧ (-32768 ≤ g7 ∧ g7 ≤ 32767) ∧ (0 ≤ g8 ∧ g8 ≤ 109951162) ∧ (0 ≤ g9 ∧ g9 ≤ 65535) ∧ (0 ≤ g10 ∧ g10 ≤ 65535)) (hd : dt.size ≤ 1000) : ∃ (n : Nat) (k e : Int) (bs Z : List Int), pack bs = Z ∧ n = Z.length ∧ bs.length ≤ 524288 ∧ ACalls Tryz.prog 56 [.agg #[.pointer (some ⟨0, 0, none⟩), .pointer none], .pointer (some ⟨2, 0, none⟩)] [some ⟨[.slice (some ⟨1, 0, none⟩) 0 0, .int .i64 0, .int .i64 0], true, 1⟩, some ⟨List.map (Value.int .u8) [], true, 1⟩, some ⟨[.int .i64 1, .int .i64 g1, .int .i64 g2, .int .i64 g3, .int .i64 g4, .int .i64 g5, .int .i64 g6, .int .i64 g7, .int .i64 g8, .int .i64 g9, .int .i64 g10, .string dt], true, 1⟩] (.bool true) [some ⟨[.slice (some ⟨3, 0, none⟩) n n, .int .i64 k, .int .i64 e], true, 1⟩, none, some ⟨[.int .i64 1, .int .i64 g1, .int .i64 g2, .int .i64 g3, .int .i64 g4, .int .i64 g5, .int .i64 g6, .int .i64 g7, .int .i64 g8, .int .i64 g9, .int .i64 g10, .string dt], true, 1⟩, some ⟨List.map (Value.int .u8) Z, true, 1⟩] := by
  obtain ⟨b1, e1, h1⟩ : ∃ b e, unsW [] 0 3 1 = (b, e) := ⟨_, _, rfl⟩
  have l1 := fw_len h1 (by decide) (by decide)
  obtain ⟨Z1, hZ1⟩ : ∃ Z, pack b1 = Z := ⟨_, rfl⟩
  obtain ⟨n1, hn1⟩ : ∃ n : Nat, n = Z1.length := ⟨_, rfl⟩
  obtain ⟨k1, hk1⟩ : ∃ k : Int, k = b1.length := ⟨_, rfl⟩
  have H1 := ac_puW 3 1 0 e1 [] b1 [] Z1 0 n1 0 k1 rfl rfl rfl hZ1 hn1 hk1 (by decide) h1 (by decide) (by omega) ([.int .i64 1, .int .i64 g1, .int .i64 g2, .int .i64 g3, .int .i64 g4, .int .i64 g5, .int .i64 g6, .int .i64 g7, .int .i64 g8, .int .i64 g9, .int .i64 g10, .string dt]) 0 rfl
  obtain ⟨b2, e2, h2⟩ : ∃ b e, unsW b1 e1 5 g1 = (b, e) := ⟨_, _, rfl⟩
  have l2 := fw_len h2 (by decide) l1
  obtain ⟨Z2, hZ2⟩ : ∃ Z, pack b2 = Z := ⟨_, rfl⟩
  obtain ⟨n2, hn2⟩ : ∃ n : Nat, n = Z2.length := ⟨_, rfl⟩
  obtain ⟨k2, hk2⟩ : ∃ k : Int, k = b2.length := ⟨_, rfl⟩
  have H2 := ac_puW 5 g1 e1 e2 b1 b2 Z1 Z2 n1 n2 k1 k2 hZ1 hn1 hk1 hZ2 hn2 hk2 l1 h2 (by decide) (by omega) ([.int .i64 1, .int .i64 g1, .int .i64 g2, .int .i64 g3, .int .i64 g4, .int .i64 g5, .int .i64 g6, .int .i64 g7, .int .i64 g8, .int .i64 g9, .int .i64 g10, .string dt]) 1 rfl
  obtain ⟨b3, e3, l3, H3⟩ : ∃ (b : List Int) (e : Int), b.length ≤ 524288 ∧ ∀ (Z : List Int) (n : Nat) (k : Int), pack b = Z → n = Z.length → k = b.length → ACalls Tryz.prog 89 [.agg #[.pointer (some ⟨0, 0, none⟩), .pointer none], .pointer (some ⟨2, 2, none⟩)] [some ⟨[.slice (some ⟨1, 0, none⟩) n2 n2, .int .i64 k2, .int .i64 e2], true, 1⟩, some ⟨List.map (Value.int .u8) Z2, true, 1⟩, some ⟨[.int .i64 1, .int .i64 g1, .int .i64 g2, .int .i64 g3, .int .i64 g4, .int .i64 g5, .int .i64 g6, .int .i64 g7, .int .i64 g8, .int .i64 g9, .int .i64 g10, .string dt], true, 1⟩] (.tuple #[]) [some ⟨[.slice (some ⟨3, 0, none⟩) n n, .int .i64 k, .int .i64 e], true, 1⟩, none, some ⟨[.int .i64 1, .int .i64 g1, .int .i64 g2, .int .i64 g3, .int .i64 g4, .int .i64 g5, .int .i64 g6, .int .i64 g7, .int .i64 g8, .int .i64 g9, .int .i64 g10, .string dt], true, 1⟩, some ⟨List.map (Value.int .u8) Z, true, 1⟩] := by
    by_cases ht : g2 = -1
    · subst ht
      obtain ⟨b, e, h⟩ : ∃ b e, flgW b2 e2 false = (b, e) := ⟨_, _, rfl⟩
      exact ⟨b, e, fw_len h (by decide) l2, fun Z n k hZ hn hk => ac_pt0W e2 e b2 b Z2 Z n2 n k2 k hZ2 hn2 hk2 hZ hn hk l2 h 1 g1 (-1) g3 g4 g5 g6 g7 g8 g9 g10 dt⟩
    · obtain ⟨b', e', h'⟩ : ∃ b e, flgW b2 e2 true = (b, e) := ⟨_, _, rfl⟩
      have l' := fw_len h' (by decide) l2
      obtain ⟨b, e, h⟩ : ∃ b e, unsW b' e' 5 g2 = (b, e) := ⟨_, _, rfl⟩
      exact ⟨b, e, fw_len h (by decide) l', fun Z n k hZ hn hk => ac_pt1W _ _ e' _ b' g2 e2 e b2 b Z2 Z n2 n k2 k hZ2 hn2 hk2 hZ hn hk l2 h' rfl rfl rfl l' h 1 g1 g3 g4 g5 g6 g7 g8 g9 g10 dt (by omega)⟩
  obtain ⟨Z3, hZ3⟩ : ∃ Z, pack b3 = Z := ⟨_, rfl⟩
  obtain ⟨n3, hn3⟩ : ∃ n : Nat, n = Z3.length := ⟨_, rfl⟩
  obtain ⟨k3, hk3⟩ : ∃ k : Int, k = b3.length := ⟨_, rfl⟩
  have H3 := H3 Z3 n3 k3 hZ3 hn3 hk3
  obtain ⟨b4, e4, h4⟩ : ∃ b e, unsW b3 e3 8 g3 = (b, e) := ⟨_, _, rfl⟩
  have l4 := fw_len h4 (by decide) l3
  obtain ⟨Z4, hZ4⟩ : ∃ Z, pack b4 = Z := ⟨_, rfl⟩
  obtain ⟨n4, hn4⟩ : ∃ n : Nat, n = Z4.length := ⟨_, rfl⟩
  obtain ⟨k4, hk4⟩ : ∃ k : Int, k = b4.length := ⟨_, rfl⟩
  have H4 := ac_puW 8 g3 e3 e4 b3 b4 Z3 Z4 n3 n4 k3 k4 hZ3 hn3 hk3 hZ4 hn4 hk4 l3 h4 (by decide) (by omega) ([.int .i64 1, .int .i64 g1, .int .i64 g2, .int .i64 g3, .int .i64 g4, .int .i64 g5, .int .i64 g6, .int .i64 g7, .int .i64 g8, .int .i64 g9, .int .i64 g10, .string dt]) 3 rfl
  obtain ⟨b5, e5, h5⟩ : ∃ b e, unsW b4 e4 8 g4 = (b, e) := ⟨_, _, rfl⟩
  have l5 := fw_len h5 (by decide) l4
  obtain ⟨Z5, hZ5⟩ : ∃ Z, pack b5 = Z := ⟨_, rfl⟩
  obtain ⟨n5, hn5⟩ : ∃ n : Nat, n = Z5.length := ⟨_, rfl⟩
  obtain ⟨k5, hk5⟩ : ∃ k : Int, k = b5.length := ⟨_, rfl⟩
  have H5 := ac_puW 8 g4 e4 e5 b4 b5 Z4 Z5 n4 n5 k4 k5 hZ4 hn4 hk4 hZ5 hn5 hk5 l4 h5 (by decide) (by omega) ([.int .i64 1, .int .i64 g1, .int .i64 g2, .int .i64 g3, .int .i64 g4, .int .i64 g5, .int .i64 g6, .int .i64 g7, .int .i64 g8, .int .i64 g9, .int .i64 g10, .string dt]) 4 rfl
  obtain ⟨b6, e6, h6⟩ : ∃ b e, unsW b5 e5 8 g5 = (b, e) := ⟨_, _, rfl⟩
  have l6 := fw_len h6 (by decide) l5
  obtain ⟨Z6, hZ6⟩ : ∃ Z, pack b6 = Z := ⟨_, rfl⟩
  obtain ⟨n6, hn6⟩ : ∃ n : Nat, n = Z6.length := ⟨_, rfl⟩
  obtain ⟨k6, hk6⟩ : ∃ k : Int, k = b6.length := ⟨_, rfl⟩
  have H6 := ac_puW 8 g5 e5 e6 b5 b6 Z5 Z6 n5 n6 k5 k6 hZ5 hn5 hk5 hZ6 hn6 hk6 l5 h6 (by decide) (by omega) ([.int .i64 1, .int .i64 g1, .int .i64 g2, .int .i64 g3, .int .i64 g4, .int .i64 g5, .int .i64 g6, .int .i64 g7, .int .i64 g8, .int .i64 g9, .int .i64 g10, .string dt]) 5 rfl
  obtain ⟨b7, e7, h7⟩ : ∃ b e, unsW b6 e6 16 g6 = (b, e) := ⟨_, _, rfl⟩
  have l7 := fw_len h7 (by decide) l6
  obtain ⟨Z7, hZ7⟩ : ∃ Z, pack b7 = Z := ⟨_, rfl⟩
  obtain ⟨n7, hn7⟩ : ∃ n : Nat, n = Z7.length := ⟨_, rfl⟩
  obtain ⟨k7, hk7⟩ : ∃ k : Int, k = b7.length := ⟨_, rfl⟩
  have H7 := ac_puW 16 g6 e6 e7 b6 b7 Z6 Z7 n6 n7 k6 k7 hZ6 hn6 hk6 hZ7 hn7 hk7 l6 h7 (by decide) (by omega) ([.int .i64 1, .int .i64 g1, .int .i64 g2, .int .i64 g3, .int .i64 g4, .int .i64 g5, .int .i64 g6, .int .i64 g7, .int .i64 g8, .int .i64 g9, .int .i64 g10, .string dt]) 6 rfl
  obtain ⟨b8, e8, h8⟩ : ∃ b e, txtW b7 e7 127 dt = (b, e) := ⟨_, _, rfl⟩
  have l8 := tw_len h8 (by decide +kernel) l7
  obtain ⟨Z8, hZ8⟩ : ∃ Z, pack b8 = Z := ⟨_, rfl⟩
  obtain ⟨n8, hn8⟩ : ∃ n : Nat, n = Z8.length := ⟨_, rfl⟩
  obtain ⟨k8, hk8⟩ : ∃ k : Int, k = b8.length := ⟨_, rfl⟩
  have H8 := ac_pxW dt e7 e8 b7 b8 Z7 Z8 n7 n8 k7 k8 hZ7 hn7 hk7 hZ8 hn8 hk8 l7 h8 (by omega) ([.int .i64 1, .int .i64 g1, .int .i64 g2, .int .i64 g3, .int .i64 g4, .int .i64 g5, .int .i64 g6, .int .i64 g7, .int .i64 g8, .int .i64 g9, .int .i64 g10, .string dt]) 11 rfl
  exact ⟨n8, k8, e8, b8, Z8, hZ8, hn8, l8, ac_pf1W 0 n1 n2 n3 n4 n5 n8 0 k1 k2 k3 k4 k5 k8 0 e1 e2 e3 e4 e5 e8 [] Z1 Z2 Z3 Z4 Z5 Z8 0 g1 g2 g3 g4 g5 g6 g7 g8 g9 g10 dt H1 H2 H3 H4 H5 (ac_pdW n5 n6 n7 n8 k5 k6 k7 k8 e5 e6 e7 e8 Z5 Z6 Z7 Z8 1 g1 g2 g3 g4 g5 g6 g7 g8 g9 g10 dt H6 H7 H8)⟩
set_option maxHeartbeats 4000000 in
theorem ac_frm2 (g1 g2 g3 g4 g5 g6 g7 g8 g9 g10 : Int) (dt : ByteArray) (hf : (0 ≤ g1 ∧ g1 ≤ 31) ∧ (-1 ≤ g2 ∧ g2 ≤ 31) ∧ (0 ≤ g3 ∧ g3 ≤ 255) ∧ (0 ≤ g4 ∧ g4 ≤ 255) ∧ (0 ≤ g5 ∧ g5 ≤ 255) ∧ (0 ≤ g6 ∧ g6 ≤ 65535) ∧ (-32768 ≤ g7 ∧ g7 ≤ 32767) ∧ (0 ≤ g8 ∧ g8 ≤ 109951162) ∧ (0 ≤ g9 ∧ g9 ≤ 65535) ∧ (0 ≤ g10 ∧ g10 ≤ 65535)) (hd : dt.size ≤ 1000) : ∃ (n : Nat) (k e : Int) (bs Z : List Int), pack bs = Z ∧ n = Z.length ∧ bs.length ≤ 524288 ∧ ACalls Tryz.prog 56 [.agg #[.pointer (some ⟨0, 0, none⟩), .pointer none], .pointer (some ⟨2, 0, none⟩)] [some ⟨[.slice (some ⟨1, 0, none⟩) 0 0, .int .i64 0, .int .i64 0], true, 1⟩, some ⟨List.map (Value.int .u8) [], true, 1⟩, some ⟨[.int .i64 2, .int .i64 g1, .int .i64 g2, .int .i64 g3, .int .i64 g4, .int .i64 g5, .int .i64 g6, .int .i64 g7, .int .i64 g8, .int .i64 g9, .int .i64 g10, .string dt], true, 1⟩] (.bool true) [some ⟨[.slice (some ⟨3, 0, none⟩) n n, .int .i64 k, .int .i64 e], true, 1⟩, none, some ⟨[.int .i64 2, .int .i64 g1, .int .i64 g2, .int .i64 g3, .int .i64 g4, .int .i64 g5, .int .i64 g6, .int .i64 g7, .int .i64 g8, .int .i64 g9, .int .i64 g10, .string dt], true, 1⟩, some ⟨List.map (Value.int .u8) Z, true, 1⟩] := by
  obtain ⟨b1, e1, h1⟩ : ∃ b e, unsW [] 0 3 2 = (b, e) := ⟨_, _, rfl⟩
  have l1 := fw_len h1 (by decide) (by decide)
  obtain ⟨Z1, hZ1⟩ : ∃ Z, pack b1 = Z := ⟨_, rfl⟩
  obtain ⟨n1, hn1⟩ : ∃ n : Nat, n = Z1.length := ⟨_, rfl⟩
  obtain ⟨k1, hk1⟩ : ∃ k : Int, k = b1.length := ⟨_, rfl⟩
  have H1 := ac_puW 3 2 0 e1 [] b1 [] Z1 0 n1 0 k1 rfl rfl rfl hZ1 hn1 hk1 (by decide) h1 (by decide) (by omega) ([.int .i64 2, .int .i64 g1, .int .i64 g2, .int .i64 g3, .int .i64 g4, .int .i64 g5, .int .i64 g6, .int .i64 g7, .int .i64 g8, .int .i64 g9, .int .i64 g10, .string dt]) 0 rfl
  obtain ⟨b2, e2, h2⟩ : ∃ b e, unsW b1 e1 5 g1 = (b, e) := ⟨_, _, rfl⟩
  have l2 := fw_len h2 (by decide) l1
  obtain ⟨Z2, hZ2⟩ : ∃ Z, pack b2 = Z := ⟨_, rfl⟩
  obtain ⟨n2, hn2⟩ : ∃ n : Nat, n = Z2.length := ⟨_, rfl⟩
  obtain ⟨k2, hk2⟩ : ∃ k : Int, k = b2.length := ⟨_, rfl⟩
  have H2 := ac_puW 5 g1 e1 e2 b1 b2 Z1 Z2 n1 n2 k1 k2 hZ1 hn1 hk1 hZ2 hn2 hk2 l1 h2 (by decide) (by omega) ([.int .i64 2, .int .i64 g1, .int .i64 g2, .int .i64 g3, .int .i64 g4, .int .i64 g5, .int .i64 g6, .int .i64 g7, .int .i64 g8, .int .i64 g9, .int .i64 g10, .string dt]) 1 rfl
  obtain ⟨b3, e3, l3, H3⟩ : ∃ (b : List Int) (e : Int), b.length ≤ 524288 ∧ ∀ (Z : List Int) (n : Nat) (k : Int), pack b = Z → n = Z.length → k = b.length → ACalls Tryz.prog 89 [.agg #[.pointer (some ⟨0, 0, none⟩), .pointer none], .pointer (some ⟨2, 2, none⟩)] [some ⟨[.slice (some ⟨1, 0, none⟩) n2 n2, .int .i64 k2, .int .i64 e2], true, 1⟩, some ⟨List.map (Value.int .u8) Z2, true, 1⟩, some ⟨[.int .i64 2, .int .i64 g1, .int .i64 g2, .int .i64 g3, .int .i64 g4, .int .i64 g5, .int .i64 g6, .int .i64 g7, .int .i64 g8, .int .i64 g9, .int .i64 g10, .string dt], true, 1⟩] (.tuple #[]) [some ⟨[.slice (some ⟨3, 0, none⟩) n n, .int .i64 k, .int .i64 e], true, 1⟩, none, some ⟨[.int .i64 2, .int .i64 g1, .int .i64 g2, .int .i64 g3, .int .i64 g4, .int .i64 g5, .int .i64 g6, .int .i64 g7, .int .i64 g8, .int .i64 g9, .int .i64 g10, .string dt], true, 1⟩, some ⟨List.map (Value.int .u8) Z, true, 1⟩] := by
    by_cases ht : g2 = -1
    · subst ht
      obtain ⟨b, e, h⟩ : ∃ b e, flgW b2 e2 false = (b, e) := ⟨_, _, rfl⟩
      exact ⟨b, e, fw_len h (by decide) l2, fun Z n k hZ hn hk => ac_pt0W e2 e b2 b Z2 Z n2 n k2 k hZ2 hn2 hk2 hZ hn hk l2 h 2 g1 (-1) g3 g4 g5 g6 g7 g8 g9 g10 dt⟩
    · obtain ⟨b', e', h'⟩ : ∃ b e, flgW b2 e2 true = (b, e) := ⟨_, _, rfl⟩
      have l' := fw_len h' (by decide) l2
      obtain ⟨b, e, h⟩ : ∃ b e, unsW b' e' 5 g2 = (b, e) := ⟨_, _, rfl⟩
      exact ⟨b, e, fw_len h (by decide) l', fun Z n k hZ hn hk => ac_pt1W _ _ e' _ b' g2 e2 e b2 b Z2 Z n2 n k2 k hZ2 hn2 hk2 hZ hn hk l2 h' rfl rfl rfl l' h 2 g1 g3 g4 g5 g6 g7 g8 g9 g10 dt (by omega)⟩
  obtain ⟨Z3, hZ3⟩ : ∃ Z, pack b3 = Z := ⟨_, rfl⟩
  obtain ⟨n3, hn3⟩ : ∃ n : Nat, n = Z3.length := ⟨_, rfl⟩
  obtain ⟨k3, hk3⟩ : ∃ k : Int, k = b3.length := ⟨_, rfl⟩
  have H3 := H3 Z3 n3 k3 hZ3 hn3 hk3
  obtain ⟨b4, e4, h4⟩ : ∃ b e, unsW b3 e3 8 g3 = (b, e) := ⟨_, _, rfl⟩
  have l4 := fw_len h4 (by decide) l3
  obtain ⟨Z4, hZ4⟩ : ∃ Z, pack b4 = Z := ⟨_, rfl⟩
  obtain ⟨n4, hn4⟩ : ∃ n : Nat, n = Z4.length := ⟨_, rfl⟩
  obtain ⟨k4, hk4⟩ : ∃ k : Int, k = b4.length := ⟨_, rfl⟩
  have H4 := ac_puW 8 g3 e3 e4 b3 b4 Z3 Z4 n3 n4 k3 k4 hZ3 hn3 hk3 hZ4 hn4 hk4 l3 h4 (by decide) (by omega) ([.int .i64 2, .int .i64 g1, .int .i64 g2, .int .i64 g3, .int .i64 g4, .int .i64 g5, .int .i64 g6, .int .i64 g7, .int .i64 g8, .int .i64 g9, .int .i64 g10, .string dt]) 3 rfl
  obtain ⟨b5, e5, h5⟩ : ∃ b e, unsW b4 e4 8 g4 = (b, e) := ⟨_, _, rfl⟩
  have l5 := fw_len h5 (by decide) l4
  obtain ⟨Z5, hZ5⟩ : ∃ Z, pack b5 = Z := ⟨_, rfl⟩
  obtain ⟨n5, hn5⟩ : ∃ n : Nat, n = Z5.length := ⟨_, rfl⟩
  obtain ⟨k5, hk5⟩ : ∃ k : Int, k = b5.length := ⟨_, rfl⟩
  have H5 := ac_puW 8 g4 e4 e5 b4 b5 Z4 Z5 n4 n5 k4 k5 hZ4 hn4 hk4 hZ5 hn5 hk5 l4 h5 (by decide) (by omega) ([.int .i64 2, .int .i64 g1, .int .i64 g2, .int .i64 g3, .int .i64 g4, .int .i64 g5, .int .i64 g6, .int .i64 g7, .int .i64 g8, .int .i64 g9, .int .i64 g10, .string dt]) 4 rfl
  obtain ⟨b6, e6, h6⟩ : ∃ b e, sgnW b5 e5 16 g7 = (b, e) := ⟨_, _, rfl⟩
  have l6 := fw_len h6 (by decide) l5
  obtain ⟨Z6, hZ6⟩ : ∃ Z, pack b6 = Z := ⟨_, rfl⟩
  obtain ⟨n6, hn6⟩ : ∃ n : Nat, n = Z6.length := ⟨_, rfl⟩
  obtain ⟨k6, hk6⟩ : ∃ k : Int, k = b6.length := ⟨_, rfl⟩
  have H6 := ac_paW g7 e5 e6 b5 b6 Z5 Z6 n5 n6 k5 k6 hZ5 hn5 hk5 hZ6 hn6 hk6 l5 h6 (by omega) ([.int .i64 2, .int .i64 g1, .int .i64 g2, .int .i64 g3, .int .i64 g4, .int .i64 g5, .int .i64 g6, .int .i64 g7, .int .i64 g8, .int .i64 g9, .int .i64 g10, .string dt]) rfl
  exact ⟨n6, k6, e6, b6, Z6, hZ6, hn6, l6, ac_pf2W 0 n1 n2 n3 n4 n5 n6 0 k1 k2 k3 k4 k5 k6 0 e1 e2 e3 e4 e5 e6 [] Z1 Z2 Z3 Z4 Z5 Z6 0 g1 g2 g3 g4 g5 g6 g7 g8 g9 g10 dt H1 H2 H3 H4 H5 H6⟩
set_option maxHeartbeats 4000000 in
theorem ac_frm3 (g1 g2 g3 g4 g5 g6 g7 g8 g9 g10 : Int) (dt : ByteArray) (hf : (0 ≤ g1 ∧ g1 ≤ 31) ∧ (-1 ≤ g2 ∧ g2 ≤ 31) ∧ (0 ≤ g3 ∧ g3 ≤ 255) ∧ (0 ≤ g4 ∧ g4 ≤ 255) ∧ (0 ≤ g5 ∧ g5 ≤ 255) ∧ (0 ≤ g6 ∧ g6 ≤ 65535) ∧ (-32768 ≤ g7 ∧ g7 ≤ 32767) ∧ (0 ≤ g8 ∧ g8 ≤ 109951162) ∧ (0 ≤ g9 ∧ g9 ≤ 65535) ∧ (0 ≤ g10 ∧ g10 ≤ 65535)) (hd : dt.size ≤ 1000) : ∃ (n : Nat) (k e : Int) (bs Z : List Int), pack bs = Z ∧ n = Z.length ∧ bs.length ≤ 524288 ∧ ACalls Tryz.prog 56 [.agg #[.pointer (some ⟨0, 0, none⟩), .pointer none], .pointer (some ⟨2, 0, none⟩)] [some ⟨[.slice (some ⟨1, 0, none⟩) 0 0, .int .i64 0, .int .i64 0], true, 1⟩, some ⟨List.map (Value.int .u8) [], true, 1⟩, some ⟨[.int .i64 3, .int .i64 g1, .int .i64 g2, .int .i64 g3, .int .i64 g4, .int .i64 g5, .int .i64 g6, .int .i64 g7, .int .i64 g8, .int .i64 g9, .int .i64 g10, .string dt], true, 1⟩] (.bool true) [some ⟨[.slice (some ⟨3, 0, none⟩) n n, .int .i64 k, .int .i64 e], true, 1⟩, none, some ⟨[.int .i64 3, .int .i64 g1, .int .i64 g2, .int .i64 g3, .int .i64 g4, .int .i64 g5, .int .i64 g6, .int .i64 g7, .int .i64 g8, .int .i64 g9, .int .i64 g10, .string dt], true, 1⟩, some ⟨List.map (Value.int .u8) Z, true, 1⟩] := by
  obtain ⟨b1, e1, h1⟩ : ∃ b e, unsW [] 0 3 3 = (b, e) := ⟨_, _, rfl⟩
  have l1 := fw_len h1 (by decide) (by decide)
  obtain ⟨Z1, hZ1⟩ : ∃ Z, pack b1 = Z := ⟨_, rfl⟩
  obtain ⟨n1, hn1⟩ : ∃ n : Nat, n = Z1.length := ⟨_, rfl⟩
  obtain ⟨k1, hk1⟩ : ∃ k : Int, k = b1.length := ⟨_, rfl⟩
  have H1 := ac_puW 3 3 0 e1 [] b1 [] Z1 0 n1 0 k1 rfl rfl rfl hZ1 hn1 hk1 (by decide) h1 (by decide) (by omega) ([.int .i64 3, .int .i64 g1, .int .i64 g2, .int .i64 g3, .int .i64 g4, .int .i64 g5, .int .i64 g6, .int .i64 g7, .int .i64 g8, .int .i64 g9, .int .i64 g10, .string dt]) 0 rfl
  obtain ⟨b2, e2, h2⟩ : ∃ b e, unsW b1 e1 5 g1 = (b, e) := ⟨_, _, rfl⟩
  have l2 := fw_len h2 (by decide) l1
  obtain ⟨Z2, hZ2⟩ : ∃ Z, pack b2 = Z := ⟨_, rfl⟩
  obtain ⟨n2, hn2⟩ : ∃ n : Nat, n = Z2.length := ⟨_, rfl⟩
  obtain ⟨k2, hk2⟩ : ∃ k : Int, k = b2.length := ⟨_, rfl⟩
  have H2 := ac_puW 5 g1 e1 e2 b1 b2 Z1 Z2 n1 n2 k1 k2 hZ1 hn1 hk1 hZ2 hn2 hk2 l1 h2 (by decide) (by omega) ([.int .i64 3, .int .i64 g1, .int .i64 g2, .int .i64 g3, .int .i64 g4, .int .i64 g5, .int .i64 g6, .int .i64 g7, .int .i64 g8, .int .i64 g9, .int .i64 g10, .string dt]) 1 rfl
  obtain ⟨b3, e3, l3, H3⟩ : ∃ (b : List Int) (e : Int), b.length ≤ 524288 ∧ ∀ (Z : List Int) (n : Nat) (k : Int), pack b = Z → n = Z.length → k = b.length → ACalls Tryz.prog 89 [.agg #[.pointer (some ⟨0, 0, none⟩), .pointer none], .pointer (some ⟨2, 2, none⟩)] [some ⟨[.slice (some ⟨1, 0, none⟩) n2 n2, .int .i64 k2, .int .i64 e2], true, 1⟩, some ⟨List.map (Value.int .u8) Z2, true, 1⟩, some ⟨[.int .i64 3, .int .i64 g1, .int .i64 g2, .int .i64 g3, .int .i64 g4, .int .i64 g5, .int .i64 g6, .int .i64 g7, .int .i64 g8, .int .i64 g9, .int .i64 g10, .string dt], true, 1⟩] (.tuple #[]) [some ⟨[.slice (some ⟨3, 0, none⟩) n n, .int .i64 k, .int .i64 e], true, 1⟩, none, some ⟨[.int .i64 3, .int .i64 g1, .int .i64 g2, .int .i64 g3, .int .i64 g4, .int .i64 g5, .int .i64 g6, .int .i64 g7, .int .i64 g8, .int .i64 g9, .int .i64 g10, .string dt], true, 1⟩, some ⟨List.map (Value.int .u8) Z, true, 1⟩] := by
    by_cases ht : g2 = -1
    · subst ht
      obtain ⟨b, e, h⟩ : ∃ b e, flgW b2 e2 false = (b, e) := ⟨_, _, rfl⟩
      exact ⟨b, e, fw_len h (by decide) l2, fun Z n k hZ hn hk => ac_pt0W e2 e b2 b Z2 Z n2 n k2 k hZ2 hn2 hk2 hZ hn hk l2 h 3 g1 (-1) g3 g4 g5 g6 g7 g8 g9 g10 dt⟩
    · obtain ⟨b', e', h'⟩ : ∃ b e, flgW b2 e2 true = (b, e) := ⟨_, _, rfl⟩
      have l' := fw_len h' (by decide) l2
      obtain ⟨b, e, h⟩ : ∃ b e, unsW b' e' 5 g2 = (b, e) := ⟨_, _, rfl⟩
      exact ⟨b, e, fw_len h (by decide) l', fun Z n k hZ hn hk => ac_pt1W _ _ e' _ b' g2 e2 e b2 b Z2 Z n2 n k2 k hZ2 hn2 hk2 hZ hn hk l2 h' rfl rfl rfl l' h 3 g1 g3 g4 g5 g6 g7 g8 g9 g10 dt (by omega)⟩
  obtain ⟨Z3, hZ3⟩ : ∃ Z, pack b3 = Z := ⟨_, rfl⟩
  obtain ⟨n3, hn3⟩ : ∃ n : Nat, n = Z3.length := ⟨_, rfl⟩
  obtain ⟨k3, hk3⟩ : ∃ k : Int, k = b3.length := ⟨_, rfl⟩
  have H3 := H3 Z3 n3 k3 hZ3 hn3 hk3
  obtain ⟨b4, e4, h4⟩ : ∃ b e, unsW b3 e3 8 g3 = (b, e) := ⟨_, _, rfl⟩
  have l4 := fw_len h4 (by decide) l3
  obtain ⟨Z4, hZ4⟩ : ∃ Z, pack b4 = Z := ⟨_, rfl⟩
  obtain ⟨n4, hn4⟩ : ∃ n : Nat, n = Z4.length := ⟨_, rfl⟩
  obtain ⟨k4, hk4⟩ : ∃ k : Int, k = b4.length := ⟨_, rfl⟩
  have H4 := ac_puW 8 g3 e3 e4 b3 b4 Z3 Z4 n3 n4 k3 k4 hZ3 hn3 hk3 hZ4 hn4 hk4 l3 h4 (by decide) (by omega) ([.int .i64 3, .int .i64 g1, .int .i64 g2, .int .i64 g3, .int .i64 g4, .int .i64 g5, .int .i64 g6, .int .i64 g7, .int .i64 g8, .int .i64 g9, .int .i64 g10, .string dt]) 3 rfl
  obtain ⟨b5, e5, h5⟩ : ∃ b e, unsW b4 e4 8 g4 = (b, e) := ⟨_, _, rfl⟩
  have l5 := fw_len h5 (by decide) l4
  obtain ⟨Z5, hZ5⟩ : ∃ Z, pack b5 = Z := ⟨_, rfl⟩
  obtain ⟨n5, hn5⟩ : ∃ n : Nat, n = Z5.length := ⟨_, rfl⟩
  obtain ⟨k5, hk5⟩ : ∃ k : Int, k = b5.length := ⟨_, rfl⟩
  have H5 := ac_puW 8 g4 e4 e5 b4 b5 Z4 Z5 n4 n5 k4 k5 hZ4 hn4 hk4 hZ5 hn5 hk5 l4 h5 (by decide) (by omega) ([.int .i64 3, .int .i64 g1, .int .i64 g2, .int .i64 g3, .int .i64 g4, .int .i64 g5, .int .i64 g6, .int .i64 g7, .int .i64 g8, .int .i64 g9, .int .i64 g10, .string dt]) 4 rfl
  obtain ⟨b6, e6, h6⟩ : ∃ b e, unsW b5 e5 27 g8 = (b, e) := ⟨_, _, rfl⟩
  have l6 := fw_len h6 (by decide) l5
  obtain ⟨Z6, hZ6⟩ : ∃ Z, pack b6 = Z := ⟨_, rfl⟩
  obtain ⟨n6, hn6⟩ : ∃ n : Nat, n = Z6.length := ⟨_, rfl⟩
  obtain ⟨k6, hk6⟩ : ∃ k : Int, k = b6.length := ⟨_, rfl⟩
  have H6 := ac_puW 27 g8 e5 e6 b5 b6 Z5 Z6 n5 n6 k5 k6 hZ5 hn5 hk5 hZ6 hn6 hk6 l5 h6 (by decide) (by omega) ([.int .i64 3, .int .i64 g1, .int .i64 g2, .int .i64 g3, .int .i64 g4, .int .i64 g5, .int .i64 g6, .int .i64 g7, .int .i64 g8, .int .i64 g9, .int .i64 g10, .string dt]) 8 rfl
  obtain ⟨b7, e7, h7⟩ : ∃ b e, unsW b6 e6 16 g9 = (b, e) := ⟨_, _, rfl⟩
  have l7 := fw_len h7 (by decide) l6
  obtain ⟨Z7, hZ7⟩ : ∃ Z, pack b7 = Z := ⟨_, rfl⟩
  obtain ⟨n7, hn7⟩ : ∃ n : Nat, n = Z7.length := ⟨_, rfl⟩
  obtain ⟨k7, hk7⟩ : ∃ k : Int, k = b7.length := ⟨_, rfl⟩
  have H7 := ac_puW 16 g9 e6 e7 b6 b7 Z6 Z7 n6 n7 k6 k7 hZ6 hn6 hk6 hZ7 hn7 hk7 l6 h7 (by decide) (by omega) ([.int .i64 3, .int .i64 g1, .int .i64 g2, .int .i64 g3, .int .i64 g4, .int .i64 g5, .int .i64 g6, .int .i64 g7, .int .i64 g8, .int .i64 g9, .int .i64 g10, .string dt]) 9 rfl
  obtain ⟨b8, e8, h8⟩ : ∃ b e, unsW b7 e7 16 g10 = (b, e) := ⟨_, _, rfl⟩
  have l8 := fw_len h8 (by decide) l7
  obtain ⟨Z8, hZ8⟩ : ∃ Z, pack b8 = Z := ⟨_, rfl⟩
  obtain ⟨n8, hn8⟩ : ∃ n : Nat, n = Z8.length := ⟨_, rfl⟩
  obtain ⟨k8, hk8⟩ : ∃ k : Int, k = b8.length := ⟨_, rfl⟩
  have H8 := ac_puW 16 g10 e7 e8 b7 b8 Z7 Z8 n7 n8 k7 k8 hZ7 hn7 hk7 hZ8 hn8 hk8 l7 h8 (by decide) (by omega) ([.int .i64 3, .int .i64 g1, .int .i64 g2, .int .i64 g3, .int .i64 g4, .int .i64 g5, .int .i64 g6, .int .i64 g7, .int .i64 g8, .int .i64 g9, .int .i64 g10, .string dt]) 10 rfl
  obtain ⟨b9, e9, h9⟩ : ∃ b e, txtW b8 e8 127 dt = (b, e) := ⟨_, _, rfl⟩
  have l9 := tw_len h9 (by decide +kernel) l8
  obtain ⟨Z9, hZ9⟩ : ∃ Z, pack b9 = Z := ⟨_, rfl⟩
  obtain ⟨n9, hn9⟩ : ∃ n : Nat, n = Z9.length := ⟨_, rfl⟩
  obtain ⟨k9, hk9⟩ : ∃ k : Int, k = b9.length := ⟨_, rfl⟩
  have H9 := ac_pxW dt e8 e9 b8 b9 Z8 Z9 n8 n9 k8 k9 hZ8 hn8 hk8 hZ9 hn9 hk9 l8 h9 (by omega) ([.int .i64 3, .int .i64 g1, .int .i64 g2, .int .i64 g3, .int .i64 g4, .int .i64 g5, .int .i64 g6, .int .i64 g7, .int .i64 g8, .int .i64 g9, .int .i64 g10, .string dt]) 11 rfl
  exact ⟨n9, k9, e9, b9, Z9, hZ9, hn9, l9, ac_pf3W 0 n1 n2 n3 n4 n5 n9 0 k1 k2 k3 k4 k5 k9 0 e1 e2 e3 e4 e5 e9 [] Z1 Z2 Z3 Z4 Z5 Z9 0 g1 g2 g3 g4 g5 g6 g7 g8 g9 g10 dt H1 H2 H3 H4 H5 (ac_pbW n5 n6 n7 n8 n9 k5 k6 k7 k8 k9 e5 e6 e7 e8 e9 Z5 Z6 Z7 Z8 Z9 3 g1 g2 g3 g4 g5 g6 g7 g8 g9 g10 dt H6 H7 H8 H9)⟩
set_option maxHeartbeats 4000000 in
theorem ac_frm4 (g1 g2 g3 g4 g5 g6 g7 g8 g9 g10 : Int) (dt : ByteArray) (hf : (0 ≤ g1 ∧ g1 ≤ 31) ∧ (-1 ≤ g2 ∧ g2 ≤ 31) ∧ (0 ≤ g3 ∧ g3 ≤ 255) ∧ (0 ≤ g4 ∧ g4 ≤ 255) ∧ (0 ≤ g5 ∧ g5 ≤ 255) ∧ (0 ≤ g6 ∧ g6 ≤ 65535) ∧ (-32768 ≤ g7 ∧ g7 ≤ 32767) ∧ (0 ≤ g8 ∧ g8 ≤ 109951162) ∧ (0 ≤ g9 ∧ g9 ≤ 65535) ∧ (0 ≤ g10 ∧ g10 ≤ 65535)) (hd : dt.size ≤ 1000) : ∃ (n : Nat) (k e : Int) (bs Z : List Int), pack bs = Z ∧ n = Z.length ∧ bs.length ≤ 524288 ∧ ACalls Tryz.prog 56 [.agg #[.pointer (some ⟨0, 0, none⟩), .pointer none], .pointer (some ⟨2, 0, none⟩)] [some ⟨[.slice (some ⟨1, 0, none⟩) 0 0, .int .i64 0, .int .i64 0], true, 1⟩, some ⟨List.map (Value.int .u8) [], true, 1⟩, some ⟨[.int .i64 4, .int .i64 g1, .int .i64 g2, .int .i64 g3, .int .i64 g4, .int .i64 g5, .int .i64 g6, .int .i64 g7, .int .i64 g8, .int .i64 g9, .int .i64 g10, .string dt], true, 1⟩] (.bool true) [some ⟨[.slice (some ⟨3, 0, none⟩) n n, .int .i64 k, .int .i64 e], true, 1⟩, none, some ⟨[.int .i64 4, .int .i64 g1, .int .i64 g2, .int .i64 g3, .int .i64 g4, .int .i64 g5, .int .i64 g6, .int .i64 g7, .int .i64 g8, .int .i64 g9, .int .i64 g10, .string dt], true, 1⟩, some ⟨List.map (Value.int .u8) Z, true, 1⟩] := by
  obtain ⟨b1, e1, h1⟩ : ∃ b e, unsW [] 0 3 4 = (b, e) := ⟨_, _, rfl⟩
  have l1 := fw_len h1 (by decide) (by decide)
  obtain ⟨Z1, hZ1⟩ : ∃ Z, pack b1 = Z := ⟨_, rfl⟩
  obtain ⟨n1, hn1⟩ : ∃ n : Nat, n = Z1.length := ⟨_, rfl⟩
  obtain ⟨k1, hk1⟩ : ∃ k : Int, k = b1.length := ⟨_, rfl⟩
  have H1 := ac_puW 3 4 0 e1 [] b1 [] Z1 0 n1 0 k1 rfl rfl rfl hZ1 hn1 hk1 (by decide) h1 (by decide) (by omega) ([.int .i64 4, .int .i64 g1, .int .i64 g2, .int .i64 g3, .int .i64 g4, .int .i64 g5, .int .i64 g6, .int .i64 g7, .int .i64 g8, .int .i64 g9, .int .i64 g10, .string dt]) 0 rfl
  obtain ⟨b2, e2, h2⟩ : ∃ b e, unsW b1 e1 5 g1 = (b, e) := ⟨_, _, rfl⟩
  have l2 := fw_len h2 (by decide) l1
  obtain ⟨Z2, hZ2⟩ : ∃ Z, pack b2 = Z := ⟨_, rfl⟩
  obtain ⟨n2, hn2⟩ : ∃ n : Nat, n = Z2.length := ⟨_, rfl⟩
  obtain ⟨k2, hk2⟩ : ∃ k : Int, k = b2.length := ⟨_, rfl⟩
  have H2 := ac_puW 5 g1 e1 e2 b1 b2 Z1 Z2 n1 n2 k1 k2 hZ1 hn1 hk1 hZ2 hn2 hk2 l1 h2 (by decide) (by omega) ([.int .i64 4, .int .i64 g1, .int .i64 g2, .int .i64 g3, .int .i64 g4, .int .i64 g5, .int .i64 g6, .int .i64 g7, .int .i64 g8, .int .i64 g9, .int .i64 g10, .string dt]) 1 rfl
  obtain ⟨b3, e3, l3, H3⟩ : ∃ (b : List Int) (e : Int), b.length ≤ 524288 ∧ ∀ (Z : List Int) (n : Nat) (k : Int), pack b = Z → n = Z.length → k = b.length → ACalls Tryz.prog 89 [.agg #[.pointer (some ⟨0, 0, none⟩), .pointer none], .pointer (some ⟨2, 2, none⟩)] [some ⟨[.slice (some ⟨1, 0, none⟩) n2 n2, .int .i64 k2, .int .i64 e2], true, 1⟩, some ⟨List.map (Value.int .u8) Z2, true, 1⟩, some ⟨[.int .i64 4, .int .i64 g1, .int .i64 g2, .int .i64 g3, .int .i64 g4, .int .i64 g5, .int .i64 g6, .int .i64 g7, .int .i64 g8, .int .i64 g9, .int .i64 g10, .string dt], true, 1⟩] (.tuple #[]) [some ⟨[.slice (some ⟨3, 0, none⟩) n n, .int .i64 k, .int .i64 e], true, 1⟩, none, some ⟨[.int .i64 4, .int .i64 g1, .int .i64 g2, .int .i64 g3, .int .i64 g4, .int .i64 g5, .int .i64 g6, .int .i64 g7, .int .i64 g8, .int .i64 g9, .int .i64 g10, .string dt], true, 1⟩, some ⟨List.map (Value.int .u8) Z, true, 1⟩] := by
    by_cases ht : g2 = -1
    · subst ht
      obtain ⟨b, e, h⟩ : ∃ b e, flgW b2 e2 false = (b, e) := ⟨_, _, rfl⟩
      exact ⟨b, e, fw_len h (by decide) l2, fun Z n k hZ hn hk => ac_pt0W e2 e b2 b Z2 Z n2 n k2 k hZ2 hn2 hk2 hZ hn hk l2 h 4 g1 (-1) g3 g4 g5 g6 g7 g8 g9 g10 dt⟩
    · obtain ⟨b', e', h'⟩ : ∃ b e, flgW b2 e2 true = (b, e) := ⟨_, _, rfl⟩
      have l' := fw_len h' (by decide) l2
      obtain ⟨b, e, h⟩ : ∃ b e, unsW b' e' 5 g2 = (b, e) := ⟨_, _, rfl⟩
      exact ⟨b, e, fw_len h (by decide) l', fun Z n k hZ hn hk => ac_pt1W _ _ e' _ b' g2 e2 e b2 b Z2 Z n2 n k2 k hZ2 hn2 hk2 hZ hn hk l2 h' rfl rfl rfl l' h 4 g1 g3 g4 g5 g6 g7 g8 g9 g10 dt (by omega)⟩
  obtain ⟨Z3, hZ3⟩ : ∃ Z, pack b3 = Z := ⟨_, rfl⟩
  obtain ⟨n3, hn3⟩ : ∃ n : Nat, n = Z3.length := ⟨_, rfl⟩
  obtain ⟨k3, hk3⟩ : ∃ k : Int, k = b3.length := ⟨_, rfl⟩
  have H3 := H3 Z3 n3 k3 hZ3 hn3 hk3
  obtain ⟨b4, e4, h4⟩ : ∃ b e, unsW b3 e3 8 g3 = (b, e) := ⟨_, _, rfl⟩
  have l4 := fw_len h4 (by decide) l3
  obtain ⟨Z4, hZ4⟩ : ∃ Z, pack b4 = Z := ⟨_, rfl⟩
  obtain ⟨n4, hn4⟩ : ∃ n : Nat, n = Z4.length := ⟨_, rfl⟩
  obtain ⟨k4, hk4⟩ : ∃ k : Int, k = b4.length := ⟨_, rfl⟩
  have H4 := ac_puW 8 g3 e3 e4 b3 b4 Z3 Z4 n3 n4 k3 k4 hZ3 hn3 hk3 hZ4 hn4 hk4 l3 h4 (by decide) (by omega) ([.int .i64 4, .int .i64 g1, .int .i64 g2, .int .i64 g3, .int .i64 g4, .int .i64 g5, .int .i64 g6, .int .i64 g7, .int .i64 g8, .int .i64 g9, .int .i64 g10, .string dt]) 3 rfl
  obtain ⟨b5, e5, h5⟩ : ∃ b e, unsW b4 e4 8 g4 = (b, e) := ⟨_, _, rfl⟩
  have l5 := fw_len h5 (by decide) l4
  obtain ⟨Z5, hZ5⟩ : ∃ Z, pack b5 = Z := ⟨_, rfl⟩
  obtain ⟨n5, hn5⟩ : ∃ n : Nat, n = Z5.length := ⟨_, rfl⟩
  obtain ⟨k5, hk5⟩ : ∃ k : Int, k = b5.length := ⟨_, rfl⟩
  have H5 := ac_puW 8 g4 e4 e5 b4 b5 Z4 Z5 n4 n5 k4 k5 hZ4 hn4 hk4 hZ5 hn5 hk5 l4 h5 (by decide) (by omega) ([.int .i64 4, .int .i64 g1, .int .i64 g2, .int .i64 g3, .int .i64 g4, .int .i64 g5, .int .i64 g6, .int .i64 g7, .int .i64 g8, .int .i64 g9, .int .i64 g10, .string dt]) 4 rfl
  obtain ⟨b6, e6, h6⟩ : ∃ b e, txtW b5 e5 127 dt = (b, e) := ⟨_, _, rfl⟩
  have l6 := tw_len h6 (by decide +kernel) l5
  obtain ⟨Z6, hZ6⟩ : ∃ Z, pack b6 = Z := ⟨_, rfl⟩
  obtain ⟨n6, hn6⟩ : ∃ n : Nat, n = Z6.length := ⟨_, rfl⟩
  obtain ⟨k6, hk6⟩ : ∃ k : Int, k = b6.length := ⟨_, rfl⟩
  have H6 := ac_pxW dt e5 e6 b5 b6 Z5 Z6 n5 n6 k5 k6 hZ5 hn5 hk5 hZ6 hn6 hk6 l5 h6 (by omega) ([.int .i64 4, .int .i64 g1, .int .i64 g2, .int .i64 g3, .int .i64 g4, .int .i64 g5, .int .i64 g6, .int .i64 g7, .int .i64 g8, .int .i64 g9, .int .i64 g10, .string dt]) 11 rfl
  exact ⟨n6, k6, e6, b6, Z6, hZ6, hn6, l6, ac_pf4W 0 n1 n2 n3 n4 n5 n6 0 k1 k2 k3 k4 k5 k6 0 e1 e2 e3 e4 e5 e6 [] Z1 Z2 Z3 Z4 Z5 Z6 0 g1 g2 g3 g4 g5 g6 g7 g8 g9 g10 dt H1 H2 H3 H4 H5 (ac_pmW n5 n6 k5 k6 e5 e6 Z5 Z6 4 g1 g2 g3 g4 g5 g6 g7 g8 g9 g10 dt H6)⟩
/-- The air time of a frame, whatever it is. -/
theorem ac_timeX (k : Int) (g1 g2 g3 g4 g5 g6 g7 g8 g9 g10 : Int) (dt : ByteArray) (hd : dt.size ≤ 1000) (H1 : ACalls Tryz.prog 54 [.agg #[.int .i64 k, .int .i64 g1, .int .i64 g2, .int .i64 g3, .int .i64 g4, .int .i64 g5, .int .i64 g6, .int .i64 g7, .int .i64 g8, .int .i64 g9, .int .i64 g10, .string dt]] [] (.int .i64 0) []) (H3 : ∃ (n : Nat) (q e : Int) (bs Z : List Int), pack bs = Z ∧ n = Z.length ∧ bs.length ≤ 524288 ∧ ACalls Tryz.prog 56 [.agg #[.pointer (some ⟨0, 0, none⟩), .pointer none], .pointer (some ⟨2, 0, none⟩)] [some ⟨[.slice (some ⟨1, 0, none⟩) 0 0, .int .i64 0, .int .i64 0], true, 1⟩, some ⟨List.map (Value.int .u8) [], true, 1⟩, some ⟨[.int .i64 k, .int .i64 g1, .int .i64 g2, .int .i64 g3, .int .i64 g4, .int .i64 g5, .int .i64 g6, .int .i64 g7, .int .i64 g8, .int .i64 g9, .int .i64 g10, .string dt], true, 1⟩] (.bool true) [some ⟨[.slice (some ⟨3, 0, none⟩) n n, .int .i64 q, .int .i64 e], true, 1⟩, none, some ⟨[.int .i64 k, .int .i64 g1, .int .i64 g2, .int .i64 g3, .int .i64 g4, .int .i64 g5, .int .i64 g6, .int .i64 g7, .int .i64 g8, .int .i64 g9, .int .i64 g10, .string dt], true, 1⟩, some ⟨List.map (Value.int .u8) Z, true, 1⟩]) : ∃ v e, ACalls Tryz.prog 13 [.agg #[.int .i64 k, .int .i64 g1, .int .i64 g2, .int .i64 g3, .int .i64 g4, .int .i64 g5, .int .i64 g6, .int .i64 g7, .int .i64 g8, .int .i64 g9, .int .i64 g10, .string dt]] [] (.tuple #[.int .i64 v, .int .i64 e]) [] := by
  obtain ⟨n, q, e, bs, Z, hZ, hn, hl, H3⟩ := H3
  by_cases he : e = 0
  · subst he
    have hs : Z.length ≤ 70000 := by rw [← hZ, pack_len]; omega
    have H4 := ac_bytes n q bs Z hZ hn
    have hsz : (⟨(Z.map b8).toArray⟩ : ByteArray).size = Z.length := by show (Z.map b8).toArray.size = _; simp
    obtain ⟨d, hdd⟩ : ∃ d : ByteArray, ⟨(Z.map b8).toArray⟩ = d := ⟨_, rfl⟩
    rw [hdd] at H4 hsz
    obtain ⟨T, hT, H5⟩ := ac_protE d (by omega)
    by_cases h125 : d.size ≤ 125
    · exact ⟨_, _, ac_timeK k g1 g2 g3 g4 g5 g6 g7 g8 g9 g10 dt T (by omega) _ rfl (ac_fenc2 n q 0 Z d T k g1 g2 g3 g4 g5 g6 g7 g8 g9 g10 dt h125 rfl H1 H3 H4 H5)⟩
    · exact ⟨_, _, ac_timeE k g1 g2 g3 g4 g5 g6 g7 g8 g9 g10 dt 8 (by decide) (ac_fenc3 n q 0 Z d k g1 g2 g3 g4 g5 g6 g7 g8 g9 g10 dt (by omega) (by omega) rfl H1 H3 H4)⟩
  · exact ⟨_, _, ac_timeE k g1 g2 g3 g4 g5 g6 g7 g8 g9 g10 dt 8 (by decide) (ac_fenc1 n q e Z k g1 g2 g3 g4 g5 g6 g7 g8 g9 g10 dt he H1 H3 (ac_bytesE n q e Z he))⟩
theorem ac_Time (k : Int) (g1 g2 g3 g4 g5 g6 g7 g8 g9 g10 : Int) (dt : ByteArray) (hd : dt.size ≤ 1000) : ∃ v e, ACalls Tryz.prog 13 [.agg #[.int .i64 k, .int .i64 g1, .int .i64 g2, .int .i64 g3, .int .i64 g4, .int .i64 g5, .int .i64 g6, .int .i64 g7, .int .i64 g8, .int .i64 g9, .int .i64 g10, .string dt]] [] (.tuple #[.int .i64 v, .int .i64 e]) [] := by
  have hbad : ∀ c : Int, c ≠ 0 → ACalls Tryz.prog 54 [.agg #[.int .i64 k, .int .i64 g1, .int .i64 g2, .int .i64 g3, .int .i64 g4, .int .i64 g5, .int .i64 g6, .int .i64 g7, .int .i64 g8, .int .i64 g9, .int .i64 g10, .string dt]] [] (.int .i64 c) [] → ∃ v e, ACalls Tryz.prog 13 [.agg #[.int .i64 k, .int .i64 g1, .int .i64 g2, .int .i64 g3, .int .i64 g4, .int .i64 g5, .int .i64 g6, .int .i64 g7, .int .i64 g8, .int .i64 g9, .int .i64 g10, .string dt]] [] (.tuple #[.int .i64 v, .int .i64 e]) [] := fun c hc h => ⟨_, _, ac_timeE k g1 g2 g3 g4 g5 g6 g7 g8 g9 g10 dt c hc (ac_fencE k g1 g2 g3 g4 g5 g6 g7 g8 g9 g10 dt c hc h)⟩
  by_cases k1 : k = 1
  · subst k1
    obtain ⟨c, hc, hf⟩ := ac_fck1 g1 g2 g3 g4 g5 g6 g7 g8 g9 g10 dt
    by_cases h0 : c = 0
    · subst h0
      exact ac_timeX 1 g1 g2 g3 g4 g5 g6 g7 g8 g9 g10 dt hd hc (ac_frm1 g1 g2 g3 g4 g5 g6 g7 g8 g9 g10 dt (hf rfl) hd)
    · exact hbad c h0 hc
  by_cases k2 : k = 2
  · subst k2
    obtain ⟨c, hc, hf⟩ := ac_fck2 g1 g2 g3 g4 g5 g6 g7 g8 g9 g10 dt
    by_cases h0 : c = 0
    · subst h0
      exact ac_timeX 2 g1 g2 g3 g4 g5 g6 g7 g8 g9 g10 dt hd hc (ac_frm2 g1 g2 g3 g4 g5 g6 g7 g8 g9 g10 dt (hf rfl) hd)
    · exact hbad c h0 hc
  by_cases k3 : k = 3
  · subst k3
    obtain ⟨c, hc, hf⟩ := ac_fck3 g1 g2 g3 g4 g5 g6 g7 g8 g9 g10 dt
    by_cases h0 : c = 0
    · subst h0
      exact ac_timeX 3 g1 g2 g3 g4 g5 g6 g7 g8 g9 g10 dt hd hc (ac_frm3 g1 g2 g3 g4 g5 g6 g7 g8 g9 g10 dt (hf rfl) hd)
    · exact hbad c h0 hc
  by_cases k4 : k = 4
  · subst k4
    obtain ⟨c, hc, hf⟩ := ac_fck4 g1 g2 g3 g4 g5 g6 g7 g8 g9 g10 dt
    by_cases h0 : c = 0
    · subst h0
      exact ac_timeX 4 g1 g2 g3 g4 g5 g6 g7 g8 g9 g10 dt hd hc (ac_frm4 g1 g2 g3 g4 g5 g6 g7 g8 g9 g10 dt (hf rfl) hd)
    · exact hbad c h0 hc
  exact hbad 1 (by decide) (ac_fckX k g1 g2 g3 g4 g5 g6 g7 g8 g9 g10 dt k1 k2 k3 k4)
end Go.Proofs.YtdenooeaiicheaaGreat
