/- JoinNumbers returns true of every input: in a list behind any requests no two members have the same node, and each keeps its own; a request that is repeated at once gets the same answer, and an old one gets none.
   Conditions: the listed tables start as the text lays them (tied). -/
import Derived.Test.YtdbcbclapipgdaaGreatDoorLH
import Derived.Test.YtdbcbclapipgdaaGreatDoorXZ
import Derived.Test.YtdbcbclapipgdaaGreatDoorJ
import Derived.Test.YtdbcbclapipgdaaGreatDoorRows
import Derived.Test.YtdbcbclapipgdaaGreatDoorTie
import Derived.Test.YtdbcbclapipgdaaGreatDoorCards
import Derived.ProofKit
import Derived.LaidMore
import Derived.OpenShut
import Derived.Stop.Joined
import Derived.SevenTiedAt
set_option linter.unusedVariables false
set_option linter.unusedSimpArgs false
namespace Go.Proofs.YtdbcbclapipgdaaGreatDoor
open Go Av
set_option maxRecDepth 20000
theorem flat_u8 (l : List Int) : l.flatMap (fun n => [Value.int .u8 n]) = l.map (Value.int .u8) := by
  induction l <;> simp [*]
theorem flat_s (l : List ByteArray) : l.flatMap (fun n => [Value.string n]) = l.map Value.string := by
  induction l <;> simp [*]
open Go.ChangeShapes Go.WideShapes Go.ChangeAt Go.RowKit
namespace joinNumbers
theorem own : ownKnob Tryz.prog.godebug = none := by kernel_rfl
set_option maxRecDepth 100000 in
theorem lifted (os : Os) (started : os.Started) (H : Type) (enc : TypeId × Value → H) :
    ReturnsInHanded {} Tryz.checked os 5 .any (fun w args => (Rows.joinNumbersSpec.pre enc Tryz.prog Tryz.f5 [] false w args ∧ laidMetH Tryz.prog laids w) ∧ sizedMet enc Tryz.prog Tryz.f5 (OpenSpec.ofChange Rows.joinNumbersSpec) false w args)
      (Rows.joinNumbersSpec.post enc Tryz.prog Tryz.f5 false true false false) := by
  refine returnsInHanded_of_change_and (C := Tryz.checked) (X := fun w _ => laidMetH Tryz.prog laids w) (fun _ _ _ hh h => h.of_heap hh) own started (by kernel_rfl) Tryz.func5
    (ChangeSpec.witness_shaped (enc := enc) (C := Tryz.checked) (os := os) (X := fun w _ => laidMetH Tryz.prog laids w) false (World.doorLaid Tryz.prog 400 os) #[.slice none 0 0, .slice none 0 0] 8 rfl (World.shaped_of_RefB (by kernel_rfl) (by kernel_rfl)) (by kernel_rfl) (by kernel_rfl) (by kernel_rfl) (door_met os _)) ?_
  intro W base args ds gs before hval0 hW _ _ hL _
  obtain ⟨p, q, hA0, hV, hbf, hfz, hnd⟩ := id hW
  have hA : DataW.TrodAll enc Tryz.prog W 0 (fun _ => true) true [43, 44] args.toList ds p := hA0
  obtain ⟨a, hR, ls, hl, hv, hc⟩ := RdA.rd (P := Tryz.prog) hA fun j t v h1 h2 => hval0 j t v (by rw [← Array.getElem?_toList]; exact h1) (by rw [← Array.getElem?_toList]; exact h2)
  have hcall := calls_rd0 (hamb := amb_of hL) (P := Tryz.prog) (f := 5) (r := .bool true) (W := W) (by
    have e1 : IntKind.i64.min = -9223372036854775808 := rfl
    have e2 : IntKind.i64.max = 9223372036854775807 := rfl
    have e3 : IntKind.u8.min = 0 := rfl
    have e4 : IntKind.u8.max = 255 := rfl
    have e5 : IntKind.u16.min = 0 := rfl
    have e6 : IntKind.u16.max = 65535 := rfl
    have g := hR.2.1
    rw [e3, e4] at g
    obtain ⟨m', h⟩ := law_numbers a.1 a.1.length rfl a.2.1 a.2.1.length rfl g
    rw [← flat_s, ← flat_u8] at h
    exact ⟨_, h⟩) rfl hl (hv 0) hc
  obtain ⟨v0, vs0, d0, ds0, p0, q0, x0, rfl, y0, h0, r0⟩ := trodAll_cons hA
  obtain ⟨v1, vs1, d1, ds1, p1, q1, x1, rfl, y1, h1, r1⟩ := trodAll_cons r0
  obtain ⟨_, rfl, _⟩ := trodAll_nil r1
  exact hcall.mono fun e W' ⟨he, hb⟩ => ⟨_, he, law_post (tb := 4) (by kernel_rfl) (by kernel_rfl) rfl Tryz.underlying4 rfl rfl rfl rfl hW hb⟩
theorem over : Rows.joinNumbersRow.holds Tryz.pinned (OpenSpec.ofChange Rows.joinNumbersSpec) :=
  OpenClaim.holds_of_wide 5 Tryz.f5 rfl rfl rfl rfl rfl rfl rfl ⟨rfl, rfl, rfl, rfl, rfl⟩ rfl rfl rfl rfl rfl (by kernel_rfl) Tryz.func5 (by kernel_rfl)
    (of_decide_eq_true (by kernel_rfl)) (by unfold Func.isWrapper; first | (rw [if_pos (by decide +kernel)]; kernel_rfl) | (rw [if_neg (by decide +kernel)]; exact ⟨rfl, rfl⟩))
    (fun os started H enc _ => lifted os started H enc)
theorem proved : Rows.JoinNumbersCardSaid :=
  Claim7.holds_tied_plain_at .later [] [.data, .data, .data] true (true, "d1de2d02e1ad24801647f3a0bf7c95c2844b1323bc27b5c339d6978f92465f0a") false
    over (fun _ h => by cases h) (by kernel_rfl) (fun _ h => by cases h) joinNumbers_row_tie rfl ⟨rfl, rfl⟩ (by kernel_rfl) rfl
    (fun f fn hf hfn => by
      obtain rfl : f = 5 := Option.some.inj ((show Tryz.prog.funcNamed "hopmesh/hopmeshlaw21.JoinNumbers" = some 5 by kernel_rfl).symm.trans hf) |>.symm
      obtain rfl : fn = Tryz.f5 := (Option.some.inj (Tryz.func5.symm.trans hfn)).symm
      exact ⟨by kernel_rfl, fun j t ht => by
        have hm : t ∈ [43, 44] := by
          have hp : Tryz.f5.params = #[43, 44] := by kernel_rfl
          rw [hp] at ht
          simpa using Array.mem_of_getElem? ht
        have hall : ([43, 44].all fun u => !Tryz.prog.wantsStandIn u) = true := by kernel_rfl
        exact (show Tryz.prog.wantsStandIn t = false by simpa using List.all_eq_true.1 hall t hm)⟩)
    (by kernel_rfl)
#print axioms proved
end joinNumbers
end Go.Proofs.YtdbcbclapipgdaaGreatDoor
