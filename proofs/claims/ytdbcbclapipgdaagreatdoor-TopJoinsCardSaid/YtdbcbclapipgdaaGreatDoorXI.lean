/- TopJoins returns true of every input: members that hear a beacon join by messages of bytes; whatever requests and answers are lost or doubled, those that are done have different numbers, which are those that the gateway has for them.
   Conditions: the listed tables start as the text lays them (tied). -/
import Derived.Test.YtdbcbclapipgdaaGreatDoorC35
import Derived.Test.YtdbcbclapipgdaaGreatDoorXZ
import Derived.Test.YtdbcbclapipgdaaGreatDoorJ
import Derived.Test.YtdbcbclapipgdaaGreatDoorRows
import Derived.Test.YtdbcbclapipgdaaGreatDoorTie
import Derived.Test.YtdbcbclapipgdaaGreatDoorCards
import Derived.ProofKit
import Derived.LaidMore
import Derived.OpenShut
import Derived.Stop.Joined
import Derived.SevenTiedAt
set_option linter.unusedVariables false
set_option linter.unusedSimpArgs false
namespace Go.Proofs.YtdbcbclapipgdaaGreatDoor
open Go Av
set_option maxRecDepth 20000
theorem flat_s (l : List ByteArray) : l.flatMap (fun n => [Value.string n]) = l.map Value.string := by
  induction l <;> simp [*]
theorem tn_rows : ∀ (rows : List (List Int)), (∀ l ∈ rows, l.length = 2 ∧ ∀ n ∈ l, 0 ≤ n ∧ n ≤ 255) → rows.flatMap (fun l => l.flatMap fun n => [Value.int .u8 n]) = (rows.map fun l => (l.getD 0 0, l.getD 1 0)).flatMap x2F ∧ ∀ x ∈ rows.map (fun l => (l.getD 0 0, l.getD 1 0)), 0 ≤ x.1 ∧ x.1 ≤ 255
  | [], _ => ⟨rfl, fun x hx => by simp at hx⟩
  | l :: r, h => by
    obtain ⟨h1, h2⟩ := tn_rows r fun q hq => h q (List.mem_cons_of_mem _ hq)
    obtain ⟨h3, h4⟩ := h l List.mem_cons_self
    match l, h3, h4 with
    | [a, b], _, h4 =>
      refine ⟨?_, fun x hx => ?_⟩
      · rw [List.flatMap_cons, h1, List.map_cons, List.flatMap_cons]
        rfl
      · rw [List.map_cons] at hx
        rcases List.mem_cons.1 hx with e | e
        · subst e
          exact h4 a List.mem_cons_self
        · exact h2 x e
open Go.ChangeShapes Go.WideShapes Go.ChangeAt Go.RowKit
namespace topJoins
theorem own : ownKnob Tryz.prog.godebug = none := by kernel_rfl
set_option maxRecDepth 100000 in
theorem lifted (os : Os) (started : os.Started) (H : Type) (enc : TypeId × Value → H) :
    ReturnsInHanded {} Tryz.checked os 11 .any (fun w args => (Rows.topJoinsSpec.pre enc Tryz.prog Tryz.f11 [] false w args ∧ laidMetH Tryz.prog laids w) ∧ sizedMet enc Tryz.prog Tryz.f11 (OpenSpec.ofChange Rows.topJoinsSpec) false w args)
      (Rows.topJoinsSpec.post enc Tryz.prog Tryz.f11 false true false false) := by
  refine returnsInHanded_of_change_and (C := Tryz.checked) (X := fun w _ => laidMetH Tryz.prog laids w) (fun _ _ _ hh h => h.of_heap hh) own started (by kernel_rfl) Tryz.func11
    (ChangeSpec.witness_shaped (enc := enc) (C := Tryz.checked) (os := os) (X := fun w _ => laidMetH Tryz.prog laids w) false (World.doorLaid Tryz.prog 400 os) #[.slice none 0 0, .slice none 0 0, .int .u16 0] 8 rfl (World.shaped_of_RefB (by kernel_rfl) (by kernel_rfl)) (by kernel_rfl) (by kernel_rfl) (by kernel_rfl) (door_met os _)) ?_
  intro W base args ds gs before hval0 hW _ _ hL _
  obtain ⟨p, q, hA0, hV, hbf, hfz, hnd⟩ := id hW
  have hA : DataW.TrodAll enc Tryz.prog W 0 (fun _ => true) true [43, 75, 52] args.toList ds p := hA0
  obtain ⟨a, hR, ls, hl, hv, hc⟩ := RdA.rd (P := Tryz.prog) hA fun j t v h1 h2 => hval0 j t v (by rw [← Array.getElem?_toList]; exact h1) (by rw [← Array.getElem?_toList]; exact h2)
  have hcall := calls_rd0 (hamb := amb_of hL) (P := Tryz.prog) (f := 11) (r := .bool true) (W := W) (by
    have e1 : IntKind.i64.min = -9223372036854775808 := rfl
    have e2 : IntKind.i64.max = 9223372036854775807 := rfl
    have e3 : IntKind.u8.min = 0 := rfl
    have e4 : IntKind.u8.max = 255 := rfl
    have e5 : IntKind.u16.min = 0 := rfl
    have e6 : IntKind.u16.max = 65535 := rfl
    have g := hR.2.1
    rw [e3, e4] at g
    have k := hR.2.2.1
    rw [e5, e6] at k
    obtain ⟨h1, h2⟩ := tn_rows a.2.1 g
    have h := law_topjoins a.1 a.1.length rfl (a.2.1.map fun l => (l.getD 0 0, l.getD 1 0)) a.2.1.length (by rw [List.length_map]) h2 a.2.2.1 k
    rw [← h1, ← flat_s] at h
    exact ⟨_, h⟩) rfl hl (hv 0) hc
  obtain ⟨v0, vs0, d0, ds0, p0, q0, x0, rfl, y0, h0, r0⟩ := trodAll_cons hA
  obtain ⟨v1, vs1, d1, ds1, p1, q1, x1, rfl, y1, h1, r1⟩ := trodAll_cons r0
  obtain ⟨v2, vs2, d2, ds2, p2, q2, x2, rfl, y2, h2, r2⟩ := trodAll_cons r1
  obtain ⟨_, rfl, _⟩ := trodAll_nil r2
  exact hcall.mono fun e W' ⟨he, hb⟩ => ⟨_, he, law_post (tb := 4) (by kernel_rfl) (by kernel_rfl) rfl Tryz.underlying4 rfl rfl rfl rfl hW hb⟩
theorem over : Rows.topJoinsRow.holds Tryz.pinned (OpenSpec.ofChange Rows.topJoinsSpec) :=
  OpenClaim.holds_of_wide 11 Tryz.f11 rfl rfl rfl rfl rfl rfl rfl ⟨rfl, rfl, rfl, rfl, rfl⟩ rfl rfl rfl rfl rfl (by kernel_rfl) Tryz.func11 (by kernel_rfl)
    (of_decide_eq_true (by kernel_rfl)) (by unfold Func.isWrapper; first | (rw [if_pos (by decide +kernel)]; kernel_rfl) | (rw [if_neg (by decide +kernel)]; exact ⟨rfl, rfl⟩))
    (fun os started H enc _ => lifted os started H enc)
theorem proved : Rows.TopJoinsCardSaid :=
  Claim7.holds_tied_plain_at .later [] [.data, .data, .data] true (true, "d1de2d02e1ad24801647f3a0bf7c95c2844b1323bc27b5c339d6978f92465f0a") false
    over (fun _ h => by cases h) (by kernel_rfl) (fun _ h => by cases h) topJoins_row_tie rfl ⟨rfl, rfl⟩ (by kernel_rfl) rfl
    (fun f fn hf hfn => by
      obtain rfl : f = 11 := Option.some.inj ((show Tryz.prog.funcNamed "hopmesh/hopmeshtop.TopJoins" = some 11 by kernel_rfl).symm.trans hf) |>.symm
      obtain rfl : fn = Tryz.f11 := (Option.some.inj (Tryz.func11.symm.trans hfn)).symm
      exact ⟨by kernel_rfl, fun j t ht => by
        have hm : t ∈ [43, 75, 52] := by
          have hp : Tryz.f11.params = #[43, 75, 52] := by kernel_rfl
          rw [hp] at ht
          simpa using Array.mem_of_getElem? ht
        have hall : ([43, 75, 52].all fun u => !Tryz.prog.wantsStandIn u) = true := by kernel_rfl
        exact (show Tryz.prog.wantsStandIn t = false by simpa using List.all_eq_true.1 hall t hm)⟩)
    (by kernel_rfl)
#print axioms proved
end topJoins
end Go.Proofs.YtdbcbclapipgdaaGreatDoor
