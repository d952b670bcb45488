/- TopSuperposition returns true of every input: what holds of the law of superposition.
   Conditions: none. -/
import Derived.Test.YtdenooeaiicheaaGreatL4
import Derived.Test.YtdenooeaiicheaaGreatFR
import Derived.Test.YtdenooeaiicheaaGreatJ
import Derived.Test.YtdenooeaiicheaaGreatRows
set_option linter.unusedVariables false
set_option linter.unusedSimpArgs false
namespace Go.Proofs.YtdenooeaiicheaaGreat
open Go Av
set_option maxRecDepth 20000
open Go.ChangeShapes Go.WideShapes Go.ChangeAt Go.RowKit
theorem flat_one {α β : Type} (f : α → β) : ∀ l : List α, (l.flatMap fun a => [f a]) = l.map f
  | [] => rfl
  | a :: l => by rw [List.flatMap_cons, flat_one f l]; rfl
theorem flat_map {α β γ : Type} (q : α → β) (f : β → List γ) : ∀ l : List α, (l.map q).flatMap f = l.flatMap fun a => f (q a)
  | [] => rfl
  | a :: l => by rw [List.map_cons, List.flatMap_cons, List.flatMap_cons, flat_map q f l]
theorem flat_congr {α γ : Type} {f g : α → List γ} : ∀ {l : List α}, (∀ a ∈ l, f a = g a) → l.flatMap f = l.flatMap g
  | [], _ => rfl
  | a :: l, h => by rw [List.flatMap_cons, List.flatMap_cons, h a (List.mem_cons_self ..), flat_congr fun b hb => h b (List.mem_cons_of_mem _ hb)]
/-- The numbers of the law's blocks, in the order in which the arguments are read; and back. -/
def kap (i : Nat) : Nat := if i = 12 then 4 else if 4 ≤ i ∧ i ≤ 11 then i + 1 else i
def iot (i : Nat) : Nat := if i = 4 then 12 else if 5 ≤ i ∧ i ≤ 12 then i - 1 else i
theorem iot_kap (i : Nat) : iot (kap i) = i := by
  unfold iot kap
  repeat' split
  all_goals omega
theorem iot_big {i : Nat} (h : 15 ≤ i) : iot i = i := by
  unfold iot
  repeat' split
  all_goals omega
theorem kap_row {i : Nat} (h : i < 8) : kap (1 + i + 3) = 5 + i := by
  unfold kap
  rw [if_neg (by omega), if_pos (by omega)]
  omega
abbrev TP := Int × Int × Unit
abbrev TS := TP × Int × List Int × Int × Int × Int × Unit
abbrev TM := Int × Int × TP × (Int × Int × Int × Int × Int × Int × Int × Int × Int × Int × Int × ByteArray × Unit) × Unit
def toP (p : TP) : P2 := ⟨p.1, p.2.1⟩
def toW (p : TP × TP × Int × Unit) : Wl := ⟨p.1.1, p.1.2.1, p.2.1.1, p.2.1.2.1, p.2.2.1⟩
def toS (p : TS) : Sr := ⟨p.1.1, p.1.2.1, p.2.1, p.2.2.1, p.2.2.2.1, p.2.2.2.2.1, p.2.2.2.2.2.1⟩
def toF (p : Int × Int × Int × Int × Int × Int × Unit) : Fd := ⟨p.1, p.2.1, p.2.2.1, p.2.2.2.1, p.2.2.2.2.1, p.2.2.2.2.2.1⟩
def toM (p : TM) : Sn := ⟨p.1, p.2.1, p.2.2.1.1, p.2.2.1.2.1, p.2.2.2.1.1, p.2.2.2.1.2.1, p.2.2.2.1.2.2.1, p.2.2.2.1.2.2.2.1, p.2.2.2.1.2.2.2.2.1, p.2.2.2.1.2.2.2.2.2.1, p.2.2.2.1.2.2.2.2.2.2.1, p.2.2.2.1.2.2.2.2.2.2.2.1, p.2.2.2.1.2.2.2.2.2.2.2.2.1, p.2.2.2.1.2.2.2.2.2.2.2.2.2.1, p.2.2.2.1.2.2.2.2.2.2.2.2.2.2.1, p.2.2.2.1.2.2.2.2.2.2.2.2.2.2.2.1⟩
def rowF (p : TS) (κ : Nat → Nat) : List Value := srC (κ 0 - 5) (toS p)
theorem rows_srcs (l : List TS) (hl : l.length ≤ 8) (f : TS → (Nat → Nat) → List Value) (hf : ∀ p κ, f p κ = [.int .i64 p.1.1, .int .i64 p.1.2.1, .int .i64 p.2.1, chV (κ 0) p.2.2.1, .int .i64 p.2.2.2.1, .int .i64 p.2.2.2.2.1, .int .i64 p.2.2.2.2.2.1]) (κ : Nat → Nat) (hκ : ∀ i, i < 8 → κ (1 + i) = 5 + i) : rowsK f l κ = srcs (l.map toS) := by
  unfold rowsK srcs
  rw [if_pos hl, List.zipIdx_map, flat_map]
  refine flat_congr fun p hp => ?_
  have h2 := List.snd_lt_of_mem_zipIdx hp
  rw [hf, hκ _ (by omega)]
  rfl
theorem row_chB (l : List TS) (g : TS → (Nat → Nat) → List (List Value)) (hg : ∀ p κ, g p κ = [p.2.2.1.map (Value.int .i64)]) (κ : Nat → Nat) (i : Nat) : chB (l.map toS) i = some ⟨rowK g l κ i, false, 1⟩ := by
  unfold chB rowK
  rw [List.getElem?_map]
  cases l[i]? with
  | none => rfl
  | some p =>
    show _ = some (Blk.mk ((g p _).headD []) false 1)
    rw [hg]
    rfl
namespace topSuperposition
theorem own : ownKnob Tryz.prog.godebug = none := by kernel_rfl
set_option maxRecDepth 100000 in
theorem lifted (os : Os) (started : os.Started) (H : Type) (enc : TypeId × Value → H) :
    ReturnsInHanded {} Tryz.checked os 3 .any (Rows.topSuperpositionSpec.pre6 enc Tryz.prog Tryz.f3 Rows.topSuperpositionRow.domain false) (Rows.topSuperpositionSpec.post enc Tryz.prog Tryz.f3 false true false false) := by
  refine returnsInHanded_of_change_sized (C := Tryz.checked) own started (by kernel_rfl) Tryz.func3
    (ChangeSpec.witness6 (enc := enc) (C := Tryz.checked) false ⟨#[], #[.agg #[.slice none 0 0, .slice none 0 0, .slice none 0 0, .int .i64 0, .int .i64 0, .int .i64 0, .slice none 0 0, .slice none 0 0, .int .i64 0, .int .i64 0, .int .i64 0, .slice none 0 0], .slice none 0 0, .agg #[.int .i64 0, .int .i64 0]], []⟩ 8 (by kernel_rfl) (by kernel_rfl) (by kernel_rfl) (by kernel_rfl)) ?_
  intro W base args ds gs before hval0 hW _ hsz _
  obtain ⟨p, q, hA0, hV, hbf, hfz, hnd⟩ := id hW
  have hA : DataW.TrodAll enc Tryz.prog W 0 (fun _ => true) true [34, 35, 36] args.toList ds p := hA0
  have k0 := rkA_nil (P := Tryz.prog)
  have k1 := rkA_agg (P := Tryz.prog) (t := 36) k0
  have k2 := rkA_cell (P := Tryz.prog) (t := 35) k1
  have i41 : Rk Tryz.prog 41 false _ _ _ _ _ := inferInstance
  have i27 := rk_rows (P := Tryz.prog) (t := 27) (e := 41) (h0 := i41) (he := ⟨rfl⟩)
  have i26 : Rk Tryz.prog 26 true _ _ _ _ _ := inferInstance
  have i28 : Rk Tryz.prog 28 true _ _ _ _ _ := inferInstance
  have i30 : Rk Tryz.prog 30 true _ _ _ _ _ := inferInstance
  have i32 : Rk Tryz.prog 32 true _ _ _ _ _ := inferInstance
  have i34 : Rk Tryz.prog 34 true _ _ _ _ _ := inferInstance
  have k3 := rkA_agg (P := Tryz.prog) (t := 34) (h1 := i34) k2
  have hln := k3.len
  obtain ⟨⟨⟨⟨aN, aP, aL, ex, no, th, _⟩, ⟨aS, aF, _⟩, ⟨ve, fi, un, aC, _⟩, _⟩, aM, aI, _⟩, hR, ls, hl, hv⟩ := RkA.rd (P := Tryz.prog) hA fun j t v h1 h2 => hval0 j t v (by rw [← Array.getElem?_toList]; exact h1) (by rw [← Array.getElem?_toList]; exact h2)
  have hI : aI.length = 2 := hR.2.2.1.1
  clear hR
  obtain ⟨slot, si, rfl⟩ : ∃ x y, aI = [x, y] := by
    match aI, hI with
    | [x, y], _ => exact ⟨x, y, rfl⟩
  have hl : ls.length = 15 := hl
  have hbs := (hln ⟨⟨⟨aN, aP, aL, ex, no, th, ()⟩, ⟨aS, aF, ()⟩, ⟨ve, fi, un, aC, ()⟩, ()⟩, aM, [slot, si], ()⟩ kap).trans hl.symm
  have hv := hv kap
  clear k0 k1 k2 k3 i41 i27 i26 i28 i30 i32 i34 hln
  have hcall : Calls Tryz.prog 3 args.toList.toArray W fun e w' => e = .returned (.bool true) ∧ Below W.heap.size W w' := by
    by_cases hb : 8 < aM.length ∨ 8 < aN.length ∨ 8 < aL.length ∨ 8 < aS.length ∨ 8 < aF.length ∨ 20 < aC.length ∨ si < 0 ∨ (aM.length : Int) ≤ si
    · exact calls_rk ⟨_, law_big aN.length aP.length aL.length aS.length aF.length aC.length aM.length ex no th ve fi un slot si hb⟩ rfl kap iot (fun i _ => iot_kap i) (fun id h => by rw [iot_big h, hl]; exact h) hbs (fun id B h => by have := List.mem_of_getElem? h; simp at this) hv
    · have H := law_super (aN.map toP) aP (aL.map toW) aN.length aP.length aL.length (by simp) rfl (by simp) ex no th (aS.map toS) (aF.map toF) aS.length aF.length (by simp) (by simp) aC aC.length rfl ve fi un (aM.map toM) aM.length (by simp) slot si (by omega) (by omega) (by omega) (by omega) (by omega) (by omega) (by omega)
      refine calls_rk ⟨_, H⟩ rfl kap iot (fun i _ => iot_kap i) (fun id h => by rw [iot_big h, hl]; exact h) hbs (fun id B h => ?_) hv
      clear H hv
      match id, h with
      | 0, h => cases h; exact ⟨rfl, rfl, congrArg some (flat_map toP ptC aN).symm⟩
      | 1, h => cases h; exact ⟨rfl, rfl, congrArg some (flat_one (Value.int .i64) aP)⟩
      | 2, h => cases h; exact ⟨rfl, rfl, congrArg some (flat_map toW wlC aL).symm⟩
      | 3, h => cases h; exact ⟨rfl, rfl, congrArg some (rows_srcs aS (by omega) _ (fun p κ => rfl) _ fun i hi => kap_row hi)⟩
      | 4, h => cases h; exact ⟨rfl, rfl, congrArg some (flat_map toF fdC aF).symm⟩
      | 5, h =>
        have h2 : chB (aS.map toS) 0 = some B := Option.some.inj h
        rw [row_chB aS (fun p _ => [p.2.2.1.flatMap fun n => [.int .i64 n]]) (fun p κ => congrArg (fun x => [x]) (flat_one (Value.int .i64) p.2.2.1)) (fun j => kap (j + 3)) 0] at h2
        cases h2
        exact ⟨rfl, rfl, rfl⟩
      | 6, h =>
        have h2 : chB (aS.map toS) 1 = some B := Option.some.inj h
        rw [row_chB aS (fun p _ => [p.2.2.1.flatMap fun n => [.int .i64 n]]) (fun p κ => congrArg (fun x => [x]) (flat_one (Value.int .i64) p.2.2.1)) (fun j => kap (j + 3)) 1] at h2
        cases h2
        exact ⟨rfl, rfl, rfl⟩
      | 7, h =>
        have h2 : chB (aS.map toS) 2 = some B := Option.some.inj h
        rw [row_chB aS (fun p _ => [p.2.2.1.flatMap fun n => [.int .i64 n]]) (fun p κ => congrArg (fun x => [x]) (flat_one (Value.int .i64) p.2.2.1)) (fun j => kap (j + 3)) 2] at h2
        cases h2
        exact ⟨rfl, rfl, rfl⟩
      | 8, h =>
        have h2 : chB (aS.map toS) 3 = some B := Option.some.inj h
        rw [row_chB aS (fun p _ => [p.2.2.1.flatMap fun n => [.int .i64 n]]) (fun p κ => congrArg (fun x => [x]) (flat_one (Value.int .i64) p.2.2.1)) (fun j => kap (j + 3)) 3] at h2
        cases h2
        exact ⟨rfl, rfl, rfl⟩
      | 9, h =>
        have h2 : chB (aS.map toS) 4 = some B := Option.some.inj h
        rw [row_chB aS (fun p _ => [p.2.2.1.flatMap fun n => [.int .i64 n]]) (fun p κ => congrArg (fun x => [x]) (flat_one (Value.int .i64) p.2.2.1)) (fun j => kap (j + 3)) 4] at h2
        cases h2
        exact ⟨rfl, rfl, rfl⟩
      | 10, h =>
        have h2 : chB (aS.map toS) 5 = some B := Option.some.inj h
        rw [row_chB aS (fun p _ => [p.2.2.1.flatMap fun n => [.int .i64 n]]) (fun p κ => congrArg (fun x => [x]) (flat_one (Value.int .i64) p.2.2.1)) (fun j => kap (j + 3)) 5] at h2
        cases h2
        exact ⟨rfl, rfl, rfl⟩
      | 11, h =>
        have h2 : chB (aS.map toS) 6 = some B := Option.some.inj h
        rw [row_chB aS (fun p _ => [p.2.2.1.flatMap fun n => [.int .i64 n]]) (fun p κ => congrArg (fun x => [x]) (flat_one (Value.int .i64) p.2.2.1)) (fun j => kap (j + 3)) 6] at h2
        cases h2
        exact ⟨rfl, rfl, rfl⟩
      | 12, h =>
        have h2 : chB (aS.map toS) 7 = some B := Option.some.inj h
        rw [row_chB aS (fun p _ => [p.2.2.1.flatMap fun n => [.int .i64 n]]) (fun p κ => congrArg (fun x => [x]) (flat_one (Value.int .i64) p.2.2.1)) (fun j => kap (j + 3)) 7] at h2
        cases h2
        exact ⟨rfl, rfl, rfl⟩
      | 13, h => cases h; exact ⟨rfl, rfl, congrArg some (flat_one (Value.int .i64) aC)⟩
      | 14, h => cases h; exact ⟨rfl, rfl, congrArg some (flat_map toM snC aM).symm⟩
      | id + 15, h => cases h
  obtain ⟨v0, vs0, d0, ds0, p0, q0, x0, rfl, y0, h0, r0⟩ := trodAll_cons hA
  obtain ⟨v1, vs1, d1, ds1, p1, q1, x1, rfl, y1, h1, r1⟩ := trodAll_cons r0
  obtain ⟨v2, vs2, d2, ds2, p2, q2, x2, rfl, y2, h2, r2⟩ := trodAll_cons r1
  obtain ⟨_, rfl, _⟩ := trodAll_nil r2
  exact hcall.mono fun e W' ⟨he, hb⟩ => ⟨_, he, law_post (tb := 4) (by kernel_rfl) (by kernel_rfl) rfl Tryz.underlying4 rfl rfl rfl rfl hW hb⟩
theorem over : Rows.topSuperpositionRow.holds Tryz.pinned (OpenSpec.ofChange Rows.topSuperpositionSpec) :=
  OpenClaim.holds_of_wide 3 Tryz.f3 rfl rfl rfl rfl rfl rfl rfl ⟨rfl, rfl, rfl, rfl, rfl⟩ rfl rfl rfl rfl rfl (by kernel_rfl) Tryz.func3 (by kernel_rfl)
    (of_decide_eq_true (by kernel_rfl)) (by unfold Func.isWrapper; first | (rw [if_pos (by decide +kernel)]; kernel_rfl) | (rw [if_neg (by decide +kernel)]; exact ⟨rfl, rfl⟩))
    (fun os started H enc _ => lifted os started H enc)
theorem proved : Rows.TopSuperpositionSaid := over
#print axioms proved
end topSuperposition
end Go.Proofs.YtdenooeaiicheaaGreat
