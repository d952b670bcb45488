/- JoinPlays: plain; what is called. -/
import Derived.Test.YtdbcbclapipgdaaGreatDoorRC
set_option linter.unusedVariables false
set_option linter.unusedSimpArgs false
namespace Go.Proofs.YtdbcbclapipgdaaGreatDoor
open Go Av
set_option maxRecDepth 20000
/-- What follows, of two pieces of code; the first ones first. -/
def cdsOf : Code → List Code
  | .seq a b => b :: (cdsOf a ++ cdsOf b)
  | .cond _ a b => cdsOf a ++ cdsOf b
  | .block _ c => cdsOf c
  | .loop c => cdsOf c
  | _ => []
def cdAt (f : Func) (k : Nat) : Code := match f.body with
  | some c => (cdsOf c).getD k .skip
  | none => .skip
theorem ok_conv_rune {P : Program} {ρ : Operand → Option Value} {m : Mem} {d : Option Tmp} {t : TypeId} {pp : String} {af : Array Edge} {g : Option (Nat × Bool)} {src dst : TypeId} {x : Operand} {k k0 : IntKind} {n : Int} {S : ByteArray} [Ty P src (.int k0)] [Ty P dst .string] (hx : ρ x = some (.int k n)) (h : Utf8.encode n = S) : OpOK P ⟨d, .convert src dst x, t, pp, af, g⟩ ρ m (.string S) m := .val fun _ _ _ a w _ _ ho => by
  have hb := (ho x _ (by simp [Op.operands]) hx).int'
  subst h
  exact ⟨_, by simp [execOp, hb, convert, run_und (Ty.eq (P := P) (t := src)), run_und (Ty.eq (P := P) (t := dst)), Conv.intToString], .string _⟩
theorem mbC_snoc {L : List Mb} {m : Mb} : L.flatMap mbC ++ mbC m = (L ++ [m]).flatMap mbC := by
  rw [List.flatMap_append]; simp
theorem mbC_lenL (L : List Mb) : (L.flatMap mbC).length = L.length * 4 := flat_len L fun _ _ => rfl
theorem take_all {α : Type} {l : List α} {k : Nat} (h : l.length = k) : (l.drop 0).take k = l := by rw [List.drop_zero, List.take_of_length_le (by omega)]
/-- The other members. -/
def plS (i : Nat) : ByteArray := ⟨#[UInt8.ofNat (97 + i)]⟩
def plN (i : Nat) : ByteArray := ⟨#[97, UInt8.ofNat (97 + i)]⟩
def plL (k : Nat) : List Mb := (List.range k).map fun i => ⟨plN i, ⟨#[120]⟩, 1 + 2 * (i : Int), 1⟩
theorem plL_succ (k : Nat) : plL (k + 1) = plL k ++ [⟨plN k, ⟨#[120]⟩, 1 + 2 * (k : Int), 1⟩] := by simp [plL, List.range_succ]
theorem plL_len (k : Nat) : (plL k).length = k := by simp [plL]
theorem pl_enc : ∀ {i : Nat}, i ≤ 3 → Utf8.encode (97 + (i : Int)) = plS i
  | 0, _ => rfl
  | 1, _ => rfl
  | 2, _ => rfl
  | 3, _ => rfl
  | i + 4, h => absurd h (by omega)
theorem pl_cat (i : Nat) : (⟨#[97]⟩ : ByteArray) ++ plS i = plN i := rfl
def plP (k : Nat) : List Mb := plL k ++ [⟨⟨#[112, 117, 109, 112]⟩, ⟨#[115]⟩, -1, 0⟩]
theorem pl_mm0 : mmB (plP 0) = true := by kernel_rfl
theorem pl_mm1 : mmB (plP 1) = true := by kernel_rfl
theorem pl_mm2 : mmB (plP 2) = true := by kernel_rfl
theorem pl_mm3 : mmB (plP 3) = true := by kernel_rfl
theorem pl_mm4 : mmB (plP 4) = true := by kernel_rfl
theorem pl_mm : ∀ {k : Nat}, k ≤ 4 → mmB (plP k) = true
  | 0, _ => pl_mm0
  | 1, _ => pl_mm1
  | 2, _ => pl_mm2
  | 3, _ => pl_mm3
  | 4, _ => pl_mm4
  | k + 5, h => absurd h (by omega)
theorem plP_len (k : Nat) : (plP k).length = k + 1 := by simp [plP, plL_len]
theorem plP_at (k : Nat) : (plP k)[k]? = some ⟨⟨#[112, 117, 109, 112]⟩, ⟨#[115]⟩, -1, 0⟩ := by
  unfold plP
  rw [List.getElem?_append_right (by rw [plL_len]; omega), plL_len]
  simp
theorem pl_chS (no : Int) (h : 0 ≤ no ∧ no ≤ 2147483647) : chJ ⟨#[112, 117, 109, 112]⟩ ⟨#[115]⟩ 0 (-1) 0 (-1) no 0 0 = true := pu_ch _ _ _ _ _ _ _ (by
  unfold stB
  rw [if_pos rfl, decide_eq_true (by omega), decide_eq_true (by omega)]
  rfl)
theorem pl_chR (no tr si : Int) (h : 0 ≤ no ∧ no ≤ 2147483647) (ht : 0 ≤ tr ∧ tr ≤ 3) (hs : 0 ≤ si ∧ si ≤ 1000) : chJ ⟨#[112, 117, 109, 112]⟩ ⟨#[115]⟩ 1 3 1 (-1) no tr si = true := pu_ch _ _ _ _ _ _ _ (by
  unfold stB
  rw [if_neg (by omega), if_pos rfl, decide_eq_true (by omega), decide_eq_true (by omega)]
  rfl)
theorem pl_chA (no tr si : Int) (h : 1 ≤ no ∧ no ≤ 2147483647) (ht : 1 ≤ tr ∧ tr ≤ 4) (hs : 0 ≤ si ∧ si ≤ 1000) : chJ ⟨#[112, 117, 109, 112]⟩ ⟨#[115]⟩ 2 3 1 (-1) no tr si = true := pu_ch _ _ _ _ _ _ _ (by
  unfold stB
  rw [if_neg (by omega), if_neg (by omega), if_pos rfl, decide_eq_true (by omega), decide_eq_true (by omega)]
  rfl)
theorem pl_chD (d no tr si : Int) (h : 1 ≤ no ∧ no ≤ 2147483647) (hd : 1 ≤ d ∧ d ≤ 31) (ht : 1 ≤ tr ∧ tr ≤ 4) (hs : 0 ≤ si ∧ si ≤ 1000) : chJ ⟨#[112, 117, 109, 112]⟩ ⟨#[115]⟩ 3 3 1 d no tr si = true := pu_ch _ _ _ _ _ _ _ (by
  unfold stB
  rw [if_neg (by omega), if_neg (by omega), if_neg (by omega), if_pos rfl, decide_eq_true (by omega), decide_eq_true (by omega)]
  rfl)
/-- Hear: a frame that is none, and the open beacon. -/
theorem pl_hr : hrB [⟨0, 0, 0, 0, 0, 0, 0, 0, 0, 0, 0, ⟨#[]⟩⟩, ⟨3, 3, -1, 0, 0, 0, 0, 0, 0, 9, 1, opD⟩] 2 = 1 := by
  have h0 : opF ⟨0, 0, 0, 0, 0, 0, 0, 0, 0, 0, 0, ⟨#[]⟩⟩ = false := by kernel_rfl
  have h1 : hrB [⟨0, 0, 0, 0, 0, 0, 0, 0, 0, 0, 0, ⟨#[]⟩⟩, ⟨3, 3, -1, 0, 0, 0, 0, 0, 0, 9, 1, opD⟩] 1 = hrB [⟨0, 0, 0, 0, 0, 0, 0, 0, 0, 0, 0, ⟨#[]⟩⟩, ⟨3, 3, -1, 0, 0, 0, 0, 0, 0, 9, 1, opD⟩] 0 := hrB_no (i := 0) (f := ⟨0, 0, 0, 0, 0, 0, 0, 0, 0, 0, 0, ⟨#[]⟩⟩) rfl h0
  exact hrB_first (i := 1) (f := ⟨3, 3, -1, 0, 0, 0, 0, 0, 0, 9, 1, opD⟩) rfl op_op (by rw [h1]; decide)
theorem pl_hear (no : Int) (h : 0 ≤ no ∧ no ≤ 1000) : ACalls Tryz.prog 33 [.agg #[.string ⟨#[112, 117, 109, 112]⟩, .string ⟨#[115]⟩, .int .i64 0, .int .i64 (-1), .int .i64 0, .int .i64 (-1), .int .i64 no, .int .i64 0, .int .i64 0], .slice (some ⟨0, 0, none⟩) 2 2] [some ⟨[.int .i64 0, .int .i64 0, .int .i64 0, .int .i64 0, .int .i64 0, .int .i64 0, .int .i64 0, .int .i64 0, .int .i64 0, .int .i64 0, .int .i64 0, .string ⟨#[]⟩] ++ [.int .i64 3, .int .i64 3, .int .i64 (-1), .int .i64 0, .int .i64 0, .int .i64 0, .int .i64 0, .int .i64 0, .int .i64 0, .int .i64 9, .int .i64 1, .string opD], false, 12⟩] (.tuple #[.agg #[.string ⟨#[112, 117, 109, 112]⟩, .string ⟨#[115]⟩, .int .i64 1, .int .i64 3, .int .i64 1, .int .i64 (-1), .int .i64 no, .int .i64 0, .int .i64 0], .int .i64 0]) [none] := ac_jHear ⟨#[112, 117, 109, 112]⟩ ⟨#[115]⟩ 0 (-1) 0 (-1) no 0 0 [⟨0, 0, 0, 0, 0, 0, 0, 0, 0, 0, 0, ⟨#[]⟩⟩, ⟨3, 3, -1, 0, 0, 0, 0, 0, 0, 9, 1, opD⟩] 2 rfl (by decide) (fun f hf => by
    simp only [List.mem_cons, List.mem_nil_iff, or_false] at hf
    rcases hf with rfl | rfl
    · decide
    · exact opD_size) 0 (by rw [pl_chS no (by omega), pl_hr]; rfl) 3 1 (fun f hf => by
    rw [pl_hr] at hf
    cases hf
    exact ⟨rfl, rfl⟩)
theorem pl_req (no tr si i : Int) (h : 0 ≤ no ∧ no ≤ 1000) (ht : 0 ≤ tr ∧ tr ≤ 3) (hs : 0 ≤ si ∧ si ≤ 1000) (hi : 0 ≤ i ∧ i ≤ 1000) : ACalls Tryz.prog 14 [.agg #[.string ⟨#[112, 117, 109, 112]⟩, .string ⟨#[115]⟩, .int .i64 1, .int .i64 3, .int .i64 1, .int .i64 (-1), .int .i64 no, .int .i64 tr, .int .i64 si], .int .i64 i] [] (.tuple #[.agg #[.string ⟨#[112, 117, 109, 112]⟩, .string ⟨#[115]⟩, .int .i64 2, .int .i64 3, .int .i64 1, .int .i64 (-1), .int .i64 (no + 1), .int .i64 (tr + 1), .int .i64 i], .agg #[.string ⟨#[112, 117, 109, 112]⟩, .int .i64 (no + 1), .string (acS ⟨#[115]⟩ ⟨#[112, 117, 109, 112]⟩ (no + 1))], .int .i64 0]) [] := ac_jReq1 ⟨#[112, 117, 109, 112]⟩ ⟨#[115]⟩ 1 3 1 (-1) no tr si i (pl_chR no tr si (by omega) ht hs) (by omega) rfl (by omega)
theorem pl_wait2 (no tr i : Int) (h : 0 ≤ no ∧ no ≤ 1000) (ht : 0 ≤ tr ∧ tr ≤ 2) (hi : 0 ≤ i ∧ i ≤ 1000) : ACalls Tryz.prog 35 [.agg #[.string ⟨#[112, 117, 109, 112]⟩, .string ⟨#[115]⟩, .int .i64 2, .int .i64 3, .int .i64 1, .int .i64 (-1), .int .i64 (no + 1), .int .i64 (tr + 1), .int .i64 i], .int .i64 (i + 3), .int .i64 3] [] (.tuple #[.agg #[.string ⟨#[112, 117, 109, 112]⟩, .string ⟨#[115]⟩, .int .i64 1, .int .i64 3, .int .i64 1, .int .i64 (-1), .int .i64 (no + 1), .int .i64 (tr + 1), .int .i64 i], .bool true]) [] := ac_jWait2 ⟨#[112, 117, 109, 112]⟩ ⟨#[115]⟩ 2 3 1 (-1) (no + 1) (tr + 1) i (i + 3) 3 (by omega) (by rw [pl_chA (no + 1) (tr + 1) i (by omega) (by omega) hi, decide_eq_true (by omega)]; rfl) (by omega)
theorem pl_wait1 (no i : Int) (h : 0 ≤ no ∧ no ≤ 1000) (hi : 0 ≤ i ∧ i ≤ 1000) : ACalls Tryz.prog 35 [.agg #[.string ⟨#[112, 117, 109, 112]⟩, .string ⟨#[115]⟩, .int .i64 2, .int .i64 3, .int .i64 1, .int .i64 (-1), .int .i64 (no + 1), .int .i64 (3 + 1), .int .i64 i], .int .i64 (i + 3), .int .i64 3] [] (.tuple #[.agg #[.string ⟨#[112, 117, 109, 112]⟩, .string ⟨#[115]⟩, .int .i64 0, .int .i64 (-1), .int .i64 0, .int .i64 (-1), .int .i64 (no + 1), .int .i64 0, .int .i64 0], .bool true]) [] := ac_jWait1 ⟨#[112, 117, 109, 112]⟩ ⟨#[115]⟩ 2 3 1 (-1) (no + 1) (3 + 1) i (i + 3) 3 (by omega) (by rw [pl_chA (no + 1) (3 + 1) i (by omega) (by omega) hi, decide_eq_true (by omega)]; rfl) rfl
theorem pl_take (no tr i d : Int) (h : 0 ≤ no ∧ no ≤ 1000) (ht : 0 ≤ tr ∧ tr ≤ 3) (hi : 0 ≤ i ∧ i ≤ 1000) (hd : 1 ≤ d ∧ d ≤ 31) : ACalls Tryz.prog 16 [.agg #[.string ⟨#[112, 117, 109, 112]⟩, .string ⟨#[115]⟩, .int .i64 2, .int .i64 3, .int .i64 1, .int .i64 (-1), .int .i64 (no + 1), .int .i64 (tr + 1), .int .i64 i], .agg #[.string ⟨#[112, 117, 109, 112]⟩, .int .i64 (no + 1), .int .i64 d, .string (nsS ⟨#[115]⟩ ⟨#[112, 117, 109, 112]⟩ (no + 1) d)]] [] (.tuple #[.agg #[.string ⟨#[112, 117, 109, 112]⟩, .string ⟨#[115]⟩, .int .i64 3, .int .i64 3, .int .i64 1, .int .i64 d, .int .i64 (no + 1), .int .i64 (tr + 1), .int .i64 i], .int .i64 0]) [] := ac_jTake0 ⟨#[112, 117, 109, 112]⟩ ⟨#[115]⟩ 2 3 1 (-1) (no + 1) (tr + 1) i ⟨#[112, 117, 109, 112]⟩ (no + 1) d (nsS ⟨#[115]⟩ ⟨#[112, 117, 109, 112]⟩ (no + 1) d) 0 (by
    have ha : anB ⟨#[112, 117, 109, 112]⟩ (no + 1) d (nsS ⟨#[115]⟩ ⟨#[112, 117, 109, 112]⟩ (no + 1) d) = true := by
      unfold anB akB
      rw [pu_nm, decide_eq_true ⟨by omega, nsS_size _ _ _ _⟩, decide_eq_true hd]
      rfl
    rw [pl_chA (no + 1) (tr + 1) i (by omega) (by omega) hi, ha]
    simp)
theorem pl_check (no tr i d : Int) (h : 0 ≤ no ∧ no ≤ 1000) (ht : 0 ≤ tr ∧ tr ≤ 3) (hi : 0 ≤ i ∧ i ≤ 1000) (hd : 1 ≤ d ∧ d ≤ 31) : ACalls Tryz.prog 37 [.agg #[.string ⟨#[112, 117, 109, 112]⟩, .string ⟨#[115]⟩, .int .i64 3, .int .i64 3, .int .i64 1, .int .i64 d, .int .i64 (no + 1), .int .i64 (tr + 1), .int .i64 i]] [] (.int .i64 0) [] := ac_jCheck ⟨#[112, 117, 109, 112]⟩ ⟨#[115]⟩ 3 3 1 d (no + 1) (tr + 1) i true (pl_chD d (no + 1) (tr + 1) i (by omega) hd (by omega) hi)
structure Pl where
  i : Nat
  no : Int
  sj : Int
  pa : Int
  ep : Int
  tr : Int
  si : Int
  L : List Mb
/-- What holds of the members throughout. -/
def plM (L : List Mb) (k : Nat) (no : Int) : Prop := mmB L = true ∧ L.length = k + 1 ∧ ∃ nd nq : Int, L[k]? = some ⟨⟨#[112, 117, 109, 112]⟩, ⟨#[115]⟩, nd, nq⟩ ∧ nq ≤ no
def plJ (y : Pl) : Prop := (y.sj = 0 ∧ y.pa = -1 ∧ y.ep = 0 ∧ y.tr = 0 ∧ y.si = 0) ∨ (y.sj = 1 ∧ y.pa = 3 ∧ y.ep = 1 ∧ (0 ≤ y.tr ∧ y.tr ≤ 3) ∧ (0 ≤ y.si ∧ y.si ≤ 1000))
end Go.Proofs.YtdbcbclapipgdaaGreatDoor
