/- A slice that is only read, handed to a function that is walked in the model's own worlds. -/
import Derived.Test.YtpofbjmmlommoaaVK
set_option linter.unusedVariables false
set_option linter.unusedSimpArgs false
namespace Go.Proofs.Ytpofbjmmlommoaa
open Go Av
set_option maxRecDepth 20000
/-- Bytes of a number, the highest first: as many as there are. -/
def beL : Nat → Int → List UInt8
  | 0, _ => []
  | k + 1, v => UInt8.ofNat (v / 2 ^ (8 * k) % 256).toNat :: beL k v
def numL : List (Nat × Int) → List UInt8
  | [] => []
  | p :: l => beL p.1 p.2 ++ numL l
theorem beL_len : ∀ (k : Nat) (v : Int), (beL k v).length = k
  | 0, _ => rfl
  | k + 1, v => by simp [beL, beL_len k v]
def pairL (l : List (Nat × Int)) : List Value := l.flatMap fun p => [.int .i64 p.1, .int .i64 p.2]
theorem acalls_slc {P : Program} {f : FuncId} {cells : List Value} {z n : Nat} {rest : List Value} {r : Value} (hz : z ≠ mapZ) (hp : cells.all (plain 3) = true) (hrest : rest.all (plain 6) = true) (hr : plain 6 r = true)
    (h : ∀ (w : World) (ad : Option Addr) (cap : Nat), n ≤ cap → (n ≠ 0 → ∃ b off, ad = some ⟨b, off, none⟩ ∧ ∀ (j : Nat) x, cells[j]? = some x → w.cell? ⟨b, off + j, none⟩ = some x) → Calls P f ((.slice ad n cap :: rest).toArray) w fun e w' => e = .returned r ∧ RowKit.Below w.heap.size w w') :
    ACalls P f (.slice (some ⟨0, 0, none⟩) n n :: rest) [some ⟨cells, false, z⟩] r [none] := by
  constructor
  intro F w0 μ w ys hd hm hl hv
  have hsz : 0 < ys.size := by rw [hl]; simp
  have h0 := hv 0 _ ys[0] rfl (Array.getElem?_eq_getElem hsz)
  obtain ⟨ad, cap, hy, hc, hcell⟩ : ∃ ad cap, ys[0] = .slice ad n cap ∧ n ≤ cap ∧ (n ≠ 0 → ∃ b off, ad = some ⟨b, off, none⟩ ∧ ∀ (j : Nat) x, cells[j]? = some x → w.cell? ⟨b, off + j, none⟩ = some x) := by
    generalize ys[0] = y at h0
    cases h0 with
    | slc hL hc hb ho hrw =>
      rename_i cap b off L
      refine ⟨_, _, rfl, hc, fun hn => ⟨b, off, rfl, fun j x hx => ?_⟩⟩
      obtain ⟨y, k1, k2⟩ := hm.cells (id := 0) rfl hz hL j x hx
      rw [hb (.inl hn), ho hn, Nat.add_zero, k1]
      exact congrArg some (plain_eq 3 x y (List.all_eq_true.1 hp x (List.mem_of_getElem? hx)) k2)
    | slcNil => exact ⟨_, _, rfl, Nat.le_refl _, fun h => absurd rfl h⟩
  have e : ys = ((.slice ad n cap :: rest).toArray) := by
    apply Array.ext (by simpa using hl)
    intro i h1 h2
    cases i with
    | zero => rw [hy]; rfl
    | succ i =>
      have hi : i < rest.length := by simpa using h2
      have hx : (Value.slice (some ⟨0, 0, none⟩) n n :: rest)[i + 1]? = some rest[i] := by
        rw [List.getElem?_cons_succ]; exact List.getElem?_eq_getElem (by simpa using h2)
      have := plain_eq 6 rest[i] ys[i + 1] (List.all_eq_true.1 hrest _ (List.getElem_mem _)) (hv (i + 1) _ _ hx (Array.getElem?_eq_getElem h1))
      rw [this]; simp
  subst e
  refine (h w ad cap hc hcell).mono fun e w' ⟨he, hb⟩ => ⟨fun i => if i < 1 then μ i else none, r, he, fun i hi => if_pos hi, fun i hi => if_neg (by simp at hi; omega), ?_, plain_refl _ 6 r hr⟩
  have hk := hm.keep hb.os hb.tape hb.output hb.size fun k hk => hb.block k hk
  exact ⟨hk.os, hk.tape, hk.output, hk.size, hk.frame, hk.up, fun i B hB => by cases i <;> simp [live] at hB, fun i j B B' L L' hB => by cases i <;> simp [live] at hB⟩
end Go.Proofs.Ytpofbjmmlommoaa
