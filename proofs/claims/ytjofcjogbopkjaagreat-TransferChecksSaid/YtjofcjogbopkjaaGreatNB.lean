/- A slice that is only read, handed to a function that is walked in the model's own worlds. Image: numbers, written by the library's builder of strings. -/
import Derived.Test.YtjofcjogbopkjaaGreatVL
import Derived.Test.YtjofcjogbopkjaaGreatVK
import Derived.Shelf.Strings.Builder1
import Derived.WalkKit
import Derived.BigCall
import Derived.IntWalk
import Derived.Test.YtjofcjogbopkjaaGreatSH
import Derived.Test.YtjofcjogbopkjaaGreatJ
set_option linter.unusedVariables false
set_option linter.unusedSimpArgs false
namespace Go.Proofs.YtjofcjogbopkjaaGreat
open Go Av
set_option maxRecDepth 20000
/-- Bytes of a number, the highest first: as many as there are. -/
def beL : Nat → Int → List UInt8
  | 0, _ => []
  | k + 1, v => UInt8.ofNat (v / 2 ^ (8 * k) % 256).toNat :: beL k v
def numL : List (Nat × Int) → List UInt8
  | [] => []
  | p :: l => beL p.1 p.2 ++ numL l
theorem beL_len : ∀ (k : Nat) (v : Int), (beL k v).length = k
  | 0, _ => rfl
  | k + 1, v => by simp [beL, beL_len k v]
def pairL (l : List (Nat × Int)) : List Value := l.flatMap fun p => [.int .i64 p.1, .int .i64 p.2]
theorem acalls_slc {P : Program} {f : FuncId} {cells : List Value} {z n : Nat} {rest : List Value} {r : Value} (hz : z ≠ mapZ) (hp : cells.all (plain 3) = true) (hrest : rest.all (plain 6) = true) (hr : plain 6 r = true)
    (h : ∀ (w : World) (ad : Option Addr) (cap : Nat), n ≤ cap → (n ≠ 0 → ∃ b off, ad = some ⟨b, off, none⟩ ∧ ∀ (j : Nat) x, cells[j]? = some x → w.cell? ⟨b, off + j, none⟩ = some x) → Calls P f ((.slice ad n cap :: rest).toArray) w fun e w' => e = .returned r ∧ RowKit.Below w.heap.size w w') :
    ACalls P f (.slice (some ⟨0, 0, none⟩) n n :: rest) [some ⟨cells, false, z⟩] r [none] := by
  constructor
  intro F w0 μ w ys hd hm hl hv
  have hsz : 0 < ys.size := by rw [hl]; simp
  have h0 := hv 0 _ ys[0] rfl (Array.getElem?_eq_getElem hsz)
  obtain ⟨ad, cap, hy, hc, hcell⟩ : ∃ ad cap, ys[0] = .slice ad n cap ∧ n ≤ cap ∧ (n ≠ 0 → ∃ b off, ad = some ⟨b, off, none⟩ ∧ ∀ (j : Nat) x, cells[j]? = some x → w.cell? ⟨b, off + j, none⟩ = some x) := by
    generalize ys[0] = y at h0
    cases h0 with
    | slc hL hc hb ho hrw =>
      rename_i cap b off L
      refine ⟨_, _, rfl, hc, fun hn => ⟨b, off, rfl, fun j x hx => ?_⟩⟩
      obtain ⟨y, k1, k2⟩ := hm.cells (id := 0) rfl hz hL j x hx
      rw [hb (.inl hn), ho hn, Nat.add_zero, k1]
      exact congrArg some (plain_eq 3 x y (List.all_eq_true.1 hp x (List.mem_of_getElem? hx)) k2)
    | slcNil => exact ⟨_, _, rfl, Nat.le_refl _, fun h => absurd rfl h⟩
  have e : ys = ((.slice ad n cap :: rest).toArray) := by
    apply Array.ext (by simpa using hl)
    intro i h1 h2
    cases i with
    | zero => rw [hy]; rfl
    | succ i =>
      have hi : i < rest.length := by simpa using h2
      have hx : (Value.slice (some ⟨0, 0, none⟩) n n :: rest)[i + 1]? = some rest[i] := by
        rw [List.getElem?_cons_succ]; exact List.getElem?_eq_getElem (by simpa using h2)
      have := plain_eq 6 rest[i] ys[i + 1] (List.all_eq_true.1 hrest _ (List.getElem_mem _)) (hv (i + 1) _ _ hx (Array.getElem?_eq_getElem h1))
      rw [this]; simp
  subst e
  refine (h w ad cap hc hcell).mono fun e w' ⟨he, hb⟩ => ⟨fun i => if i < 1 then μ i else none, r, he, fun i hi => if_pos hi, fun i hi => if_neg (by simp at hi; omega), ?_, plain_refl _ 6 r hr⟩
  have hk := hm.keep hb.os hb.tape hb.output hb.size fun k hk => hb.block k hk
  exact ⟨hk.os, hk.tape, hk.output, hk.size, hk.frame, hk.up, fun i B hB => by cases i <;> simp [live] at hB, fun i j B B' L L' hB => by cases i <;> simp [live] at hB⟩
end Go.Proofs.YtjofcjogbopkjaaGreat
namespace Go.Proofs.YtjofcjogbopkjaaGreat
open Go Go.RowKit Go.Shelf Go.Proofs Av
theorem numL_app : ∀ (l l' : List (Nat × Int)), numL (l ++ l') = numL l ++ numL l'
  | [], _ => rfl
  | p :: l, l' => by simp [numL, numL_app l l']
theorem numL_take {l : List (Nat × Int)} {j : Nat} {p : Nat × Int} (h : l[j]? = some p) : numL (l.take (j + 1)) = numL (l.take j) ++ beL p.1 p.2 := by
  rw [List.take_add_one, h, numL_app]
  simp [numL]
theorem numL_le (l : List (Nat × Int)) (j : Nat) : (numL (l.take j)).length ≤ (numL l).length := by
  have := congrArg (fun x => (numL x).length) (List.take_append_drop j l)
  simp only [numL_app, List.length_append] at this
  omega
theorem pair_at {l : List (Nat × Int)} {j : Nat} {p : Nat × Int} (h : l[j]? = some p) : (pairL l)[2 * j]? = some (.int .i64 p.1) ∧ (pairL l)[2 * j + 1]? = some (.int .i64 p.2) := by
  induction l generalizing j with
  | nil => simp at h
  | cons a l ih =>
    cases j with
    | zero => simp at h; subst h; exact ⟨rfl, rfl⟩
    | succ j =>
      have := ih (j := j) (by simpa using h)
      have e : pairL (a :: l) = .int .i64 a.1 :: .int .i64 a.2 :: pairL l := rfl
      rw [e, show 2 * (j + 1) = 2 * j + 1 + 1 by omega, show 2 * j + 1 + 1 + 1 = (2 * j + 1) + 1 + 1 by omega]
      simpa using this
theorem pair_len (l : List (Nat × Int)) : (pairL l).length = 2 * l.length := by
  induction l with
  | nil => rfl
  | cons a l ih =>
    have e : pairL (a :: l) = .int .i64 a.1 :: .int .i64 a.2 :: pairL l := rfl
    rw [e]; simp [ih]; omega
theorem be_byte (k : Nat) (v : Int) : ((UInt8.ofNat (v / 2 ^ (8 * k) % 256).toNat).toNat : Int) = IntKind.u8.wrap (v / 2 ^ (8 * k)) := by
  have h1 : 0 ≤ v / 2 ^ (8 * k) % 256 := Int.emod_nonneg _ (by omega)
  have h2 : v / 2 ^ (8 * k) % 256 < 256 := Int.emod_lt_of_pos _ (by omega)
  rw [UInt8.toNat_ofNat']
  simp [IntKind.wrap, IntKind.signed, IntKind.bits]
  omega
set_option maxHeartbeats 4000000 in
set_option maxRecDepth 1000000 in
theorem number_any (l : List (Nat × Int)) (hl : ∀ p ∈ l, p.1 ≤ 8) (hlen : (numL l).length ≤ 1000000) (hll : l.length ≤ 1000000) (b off cap : Nat) (w : World) (hc : ∀ (j : Nat) x, (pairL l)[j]? = some x → w.cell? ⟨b, off + j, none⟩ = some x) :
    Calls Tryz.prog 75 #[.slice (some ⟨b, off, none⟩) (2 * l.length) cap] w fun e w' => e = .returned (.string ⟨(numL l).toArray⟩) ∧ RowKit.Below w.heap.size w w' := by
  go_enter Tryz.func75, Tryz.ntmps75
  go_wp2
  go_loopw [4] (fun i wr => ∃ j : Nat, j ≤ l.length ∧ i = .int .i64 (2 * (j : Int)) ∧ Lib.IsBuilder 105 5 w.heap.size w.heap.size (Lib.byteCells (numL (l.take j))) wr ∧ RowKit.Below w.heap.size w wr) (fun i _ => 2 * l.length - (intOf i).toNat)
  case atStart => exact ⟨0, Nat.zero_le _, rfl, Lib.fresh_isBuilder 105 5 w, (RowKit.Below.refl _ w).alloc (Nat.le_refl _) _⟩
  case round =>
    obtain ⟨j, hj, rfl, hI, hbw⟩ := hrel
    by_cases hlt : j < l.length
    · obtain ⟨⟨wd, v⟩, hp⟩ : ∃ p, l[j]? = some p := ⟨_, List.getElem?_eq_getElem hlt⟩
      obtain ⟨p1, p2⟩ := pair_at hp
      have hwd : wd ≤ 8 := hl _ (List.mem_of_getElem? hp)
      have c1 := hc _ _ p1
      have c2 := hc _ _ p2
      have d1 : wr.cell? ⟨b, off + 2 * j, none⟩ = some (.int .i64 wd) := (hbw.cell (World.block_lt_of_cell? _ _ c1)).trans c1
      go_wp2
      go_loopw [5] (fun i wr => ∃ (k : Nat) (acc : List UInt8), k ≤ wd ∧ i = .int .i64 ((k : Int) - 1) ∧ Lib.IsBuilder 105 5 w.heap.size w.heap.size (Lib.byteCells acc) wr ∧ RowKit.Below w.heap.size w wr ∧ acc ++ beL k v = numL (l.take j) ++ beL wd v) (fun i _ => (intOf i + 1).toNat)
      case atStart => exact ⟨wd, _, Nat.le_refl _, rfl, hI, hbw, rfl⟩
      case round =>
        obtain ⟨k, acc, hk, rfl, hI2, hbw2, hacc⟩ := hrel
        have hal : acc.length + k ≤ 1000000 := by
          have e1 := congrArg List.length hacc
          simp only [List.length_append, beL_len] at e1
          have e2 := numL_le l (j + 1)
          rw [numL_take hp, List.length_append, beL_len] at e2
          dsimp only at e2
          omega
        cases k with
        | zero =>
          go_wp2
          go_roundw
          case rel =>
            refine ⟨j + 1, hlt, by simp; omega, ?_, hbw2⟩
            rw [numL_take hp]
            simp only [beL, List.append_nil] at hacc
            rw [← hacc]
            exact hI2
          case measure => simp [intOf]; omega
        | succ k =>
          have d2 : wr.cell? ⟨b, off + (2 * j + 1), none⟩ = some (.int .i64 v) := (hbw2.cell (World.block_lt_of_cell? _ _ c2)).trans c2
          go_wp2_with (go_at_call 93; refine (Tryz.Builder_WriteByte w.heap.size w.heap.size _ (v / 2 ^ (8 * k) % 256) _ hI2 (by rw [Lib.byteCells_length]; omega) hbw2.size).mono ?_)
          rintro e W1 ⟨rfl, h1, b1⟩
          go_wp2
          go_roundw
          case rel =>
            refine ⟨k, acc ++ [UInt8.ofNat (v / 2 ^ (8 * k) % 256).toNat], by omega, by first | rfl | (congr 1; simp), ?_, hbw2.trans b1, ?_⟩
            · rw [Lib.byteCells_append]
              have e := be_byte k v
              have e2 : Lib.byteCells [UInt8.ofNat (v / 2 ^ (8 * k) % 256).toNat] = [.int .u8 (v / 2 ^ (8 * k) % 256)] := by
                simp only [Lib.byteCells, List.map_cons, List.map_nil, e]
                simp [IntKind.wrap, IntKind.signed, IntKind.bits]
              rw [e2]
              exact Or.inr h1
            · rw [← hacc]; simp [beL]
          case measure => simp [intOf]
    · go_wp2_with (go_at_call 87; refine (Tryz.Builder_String_any w.heap.size w.heap.size (numL (l.take j)) _ hI hbw.size).mono ?_)
      rintro e W1 ⟨rfl, b1⟩
      go_wp2
      go_ret
      rw [List.take_of_length_le (by omega)]
      exact ⟨rfl, hbw.trans b1⟩
def numS (l : List (Nat × Int)) : ByteArray := ⟨(numL l).toArray⟩
theorem ac_number (l : List (Nat × Int)) (hl : ∀ p ∈ l, p.1 ≤ 8) (hlen : (numL l).length ≤ 1000000) (hll : l.length ≤ 1000000) (h0 : l ≠ []) (n : Nat) (hn : 2 * l.length = n) (cs : List Value) (hcs : pairL l = cs) (hp : cs.all (plain 3) = true) :
    ACalls Tryz.prog 75 [.slice (some ⟨0, 0, none⟩) n n] [some ⟨cs, false, 1⟩] (.string (numS l)) [none] := by
  refine acalls_slc (by decide) hp rfl rfl fun w ad cap hc h => ?_
  have hl0 : l.length ≠ 0 := by simpa using h0
  obtain ⟨b, off, rfl, hcell⟩ := h (by omega)
  subst hn hcs
  exact number_any l hl hlen hll b off cap w hcell
theorem ac_number2 (a b : Int) : ACalls Tryz.prog 75 [.slice (some ⟨0, 0, none⟩) 4 4] [some ⟨[.int .i64 2, .int .i64 a, .int .i64 2, .int .i64 b], false, 1⟩] (.string (numS [(2, a), (2, b)])) [none] :=
  ac_number [(2, a), (2, b)] (by simp) (by simp [numL, beL_len]) (by simp) (by simp) 4 rfl _ rfl rfl
theorem ac_number4 (a b c d : Int) : ACalls Tryz.prog 75 [.slice (some ⟨0, 0, none⟩) 8 8] [some ⟨[.int .i64 2, .int .i64 a, .int .i64 4, .int .i64 b, .int .i64 2, .int .i64 c, .int .i64 1, .int .i64 d], false, 1⟩] (.string (numS [(2, a), (4, b), (2, c), (1, d)])) [none] :=
  ac_number [(2, a), (4, b), (2, c), (1, d)] (by simp) (by simp [numL, beL_len]) (by simp) (by simp) 8 rfl _ rfl rfl
def joinS (L : List ByteArray) : ByteArray := ⟨(L.flatMap fun s => s.data.toList).toArray⟩
theorem join_nil : ∀ L : List ByteArray, Lib.join (L.map (·.data.toList)) [] = L.flatMap fun s => s.data.toList
  | [] => rfl
  | [x] => by simp [Lib.join_one]
  | x :: y :: L => by
    have := join_nil (y :: L)
    simp only [List.map_cons, List.flatMap_cons] at this ⊢
    rw [← this]
    simp [Lib.join]
theorem ac_join (L : List ByteArray) (n : Nat) (hn : L.length = n) (hlen : (L.flatMap fun s => s.data.toList).length ≤ 1000000) (hb : n ≤ 1000000) :
    ACalls Tryz.prog 64 [.slice (some ⟨0, 0, none⟩) n n, .string ⟨#[]⟩] [some ⟨List.map Value.string L, false, 1⟩] (.string (joinS L)) [none] := by
  subst hn
  refine acalls_slc (by decide) (by simp [plain]) rfl rfl fun w ad cap hc h => ?_
  rw [joinS, ← join_nil]
  by_cases h0 : L.length = 0
  · have : L = [] := by simpa using h0
    subst this
    exact (Tryz.strings_Join_none ad cap ⟨#[]⟩ w).mono fun e w' ⟨he, hw⟩ => ⟨he, hw ▸ RowKit.Below.refl _ _⟩
  · obtain ⟨b, off, rfl, hcell⟩ := h h0
    refine Tryz.strings_Join b off cap L ⟨#[]⟩ w (fun j x hx => hcell j _ (by simp [hx])) ?_ (by omega) hc (by show (Lib.join _ []).length ≤ _; rw [join_nil]; omega)
    have := hcell 0 _ (by rw [List.getElem?_map, List.getElem?_eq_getElem (show 0 < L.length by omega)]; rfl)
    exact World.block_lt_of_cell? _ _ this
theorem ac_iclone (s : ByteArray) (h : s.size ≤ 1000000) : ACalls Tryz.prog 79 [.string s] [] (.string s) [] := acalls_of rfl rfl fun w => Tryz.stringslite_Clone s w (by omega)
theorem ac_clone (s : ByteArray) (h : s.size ≤ 1000000) : ACalls Tryz.prog 60 [.string s] [] (.string s) [] := by
  have H := ac_iclone s h
  refine acalls_pure Tryz.func60 rfl rfl rfl ?_
  repeat' first | refine st ?_ | refine st_call (H) ?_ | refine run_nil ?_ | refine Jz ?_ | refine Jw ?_ | refine aw_ret ?_ | refine pp_ret ?_
  all_goals rfl
end Go.Proofs.YtjofcjogbopkjaaGreat
