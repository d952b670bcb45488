/- Walking in numbers of one's own: the library, part A. -/
import Derived.Orders
import Derived.Tactics
import Derived.Below
import Derived.Laws.Sem
import Derived.CallsIn
import Derived.OrdersIn
import Derived.TacticsIn
import Derived.RangeFuncLeaves
import Derived.RangeFuncNested
import Derived.Laws.Append
import Derived.Laws.IdiomCopy
set_option linter.unusedVariables false
set_option linter.unusedSimpArgs false
/- Walking in numbers of one's own: a state is a list of slots and a list of blocks; what is there of memory is found again by a map of numbers. The words, and what keeps. -/
namespace Go.Proofs.YtdenooeaiicheaaGreat.Av
open Go.RowKit (Below)
mutual
def ren (f : Nat → Nat) : Value → Value
  | .pointer (some a) => .pointer (some { a with block := f a.block })
  | .slice (some a) n c => .slice (some { a with block := f a.block }) n c
  | .map (some r) => .map (some (f r))
  | .func fn x y => .func fn (renA f x) (renA f y)
  | .iface t v => .iface t (ren f v)
  | .agg x => .agg (renA f x)
  | .tuple x => .tuple (renA f x)
  | v => v
def renA (f : Nat → Nat) : Array Value → Array Value
  | ⟨l⟩ => ⟨renL f l⟩
def renL (f : Nat → Nat) : List Value → List Value
  | [] => []
  | v :: l => ren f v :: renL f l
end
theorem renL_eq (f l) : renL f l = l.map (ren f) := by induction l <;> simp [renL, *]
theorem renA_eq (f x) : renA f x = x.map (ren f) := by cases x; simp [renA, renL_eq]
/-- Where a block of one's own numbering lies: the block, its first cell, the block's size, an element's size, may it be written. -/
structure Loc where
  b : Nat
  o : Nat
  N : Nat
  z : Nat
  rw : Bool
abbrev Mu := Nat → Option Loc
inductive VR (μ : Mu) : Value → Value → Prop
  | bool (b : Bool) : VR μ (.bool b) (.bool b)
  | int (k : IntKind) (n : Int) : VR μ (.int k n) (.int k n)
  | string (s : ByteArray) : VR μ (.string s) (.string s)
  | pnil : VR μ (.pointer none) (.pointer none)
  | ptr {id o : Nat} {L : Loc} : μ id = some L → VR μ (.pointer (some ⟨id, o, none⟩)) (.pointer (some ⟨L.b, L.o + o, none⟩))
  | snil : VR μ (.slice none 0 0) (.slice none 0 0)
  | slc {id o n c cap b off : Nat} {L : Loc} : μ id = some L → n ≤ cap → (n ≠ 0 ∨ L.rw = true → b = L.b) → (n ≠ 0 → off = L.o + o) → (L.rw = true → off + cap * L.z ≤ L.N) →
      VR μ (.slice (some ⟨id, o, none⟩) n c) (.slice (some ⟨b, off, none⟩) n cap)
  | slcNil {id o c : Nat} : VR μ (.slice (some ⟨id, o, none⟩) 0 c) (.slice none 0 0)
  | slcLit {id b : Nat} : VR μ (.slice (some ⟨id, 0, some 0⟩) 0 0) (.slice (some ⟨b, 0, none⟩) 0 0)
  | slcOdd {id cap : Nat} {a : Option Addr} : VR μ (.slice (some ⟨id, 0, some 1⟩) 0 0) (.slice a 0 cap)
  | slcCap {id o n c cap b off : Nat} {L : Loc} : μ id = some L → n ≤ c ∧ c ≤ cap → b = L.b ∧ off = L.o + o → (L.rw = true → off + cap * L.z ≤ L.N) → VR μ (.slice (some ⟨id, o, some 2⟩) n c) (.slice (some ⟨b, off, none⟩) n cap)
  | fnil : VR μ .nilFunc .nilFunc
  | inil : VR μ .nilIface .nilIface
  | mnil : VR μ (.map none) (.map none)
  | map {id : Nat} {L : Loc} : μ id = some L → VR μ (.map (some id)) (.map (some L.b))
  | func {fn : Fn} {x y x' y' : Array Value} : x.size = x'.size → (∀ (i : Nat) u v, x[i]? = some u → x'[i]? = some v → VR μ u v) → y.size = y'.size → (∀ (i : Nat) u v, y[i]? = some u → y'[i]? = some v → VR μ u v) →
      VR μ (.func fn x y) (.func fn x' y')
  | iface {t : TypeId} {v v' : Value} : VR μ v v' → VR μ (.iface t v) (.iface t v')
  | agg {x x' : Array Value} : x.size = x'.size → (∀ (i : Nat) u v, x[i]? = some u → x'[i]? = some v → VR μ u v) → VR μ (.agg x) (.agg x')
  | tuple {x x' : Array Value} : x.size = x'.size → (∀ (i : Nat) u v, x[i]? = some u → x'[i]? = some v → VR μ u v) → VR μ (.tuple x) (.tuple x')
theorem VR.mono {μ μ' : Mu} (h : ∀ id L, μ id = some L → μ' id = some L) {x y : Value} (hv : VR μ x y) : VR μ' x y := by
  induction hv with
  | bool b => exact .bool b
  | int k n => exact .int k n
  | string s => exact .string s
  | pnil => exact .pnil
  | ptr hL => exact .ptr (h _ _ hL)
  | snil => exact .snil
  | slc hL a b c d => exact .slc (h _ _ hL) a b c d
  | slcNil => exact .slcNil
  | slcLit => exact .slcLit
  | slcOdd => exact .slcOdd
  | slcCap hL a b c => exact .slcCap (h _ _ hL) a b c
  | fnil => exact .fnil
  | inil => exact .inil
  | mnil => exact .mnil
  | map hL => exact .map (h _ _ hL)
  | func a _ c _ ih1 ih2 => exact .func a ih1 c ih2
  | iface _ ih => exact .iface ih
  | agg a _ ih => exact .agg a ih
  | tuple a _ ih => exact .tuple a ih
theorem VR.oneCell {μ : Mu} {x y : Value} (h : VR μ x y) : y.oneCell' = x.oneCell' := by cases h <;> rfl
theorem VR.int' {μ : Mu} {k n y} (h : VR μ (.int k n) y) : y = .int k n := by cases h; rfl
theorem VR.bool' {μ : Mu} {b y} (h : VR μ (.bool b) y) : y = .bool b := by cases h; rfl
theorem VR.string' {μ : Mu} {b y} (h : VR μ (.string b) y) : y = .string b := by cases h; rfl
/-- Values that hold no address: they read the same in every numbering. -/
def plain : Nat → Value → Bool
  | 0, _ => false
  | d + 1, v => match v with
    | .bool _ | .int _ _ | .string _ | .pointer none | .slice none 0 0 | .nilFunc | .nilIface | .map none => true
    | .func _ x y => x.toList.all (plain d) && y.toList.all (plain d)
    | .iface _ v => plain d v
    | .agg x => x.toList.all (plain d)
    | .tuple x => x.toList.all (plain d)
    | _ => false
theorem plain_refl (μ : Mu) : ∀ (d : Nat) (v : Value), plain d v = true → VR μ v v
  | 0, _, h => by simp [plain] at h
  | d + 1, v, h => by
    have hl : ∀ (x : Array Value), x.toList.all (plain d) = true → ∀ (i : Nat) u v, x[i]? = some u → x[i]? = some v → VR μ u v := fun x hx i u v h1 h2 => by
      rw [h1] at h2; cases h2
      exact plain_refl μ d u (List.all_eq_true.1 hx u (by rw [← Array.getElem?_toList] at h1; exact List.mem_of_getElem? h1))
    cases v with
    | bool b => exact .bool b
    | int k n => exact .int k n
    | string s => exact .string s
    | pointer a => cases a with
      | none => exact .pnil
      | some a => simp [plain] at h
    | slice a n c => cases a with
      | none => cases n <;> cases c <;> simp [plain] at h; exact .snil
      | some a => simp [plain] at h
    | nilFunc => exact .fnil
    | nilIface => exact .inil
    | map r => cases r with
      | none => exact .mnil
      | some a => simp [plain] at h
    | func fn x y =>
      simp only [plain, Bool.and_eq_true] at h
      exact .func rfl (hl x h.1) rfl (hl y h.2)
    | iface t v => exact .iface (plain_refl μ d v (by simpa [plain] using h))
    | agg x => exact .agg rfl (hl x (by simpa only [plain] using h))
    | tuple x => exact .tuple rfl (hl x (by simpa only [plain] using h))
    | float => simp [plain] at h
    | complex => simp [plain] at h
    | chan => simp [plain] at h
theorem plain_eq {μ : Mu} : ∀ (d : Nat) (v y : Value), plain d v = true → VR μ v y → y = v
  | 0, _, _, h, _ => by simp [plain] at h
  | d + 1, v, y, h, hv => by
    have hl : ∀ (x x' : Array Value), x.toList.all (plain d) = true → x.size = x'.size → (∀ (i : Nat) u v, x[i]? = some u → x'[i]? = some v → VR μ u v) → x' = x := fun x x' hx hs hr => by
      apply Array.ext (by omega)
      intro i h1 h2
      have e1 : x'[i]? = some x'[i] := by simp
      have e2 : x[i]? = some x[i] := by simp
      exact plain_eq d _ _ (List.all_eq_true.1 hx _ (by rw [← Array.getElem?_toList] at e2; exact List.mem_of_getElem? e2)) (hr i _ _ e2 e1)
    cases hv with
    | func a b c e =>
      simp only [plain, Bool.and_eq_true] at h
      rw [hl _ _ h.1 a b, hl _ _ h.2 c e]
    | iface a => rw [plain_eq d _ _ (by simpa [plain] using h) a]
    | agg a b => rw [hl _ _ (by simpa only [plain] using h) a b]
    | tuple a b => rw [hl _ _ (by simpa only [plain] using h) a b]
    | ptr => simp [plain] at h
    | slc => simp [plain] at h
    | slcNil => simp [plain] at h
    | slcLit => simp [plain] at h
    | slcOdd => simp [plain] at h
    | slcCap => simp [plain] at h
    | map => simp [plain] at h
    | _ => rfl
/-- A nil slice is a slice of any block, of no elements. -/
inductive Wk : Value → Value → Prop
  | refl (v : Value) : Wk v v
  | nil {id o c : Nat} : Wk (.slice none 0 0) (.slice (some ⟨id, o, none⟩) 0 c)
  | agg {x x' : Array Value} : x.size = x'.size → (∀ (i : Nat) u v, x[i]? = some u → x'[i]? = some v → Wk u v) → Wk (.agg x) (.agg x')
  | tuple {x x' : Array Value} : x.size = x'.size → (∀ (i : Nat) u v, x[i]? = some u → x'[i]? = some v → Wk u v) → Wk (.tuple x) (.tuple x')
theorem Wk.vr {μ : Mu} {u v : Value} (h : Wk u v) : ∀ {y : Value}, VR μ u y → VR μ v y := by
  induction h with
  | refl => exact fun h => h
  | nil => intro y h; cases h; exact .slcNil
  | agg a b ih =>
    intro y h
    cases h with
    | agg c d =>
      exact .agg (a.symm.trans c) fun i u v hu hv => by
        have hi := (Array.getElem?_eq_some_iff.1 hu).1
        have hx := Array.getElem?_eq_getElem (show i < _ by rw [a]; exact hi)
        exact ih i _ _ hx hu (d i _ _ hx hv)
  | tuple a b ih =>
    intro y h
    cases h with
    | tuple c d =>
      exact .tuple (a.symm.trans c) fun i u v hu hv => by
        have hi := (Array.getElem?_eq_some_iff.1 hu).1
        have hx := Array.getElem?_eq_getElem (show i < _ by rw [a]; exact hi)
        exact ih i _ _ hx hu (d i _ _ hx hv)
inductive WkL : List Value → List Value → Prop
  | refl (l : List Value) : WkL l l
  | nil : WkL [] []
  | cons {u v l l'} : Wk u v → WkL l l' → WkL (u :: l) (v :: l')
theorem WkL.ofEq {l l' : List Value} (h : l = l') : WkL l l' := h ▸ .refl l
theorem WkL.len {l l'} (h : WkL l l') : l.length = l'.length := by induction h <;> simp [*]
theorem WkL.at {l l'} (h : WkL l l') : ∀ (i : Nat) u v, l[i]? = some u → l'[i]? = some v → Wk u v := by
  induction h with
  | refl l => intro i u v h1 h2; rw [h1] at h2; cases h2; exact .refl _
  | nil => intro i u v h1; simp at h1
  | cons h _ ih =>
    intro i u v h1 h2
    cases i with
    | zero => simp at h1 h2; subst h1 h2; exact h
    | succ i => simp at h1 h2; exact ih i u v h1 h2
theorem Wk.aggL {l l' : List Value} (h : WkL l l') : Wk (.agg ⟨l⟩) (.agg ⟨l'⟩) := .agg (by simpa using h.len) fun i u v hu hv => h.at i u v (by simpa using hu) (by simpa using hv)
/-- A block in one's own numbering: its cells as far as they are known; may it be written; an element's size. -/
structure Blk where
  cells : List Value
  rw : Bool
  z : Nat
abbrev Mem := List (Option Blk)
def live (m : Mem) (i : Nat) : Option Blk := (m[i]?).join
theorem live_some {m : Mem} {id : Nat} {B : Blk} : live m id = some B ↔ m[id]? = some (some B) := by
  unfold live
  cases h : m[id]? with
  | none => simp
  | some x => cases x <;> simp
def Dom (μ : Mu) (n : Nat) : Prop := ∀ id, n ≤ id → μ id = none
def Ext (n : Nat) (μ μ' : Mu) : Prop := ∀ id, id < n → μ' id = μ id
theorem Ext.refl (n μ) : Ext n μ μ := fun _ _ => rfl
theorem Ext.trans {n μ1 μ2 μ3} (h : Ext n μ1 μ2) (k : Ext n μ2 μ3) : Ext n μ1 μ3 := fun id hi => (k id hi).trans (h id hi)
theorem Ext.le {n n' μ μ'} (h : Ext n μ μ') (hn : n' ≤ n) : Ext n' μ μ' := fun id hi => h id (by omega)
theorem Ext.sub {n μ μ'} (h : Ext n μ μ') (hd : Dom μ n) : ∀ id L, μ id = some L → μ' id = some L := fun id L hL => by
  rcases Nat.lt_or_ge id n with hi | hi
  · rw [h id hi]; exact hL
  · rw [hd id hi] at hL; cases hL
/-- The size that marks a block that is a map: its keys and values stand one behind the other. -/
def mapZ : Nat := 999983
def mapFlat (es : List MapEntry) : List Value := es.flatMap fun e => [e.key, e.val]
def mcell? (w : World) (b i : Nat) : Option Value := match w.heap[b]? with
  | some (.map es _) => (mapFlat es.toList)[i]?
  | _ => none
/-- A block's cell, a map's too. -/
def zcell? (z : Nat) (w : World) (b i : Nat) : Option Value := if z = mapZ then mcell? w b i else w.cell? ⟨b, i, none⟩
theorem zcell_ne {z : Nat} (h : z ≠ mapZ) (w : World) (b i : Nat) : zcell? z w b i = w.cell? ⟨b, i, none⟩ := if_neg h
/-- A block's cells, where they are. -/
def CellsOK (μ : Mu) (z : Nat) (cs : List Value) (b o : Nat) (w : World) : Prop := ∀ j x, cs[j]? = some x → ∃ y, zcell? z w b (o + j) = some y ∧ VR μ x y
/-- Cells of a row. -/
def CellsC (μ : Mu) (cs : List Value) (b o : Nat) (w : World) : Prop := ∀ j x, cs[j]? = some x → ∃ y, w.cell? ⟨b, o + j, none⟩ = some y ∧ VR μ x y
theorem CellsC.z {μ z cs b o w} (h : CellsC μ cs b o w) (hz : z ≠ mapZ) : CellsOK μ z cs b o w := fun j x hx => by rw [zcell_ne hz]; exact h j x hx
theorem CellsOK.cell {μ z cs b o w} (h : CellsOK μ z cs b o w) (hz : z ≠ mapZ) {j : Nat} {x : Value} (hx : cs[j]? = some x) : ∃ y, w.cell? ⟨b, o + j, none⟩ = some y ∧ VR μ x y := by
  have := h j x hx
  rwa [zcell_ne hz] at this
def RowOK (L : Loc) (w : World) : Prop := ∃ c e lo hi, w.heap[L.b]? = some (.cells c e (lo, hi)) ∧ c.size = L.N ∧ ((lo = 0 ∧ hi = 0) ∨ L.N ≤ lo) ∧ ∀ j, j < c.size → ¬ (lo ≤ j ∧ j < hi)
/-- What a block is, that may be written: a row of cells, or a map. -/
def RowZ (z n : Nat) (L : Loc) (w : World) : Prop := if z = mapZ then L.N ≠ 0 ∧ L.o = 0 ∧ ∃ es c, w.heap[L.b]? = some (.map es c) ∧ n = 2 * es.toList.length else RowOK L w
theorem RowZ.row {z n : Nat} {L : Loc} {w : World} (h : RowZ z n L w) (hz : z ≠ mapZ) : RowOK L w := by unfold RowZ at h; rwa [if_neg hz] at h
theorem RowOK.z {z n : Nat} {L : Loc} {w : World} (h : RowOK L w) (hz : z ≠ mapZ) : RowZ z n L w := by unfold RowZ; rwa [if_neg hz]
theorem RowZ.lt {z n : Nat} {L : Loc} {w : World} (h : RowZ z n L w) : L.b < w.heap.size := by
  rcases Nat.lt_or_ge L.b w.heap.size with hl | hl
  · exact hl
  · unfold RowZ at h
    split at h
    · obtain ⟨_, _, es, c, h, _⟩ := h
      simp [Array.getElem?_eq_none hl] at h
    · obtain ⟨c, e, lo, hi, h, _⟩ := h
      simp [Array.getElem?_eq_none hl] at h
theorem RowZ.keep {z n : Nat} {L : Loc} {w w' : World} (h : RowZ z n L w) (hh : w'.heap[L.b]? = w.heap[L.b]?) : RowZ z n L w' := by
  unfold RowZ at h ⊢
  split
  · rename_i hz
    rw [if_pos hz] at h
    obtain ⟨h1, h0, es, c, h2⟩ := h
    exact ⟨h1, h0, es, c, hh.trans h2.1, h2.2⟩
  · rename_i hz
    rw [if_neg hz] at h
    obtain ⟨c, e, lo, hi, h1, h2⟩ := h
    exact ⟨c, e, lo, hi, hh.trans h1, h2⟩
theorem zcell_lt {z : Nat} {w : World} {b i : Nat} {y : Value} (h : zcell? z w b i = some y) : b < w.heap.size := by
  unfold zcell? at h
  split at h
  · rcases Nat.lt_or_ge b w.heap.size with hl | hl
    · exact hl
    · unfold mcell? at h
      simp [Array.getElem?_eq_none hl] at h
  · exact World.block_lt_of_cell? _ _ h
/-- A block that takes room; one whose room is 0 cells need not be anywhere. -/
abbrev Rw (B : Blk) (L : Loc) : Prop := B.rw = true ∧ L.N ≠ 0
abbrev Takes (B : Blk) (L : Loc) : Prop := Rw B L ∨ B.cells ≠ []
theorem Rw.of {B B' : Blk} {L : Loc} (h : B.rw = true → B'.rw = true) (hb : Rw B L) : Rw B' L := ⟨h hb.1, hb.2⟩
theorem Takes.of {B B' : Blk} {L : Loc} (h : B.rw = true → B'.rw = true) (hc : B.cells ≠ [] → B'.cells ≠ []) (hb : Takes B L) : Takes B' L := hb.imp (Rw.of h) hc
theorem WkL.get {g : Nat → Nat} {l l' : List Value} (h : WkL l' (renL g l)) {j : Nat} {x : Value} (hx : l[j]? = some x) : ∃ u, l'[j]? = some u ∧ Wk u (ren g x) := by
  have hl := h.len
  rw [renL_eq] at h hl
  have hj := (List.getElem?_eq_some_iff.1 hx).1
  have h1 := List.getElem?_eq_getElem (show j < l'.length by simp at hl; omega)
  exact ⟨_, h1, h.at j _ _ h1 (by simp [hx])⟩
theorem WkL.ne {g : Nat → Nat} {l l' : List Value} (h : WkL l' (renL g l)) (hl : l ≠ []) : l' ≠ [] := by
  rintro rfl
  have := h.len
  rw [renL_eq] at this
  cases l <;> simp_all
structure BlkOK (μ : Mu) (B : Blk) (L : Loc) (w : World) : Prop where
  rw : B.rw = true → L.rw = true
  z : L.z = B.z
  cells : CellsOK μ B.z B.cells L.b L.o w
  row : L.rw = true ∨ B.z = mapZ → Takes B L → RowZ B.z B.cells.length L w
  mN : B.z = mapZ → L.N ≠ 0
/-- The tables of the program that a walk may rely on (variable, cells). -/
def ambs : List (Nat × List Value) := []
/-- The tables stand, and may not change. -/
structure Amb (F : Nat → Prop) (w : World) : Prop where
  tab : ∀ g ∈ ambs, ¬ F g.1 ∧ ∃ c e b, w.heap[g.1]? = some (.cells c e b) ∧ c.toList = g.2
theorem Amb.mono {F F' : Nat → Prop} {w w' : World} (h : Amb F w) (hs : ∀ k, F' k → F k) (hf : ∀ k, ¬ F k → w'.heap[k]? = w.heap[k]?) : Amb F' w' := ⟨fun g hg => by
  obtain ⟨h1, c, e, b, h2, h3⟩ := h.tab g hg
  exact ⟨fun h => h1 (hs _ h), c, e, b, (hf _ h1).trans h2, h3⟩⟩
structure Up (F : Nat → Prop) (w0 : World) : Prop where
  up : ∀ k, w0.heap.size ≤ k → F k
  amb : Amb F w0
instance {F : Nat → Prop} {w0 : World} : CoeFun (Up F w0) (fun _ => ∀ k, w0.heap.size ≤ k → F k) := ⟨Up.up⟩
structure RepM (F : Nat → Prop) (w0 : World) (μ : Mu) (m : Mem) (w : World) : Prop where
  os : w.os = w0.os
  tape : w.tape = w0.tape
  output : w.output = w0.output
  size : w0.heap.size ≤ w.heap.size
  frame : ∀ k, ¬ F k → w.heap[k]? = w0.heap[k]?
  up : Up F w0
  blk : ∀ id B, live m id = some B → ∃ L, μ id = some L ∧ BlkOK μ B L w ∧ (Rw B L → F L.b)
  excl : ∀ id id' B B' L L', live m id = some B → live m id' = some B' → id ≠ id' → μ id = some L → μ id' = some L' → Rw B L → Takes B' L' → L.b ≠ L'.b
theorem RepM.now {F w0 μ m w} (h : RepM F w0 μ m w) {F' : Nat → Prop} (hs : ∀ k, F' k → F k) : Amb F' w := h.up.amb.mono hs h.frame
theorem RepM.here {F w0 μ m w} (h : RepM F w0 μ m w) : Amb (fun k => w.heap.size ≤ k) w := h.now fun k hk => h.up k (Nat.le_trans h.size hk)
theorem cell_of_heap {w w' : World} {b : Nat} (h : w'.heap[b]? = w.heap[b]?) (o : Nat) : w'.cell? ⟨b, o, none⟩ = w.cell? ⟨b, o, none⟩ := by
  simp only [World.cell?, h]
theorem zcell_of_heap {z : Nat} {w w' : World} {b : Nat} (h : w'.heap[b]? = w.heap[b]?) (o : Nat) : zcell? z w' b o = zcell? z w b o := by
  unfold zcell? mcell?
  rw [cell_of_heap h, h]
theorem CellsOK.mono {μ μ' : Mu} {z cs b o w} (h : CellsOK μ z cs b o w) (hm : ∀ id L, μ id = some L → μ' id = some L) : CellsOK μ' z cs b o w :=
  fun j x hx => let ⟨y, h1, h2⟩ := h j x hx; ⟨y, h1, h2.mono hm⟩
theorem CellsOK.keep {μ : Mu} {z cs b o} {w w' : World} (h : CellsOK μ z cs b o w) (hw : cs ≠ [] → w'.heap[b]? = w.heap[b]?) : CellsOK μ z cs b o w' :=
  fun j x hx => let ⟨y, h1, h2⟩ := h j x hx; ⟨y, by rw [zcell_of_heap (hw (by rintro rfl; simp at hx))]; exact h1, h2⟩
theorem BlkOK.mono {μ μ' : Mu} {B L w} (h : BlkOK μ B L w) (hm : ∀ id L, μ id = some L → μ' id = some L) : BlkOK μ' B L w := ⟨h.rw, h.z, h.cells.mono hm, h.row, h.mN⟩
theorem BlkOK.keep {μ : Mu} {B L} {w w' : World} (h : BlkOK μ B L w) (hw : Takes B L → w'.heap[L.b]? = w.heap[L.b]?) : BlkOK μ B L w' :=
  ⟨h.rw, h.z, h.cells.keep fun hc => hw (.inr hc), fun hr hb => (h.row hr hb).keep (hw hb), h.mN⟩
theorem BlkOK.lt {μ : Mu} {B L} {w : World} (h : BlkOK μ B L w) (hb : Takes B L) : L.b < w.heap.size := by
  rcases hb with hb | hb
  · exact (h.row (.inl (h.rw hb.1)) (.inl hb)).lt
  · obtain ⟨x, l, hx⟩ := List.exists_cons_of_ne_nil hb
    obtain ⟨y, h1, _⟩ := h.cells 0 x (by rw [hx]; rfl)
    exact zcell_lt h1
theorem BlkOK.act {μ : Mu} {B L} {w : World} (h : BlkOK μ B L w) (hr : B.rw = true) (hb : Takes B L) : Rw B L := by
  refine ⟨hr, fun hN => ?_⟩
  have hrow := h.row (.inl (h.rw hr)) hb
  by_cases hz : B.z = mapZ
  · unfold RowZ at hrow
    rw [if_pos hz] at hrow
    exact hrow.1 hN
  obtain ⟨c, e, lo, hi, h1, h2, _⟩ := hrow.row hz
  rcases hb with hb | hb
  · exact hb.2 hN
  · obtain ⟨x, l, hx⟩ := List.exists_cons_of_ne_nil hb
    obtain ⟨y, h3, _⟩ := h.cells.cell hz (j := 0) (x := x) (by rw [hx]; rfl)
    simp only [World.cell?, h1] at h3
    have : c.size = 0 := by omega
    rw [Array.getElem?_eq_none (by omega)] at h3
    cases h3
section
variable {F : Nat → Prop} {w0 : World} {μ : Mu} {m : Mem} {w : World}
/-- Memory that is not one's own may turn as it likes. -/
theorem RepM.keep {w' : World} (h : RepM F w0 μ m w) (ho : w'.os = w.os) (ht : w'.tape = w.tape) (hp : w'.output = w.output) (hs : w.heap.size ≤ w'.heap.size)
    (hh : ∀ k, k < w.heap.size → w'.heap[k]? = w.heap[k]?) : RepM F w0 μ m w' where
  os := ho.trans h.os
  tape := ht.trans h.tape
  output := hp.trans h.output
  size := Nat.le_trans h.size hs
  frame k hk := by
    rcases Nat.lt_or_ge k w.heap.size with hl | hl
    · rw [hh k hl]; exact h.frame k hk
    · exact absurd (h.up k (Nat.le_trans h.size hl)) hk
  up := h.up
  blk id B hB := by
    obtain ⟨L, h1, h2, h3⟩ := h.blk id B hB
    exact ⟨L, h1, h2.keep fun hb => hh _ (h2.lt hb), h3⟩
  excl := h.excl
theorem RepM.drew (h : RepM F w0 μ m w) : RepM F w0 μ m { w with drawn := w.drawn + 1 } := h.keep rfl rfl rfl (Nat.le_refl _) fun _ _ => rfl
/-- Fewer blocks are live. -/
theorem RepM.less {m' : Mem} (h : RepM F w0 μ m w) (hm : ∀ id B, live m' id = some B → live m id = some B) : RepM F w0 μ m' w where
  os := h.os
  tape := h.tape
  output := h.output
  size := h.size
  frame := h.frame
  up := h.up
  blk id B hB := h.blk id B (hm id B hB)
  excl id id' B B' L L' h1 h2 := h.excl id id' B B' L L' (hm _ _ h1) (hm _ _ h2)
theorem live_push {m : Mem} {x : Option Blk} {id : Nat} {B : Blk} : live (m ++ [x]) id = some B ↔ live m id = some B ∨ (id = m.length ∧ x = some B) := by
  rw [live_some, live_some, List.getElem?_append]
  rcases Nat.lt_trichotomy id m.length with h | h | h
  · simp [h, Nat.ne_of_lt h]
  · subst h; simp
  · have : ¬ id < m.length := by omega
    have e : id - m.length ≠ 0 := by omega
    have e' : m.length ≤ id := by omega
    have e2 : id ≠ m.length := by omega
    obtain ⟨k, hk⟩ : ∃ k, id - m.length = k + 1 := ⟨id - m.length - 1, by omega⟩
    simp [this, e2, hk]
def Mu.set (μ : Mu) (n : Nat) (L : Loc) : Mu := fun id => if id = n then some L else μ id
theorem Mu.set_sub {μ : Mu} {n : Nat} {L : Loc} (h : μ n = none) : ∀ id L', μ id = some L' → Mu.set μ n L id = some L' := fun id L' hL => by
  unfold Mu.set
  split
  · subst id; rw [h] at hL; cases hL
  · exact hL
theorem Mu.set_ext {μ : Mu} {n : Nat} {L : Loc} : Ext n μ (Mu.set μ n L) := fun id hi => by unfold Mu.set; rw [if_neg (by omega)]
theorem Mu.set_dom {μ : Mu} {n : Nat} {L : Loc} (h : Dom μ n) : Dom (Mu.set μ n L) (n + 1) := fun id hi => by unfold Mu.set; rw [if_neg (by omega)]; exact h id (by omega)
theorem Mu.set_same {μ : Mu} {n : Nat} {L : Loc} : Mu.set μ n L n = some L := by simp [Mu.set]
/-- A new block. -/
theorem RepM.alloc (h : RepM F w0 μ m w) (hd : Dom μ m.length) {cs : List Value} {c : Array Value} {e : TypeId} {z lo hi : Nat} (hc : ∀ (j : Nat) x, cs[j]? = some x → ∃ y, c[j]? = some y ∧ VR μ x y)
    (hlo : ∀ j, j < c.size → ¬ (lo ≤ j ∧ j < hi)) (h00 : (lo = 0 ∧ hi = 0) ∨ c.size ≤ lo := by exact .inl ⟨rfl, rfl⟩) (hz : z ≠ mapZ := by (first | decide | assumption)) :
    RepM F w0 (μ.set m.length ⟨w.heap.size, 0, c.size, z, true⟩) (m ++ [some ⟨cs, true, z⟩]) (w.alloc (.cells c e (lo, hi))) := by
  have hsub := Mu.set_sub (L := ⟨w.heap.size, 0, c.size, z, true⟩) (hd m.length (Nat.le_refl _))
  have hold : ∀ k, k < w.heap.size → (w.alloc (.cells c e (lo, hi))).heap[k]? = w.heap[k]? := fun k hk => by
    show (w.heap.push _)[k]? = _
    rw [Array.getElem?_push, if_neg (by omega)]
  have hnew : (w.alloc (.cells c e (lo, hi))).heap[w.heap.size]? = some (.cells c e (lo, hi)) := by
    show (w.heap.push _)[w.heap.size]? = _
    simp
  have h' := h.keep (w' := w.alloc (.cells c e (lo, hi))) rfl rfl rfl (by simp) hold
  refine ⟨h'.os, h'.tape, h'.output, h'.size, h'.frame, h'.up, fun id B hB => ?_, fun id id' B B' L L' h1 h2 hne hl hl' hr hb => ?_⟩
  · rcases live_push.1 hB with hB1 | ⟨rfl, hB1⟩
    · obtain ⟨L, h1, h2, h3⟩ := h'.blk id B hB1
      exact ⟨L, hsub _ _ h1, h2.mono hsub, h3⟩
    · cases hB1
      refine ⟨_, Mu.set_same, ⟨fun _ => rfl, rfl, fun j x hx => ?_, fun _ _ => RowOK.z ⟨c, e, lo, hi, hnew, rfl, h00, hlo⟩ hz, fun h => absurd h hz⟩, fun _ => h.up _ h.size⟩
      obtain ⟨y, h1, h2⟩ := hc j x hx
      exact ⟨y, by rw [zcell_ne hz]; simp only [World.cell?, hnew, Nat.zero_add]; simpa using h1, h2.mono hsub⟩
  · have hlt : ∀ {id B L}, live m id = some B → Mu.set μ m.length ⟨w.heap.size, 0, c.size, z, true⟩ id = some L → Takes B L → L.b < w.heap.size ∧ μ id = some L := fun {id B L} ha hL hb => by
      obtain ⟨L0, k1, k2, _⟩ := h.blk id B ha
      have := hsub _ _ k1
      rw [this] at hL; cases hL
      exact ⟨k2.lt hb, k1⟩
    rcases live_push.1 h1 with g1 | ⟨rfl, e1⟩ <;> rcases live_push.1 h2 with g2 | ⟨rfl, e2⟩
    · exact h.excl id id' B B' L L' g1 g2 hne (hlt g1 hl (.inl hr)).2 (hlt g2 hl' hb).2 hr hb
    · rw [Mu.set_same] at hl'; cases hl'
      have := (hlt g1 hl (.inl hr)).1
      show L.b ≠ w.heap.size
      omega
    · rw [Mu.set_same] at hl; cases hl
      have := (hlt g2 hl' hb).1
      show w.heap.size ≠ L'.b
      omega
    · exact absurd rfl hne
/-- A block of no room, which is nowhere. -/
theorem RepM.ghost (h : RepM F w0 μ m w) (hd : Dom μ m.length) (z : Nat) (b o : Nat := 0) (hz : z ≠ mapZ := by (first | decide | assumption)) : RepM F w0 (μ.set m.length ⟨b, o, 0, z, true⟩) (m ++ [some ⟨[], true, z⟩]) w := by
  have hsub := Mu.set_sub (L := ⟨b, o, 0, z, true⟩) (hd m.length (Nat.le_refl _))
  have hlt : ∀ {id B L}, live m id = some B → Mu.set μ m.length ⟨b, o, 0, z, true⟩ id = some L → μ id = some L := fun {id B L} ha hL => by
    obtain ⟨L0, k1, k2, _⟩ := h.blk id B ha
    have := hsub _ _ k1
    rw [this] at hL; cases hL
    exact k1
  refine ⟨h.os, h.tape, h.output, h.size, h.frame, h.up, fun id B hB => ?_, fun id id' B B' L L' h1 h2 hne hl hl' hr hb => ?_⟩
  · rcases live_push.1 hB with hB1 | ⟨rfl, hB1⟩
    · obtain ⟨L, h1, h2, h3⟩ := h.blk id B hB1
      exact ⟨L, hsub _ _ h1, h2.mono hsub, h3⟩
    · cases hB1
      exact ⟨_, Mu.set_same, ⟨fun _ => rfl, rfl, fun j x hx => by simp at hx, fun _ hb => (by rcases hb with hb | hb; exact absurd rfl hb.2; exact absurd rfl hb), fun h => absurd h hz⟩, fun hb => absurd rfl hb.2⟩
  · rcases live_push.1 h1 with g1 | ⟨rfl, e1⟩ <;> rcases live_push.1 h2 with g2 | ⟨rfl, e2⟩
    · exact h.excl id id' B B' L L' g1 g2 hne (hlt g1 hl) (hlt g2 hl') hr hb
    · rw [Mu.set_same] at hl'; cases hl'; cases e2
      rcases hb with hb | hb
      · exact absurd rfl hb.2
      · exact absurd rfl hb
    · rw [Mu.set_same] at hl; cases hl; cases e1
      exact absurd rfl hr.2
    · exact absurd rfl hne
theorem live_set {m : Mem} {id i : Nat} {x : Option Blk} {B : Blk} (h : live (m.set i x) id = some B) : (id = i ∧ x = some B) ∨ (id ≠ i ∧ live m id = some B) := by
  rw [live_some, List.getElem?_set] at h
  by_cases hi : i = id
  · subst hi
    simp only [if_true] at h
    split at h
    · left; exact ⟨rfl, by simpa using h⟩
    · cases h
  · rw [if_neg hi] at h
    exact .inr ⟨fun e => hi e.symm, live_some.2 h⟩
/-- A block of one's own is written. -/
theorem RepM.write {w' : World} (h : RepM F w0 μ m w) {i : Nat} {B : Blk} {L : Loc} {cs : List Value} (hB : live m i = some B) (hL : μ i = some L) (hr : Rw B L)
    (ho : w'.os = w.os) (ht : w'.tape = w.tape) (hp : w'.output = w.output) (hs : w'.heap.size = w.heap.size) (hh : ∀ k, k ≠ L.b → w'.heap[k]? = w.heap[k]?)
    (hrow : RowZ B.z cs.length L w') (hc : CellsOK μ B.z cs L.b L.o w') : RepM F w0 μ (m.set i (some { B with cells := cs })) w' := by
  obtain ⟨L0, k1, k2, k3⟩ := h.blk i B hB
  rw [hL] at k1; cases k1
  refine ⟨ho.trans h.os, ht.trans h.tape, hp.trans h.output, by rw [hs]; exact h.size, fun k hk => ?_, h.up, fun id B' hB' => ?_, fun id id' B1 B2 L1 L2 h1 h2 hne hl1 hl2 hr1 hb2 => ?_⟩
  · rw [hh k fun e => hk (e ▸ k3 hr)]; exact h.frame k hk
  · rcases live_set hB' with ⟨rfl, e⟩ | ⟨hne, hB'⟩
    · cases e
      exact ⟨L, hL, ⟨k2.rw, k2.z, hc, fun _ _ => hrow, k2.mN⟩, fun _ => k3 hr⟩
    · obtain ⟨L', j1, j2, j3⟩ := h.blk id B' hB'
      exact ⟨L', j1, j2.keep fun hb => hh _ fun e => h.excl i id B B' L L' hB hB' (fun e => hne e.symm) hL j1 hr hb e.symm, j3⟩
  · rcases live_set h1 with ⟨e0, e1⟩ | ⟨hn1, g1⟩ <;> rcases live_set h2 with ⟨e0', e2⟩ | ⟨hn2, g2⟩
    · exact absurd (e0.trans e0'.symm) hne
    · cases e1; subst e0; rw [hL] at hl1; cases hl1
      exact h.excl id id' B B2 L L2 hB g2 hne hL hl2 hr hb2
    · cases e2; subst e0'; rw [hL] at hl2; cases hl2
      exact h.excl id id' B1 B L1 L g1 hB hne hl1 hL hr1 (.inl hr)
    · exact h.excl id id' B1 B2 L1 L2 g1 g2 hne hl1 hl2 hr1 hb2
/-- The same, a row of cells. -/
theorem RepM.writeC {w' : World} (h : RepM F w0 μ m w) {i : Nat} {B : Blk} {L : Loc} {cs : List Value} (hB : live m i = some B) (hz : B.z ≠ mapZ) (hL : μ i = some L) (hr : Rw B L)
    (ho : w'.os = w.os) (ht : w'.tape = w.tape) (hp : w'.output = w.output) (hs : w'.heap.size = w.heap.size) (hh : ∀ k, k ≠ L.b → w'.heap[k]? = w.heap[k]?)
    (hrow : RowOK L w') (hc : CellsC μ cs L.b L.o w') : RepM F w0 μ (m.set i (some { B with cells := cs })) w' := h.write hB hL hr ho ht hp hs hh (hrow.z hz) (hc.z hz)
theorem notMap {z : Nat} (h : Nat.beq z mapZ = false) : z ≠ mapZ := Nat.ne_of_beq_eq_false h
end
end Go.Proofs.YtdenooeaiicheaaGreat.Av
/- Walking in numbers of one's own: operations, regions in the text's order, code, functions. -/
namespace Go.Proofs.YtdenooeaiicheaaGreat.Av
open Go.RowKit (Below)
abbrev Slots := List (Nat × Value)
def look : Slots → Nat → Option Value
  | [], _ => none
  | (k, v) :: l, t => cond (Nat.beq k t) (some v) (look l t)
def put (σ : Slots) : Option Tmp → Value → Slots
  | none, _ => σ
  | some d, v => (d, v) :: σ
def ev (σ : Slots) : Operand → Option Value
  | .tmp t => look σ t
  | .const v => cond (plain 4 v) (some v) none
  | .global _ => none
  | .func f => some (.func (.func f) #[] #[])
def SlotsOK (μ : Mu) (σ : Slots) (a : Act) : Prop := ∀ t v, look σ t = some v → t < a.tmps.size ∧ VR μ v (a.tmps.getD t undef)
/-- What a loop over a function leaves to be taken up at the end: nothing. -/
def Coll (w0 : World) (F : Nat → Prop) (d : Deferred) : Prop := ∃ D, d = { target := .collected D, args := #[] } ∧ ¬ F D ∧ w0.heap[D]? = some (.deferred (some []))
structure DefOK (F : Nat → Prop) (w0 : World) (l : List Deferred) : Prop where
  all : ∀ d ∈ l, Coll w0 F d
  nd : l.Nodup
theorem DefOK.nil {F w0} : DefOK F w0 [] := ⟨fun d h => (by cases h), List.nodup_nil⟩
structure RepS (nt : Nat) (F : Nat → Prop) (w0 : World) (μ : Mu) (σ : Slots) (m : Mem) (a : Act) (w : World) : Prop where
  nt : a.tmps.size = nt
  defers : DefOK F w0 a.defers
  slots : SlotsOK μ σ a
  mem : RepM F w0 μ m w
  dom : Dom μ m.length
theorem ev_ok {μ σ a} (h : SlotsOK μ σ a) {x : Operand} {v : Value} (hx : ev σ x = some v) : VR μ v (a.eval x) := by
  cases x with
  | tmp t => exact (h t v hx).2
  | const c =>
    simp only [ev] at hx
    cases hp : plain 4 c <;> rw [hp] at hx
    · cases hx
    · rw [cond_true, Option.some.injEq] at hx
      subst hx
      exact plain_refl μ 4 _ hp
  | global g => cases hx
  | func f => cases hx; exact .func rfl (fun i u v h _ => by simp at h) rfl (fun i u v h _ => by simp at h)
theorem SlotsOK.mono {μ μ' σ a} (h : SlotsOK μ σ a) (hm : ∀ id L, μ id = some L → μ' id = some L) : SlotsOK μ' σ a := fun t v ht => ⟨(h t v ht).1, (h t v ht).2.mono hm⟩
theorem SlotsOK.put {μ σ a} (h : SlotsOK μ σ a) {d : Option Tmp} {v y : Value} (hv : VR μ v y) (hd : ∀ t, d = some t → t < a.tmps.size) : SlotsOK μ (put σ d v) (a.put d y) := by
  cases d with
  | none => exact h
  | some d =>
    intro t u ht
    have hd := hd d rfl
    simp only [Av.put, look] at ht
    by_cases hdt : d = t
    · subst hdt
      simp only [show Nat.beq d d = true from Nat.beq_refl d, cond_true, Option.some.injEq] at ht
      subst ht
      exact ⟨by simpa [Act.put] using hd, by simpa [Act.put, hd] using hv⟩
    · have hb : Nat.beq d t = false := by
        cases hb : Nat.beq d t with
        | false => rfl
        | true => exact absurd (Nat.eq_of_beq_eq_true hb) hdt
      rw [hb] at ht
      obtain ⟨h1, h2⟩ := h t u ht
      exact ⟨by simpa [Act.put] using h1, by simpa [Act.put, hdt] using h2⟩
/-- What an operation does: it gives v, and leaves the blocks m'. -/
structure OpOK (P : Program) (o : Oper) (ρ : Operand → Option Value) (m : Mem) (v : Value) (m' : Mem) : Prop where
  ok : ∀ F w0 μ a w (K : Act → World → Prop) (Q : Exit → Act → World → Prop), Dom μ m.length → RepM F w0 μ m w → (∀ x u, x ∈ o.op.operands → ρ x = some u → VR μ u (a.eval x)) →
    (∀ μ' y w', Ext m.length μ μ' → Dom μ' m'.length → RepM F w0 μ' m' w' → VR μ' v y → K (a.put o.dst y) w') → o.wp P a w K Q
def Want (ops : Array Oper) (σ : Slots) (o : Oper) (b : Bool) : Prop :=
  match o.guard with
  | none => b = true
  | some (j, want) => ∃ d v, (ops[j]?).bind (·.dst) = some d ∧ look σ d = some v ∧ ((∃ c, v = .bool c ∧ b = (c == want)) ∨ (v = undef ∧ b = false))
/-- Of the slots σ0 no more than σ are wanted. -/
def Sub (σ σ0 : Slots) : Prop := ∀ t v, look σ t = some v → look σ0 t = some v
theorem Sub.refl (σ : Slots) : Sub σ σ := fun _ _ h => h
theorem SlotsOK.sub {μ σ σ0 a} (h : SlotsOK μ σ0 a) (hs : Sub σ σ0) : SlotsOK μ σ a := fun t v ht => h t v (hs t v ht)
/-- An operation that leaves the blocks alone, and returns one of two values. -/
structure OpAlt (P : Program) (o : Oper) (ρ : Operand → Option Value) (m : Mem) (v1 v2 : Value) : Prop where
  ok : ∀ F w0 μ (a : Act) w, Dom μ m.length → RepM F w0 μ m w → (∀ x u, x ∈ o.op.operands → ρ x = some u → VR μ u (a.eval x)) → ∃ y, (execOp a.eval o).run P w = .ok (.value y) w ∧ (VR μ v1 y ∨ VR μ v2 y)
/-- A region's operations one behind the other. -/
inductive Run (P : Program) (ops : Array Oper) (K : Slots → Mem → Prop) : List Oper → Slots → Mem → Prop
  | nil {σ σ0 m} : Sub σ σ0 → K σ m → Run P ops K [] σ0 m
  | yes {σ σ0 m o l v m'} : Sub σ σ0 → Want ops σ o true → m.length ≤ m'.length → OpOK P o (ev σ) m v m' → Run P ops K l (put σ o.dst v) m' → Run P ops K (o :: l) σ0 m
  | no {σ σ0 m o l} : Sub σ σ0 → Want ops σ o false → Run P ops K l (put σ o.dst undef) m → Run P ops K (o :: l) σ0 m
  | alt {σ σ0 m o l v1 v2} : Sub σ σ0 → Want ops σ o true → OpAlt P o (ev σ) m v1 v2 → Run P ops K l (put σ o.dst v1) m → Run P ops K l (put σ o.dst v2) m → Run P ops K (o :: l) σ0 m
theorem yielded_undef {ops : Array Oper} {μ : Mu} {a : Act} {j d : Nat} (h1 : (ops[j]?).bind (·.dst) = some d) (k1 : d < a.tmps.size) (k2 : VR μ undef (a.tmps.getD d undef)) : yielded ops a.tmps j = none := by
  unfold yielded
  rw [h1]
  have e0 : a.tmps.getD d undef = a.tmps[d] := by simp [Array.getD, k1]
  rw [e0] at k2
  have : a.tmps[d]? = some a.tmps[d] := Array.getElem?_eq_getElem k1
  simp only [Option.bind_some, this]
  generalize a.tmps[d] = y at k2
  unfold undef at k2
  cases k2
  rfl
theorem want_ok {ops : Array Oper} {μ σ a o b} (h : SlotsOK μ σ a) (hw : Want ops σ o b) : Region.wanted o (yielded ops a.tmps) = b := by
  unfold Want at hw
  unfold Region.wanted
  cases hg : o.guard with
  | none => rw [hg] at hw; exact hw.symm
  | some g =>
    obtain ⟨j, want⟩ := g
    rw [hg] at hw
    obtain ⟨d, v, h1, h2, hv⟩ := hw
    obtain ⟨k1, k2⟩ := h d _ h2
    rcases hv with ⟨c, rfl, rfl⟩ | ⟨rfl, rfl⟩
    rotate_left
    · have hy : yielded ops a.tmps j = none := yielded_undef h1 k1 k2
      simp only [hy]
      rfl
    have e := k2.bool'
    have hy : yielded ops a.tmps j = some c := by
      unfold yielded
      rw [h1]
      have : a.tmps[d]? = some (.bool c) := by
        rw [Array.getElem?_eq_getElem k1, ← e]
        simp [Array.getD, k1]
      simp [this]
    simp only [hy]
    cases c <;> cases want <;> rfl
def dstOK (nt : Nat) (o : Oper) : Bool := match o.dst with | none => true | some d => Nat.blt d nt
def ndfB (o : Oper) : Bool := match o.op with | .defer _ => false | _ => true
def dstsOK (nt : Nat) (ops : Array Oper) : Bool := ops.toList.all fun o => dstOK nt o && ndfB o
theorem Act.size_put (a : Act) (d : Option Tmp) (v : Value) : (a.put d v).tmps.size = a.tmps.size := by cases d <;> simp [Act.put]
theorem Act.defers_put (a : Act) (d : Option Tmp) (v : Value) : (a.put d v).defers = a.defers := by cases d <;> rfl
theorem vr_undef (μ : Mu) : VR μ undef undef := .tuple rfl fun i u v h _ => by simp at h
theorem run_sound {P : Program} {ops : Array Oper} {nt : Nat} {F w0} {Q : Exit → Act → World → Prop} {K : Slots → Mem → Prop} :
    ∀ (l : List Oper) (σ : Slots) (m : Mem) (μ : Mu) (a : Act) (w : World), (∀ o ∈ l, ∀ d, o.dst = some d → d < nt) → RepS nt F w0 μ σ m a w → Run P ops K l σ m →
      (∀ μ' σ' m' a' w', Ext m.length μ μ' → m.length ≤ m'.length → RepS nt F w0 μ' σ' m' a' w' → K σ' m' → a'.defers = a.defers → Q .normal a' w') → wpList P ops Q l a w
  | [], σ0, m, μ, a, w, _, h, .nil (σ := σ) hs hr, hk => hk μ σ m a w (Ext.refl _ _) (Nat.le_refl _) ⟨h.nt, h.defers, h.slots.sub hs, h.mem, h.dom⟩ hr rfl
  | o :: l, σ0, m, μ, a, w, hd, h0, hr, hk => by
    unfold wpList
    cases hr with
    | yes hsub hw hlen hop hr =>
      rename_i σ v m'
      have h : RepS nt F w0 μ σ m a w := ⟨h0.nt, h0.defers, h0.slots.sub hsub, h0.mem, h0.dom⟩
      rw [if_pos (want_ok h.slots hw)]
      refine .inl (hop.ok F w0 μ a w _ _ h.dom h.mem (fun x u _ hx => ev_ok h.slots hx) fun μ' y w' he hdm hm hv => ?_)
      refine run_sound l _ m' μ' _ w' (fun o' ho => hd o' (List.mem_cons_of_mem _ ho)) ⟨by rw [Act.size_put]; exact h.nt, by rw [Act.defers_put]; exact h.defers, (h.slots.mono (he.sub h.dom)).put hv fun t ht => by rw [h.nt]; exact hd o (List.mem_cons_self ..) t ht, hm, hdm⟩ hr
        fun μ'' σ'' m'' a'' w'' he' hl' hr2 hk2 hde => hk μ'' σ'' m'' a'' w'' (he.trans (he'.le hlen)) (Nat.le_trans hlen hl') hr2 hk2 (hde.trans (Act.defers_put _ _ _))
    | no hsub hw hr =>
      rename_i σ
      have h : RepS nt F w0 μ σ m a w := ⟨h0.nt, h0.defers, h0.slots.sub hsub, h0.mem, h0.dom⟩
      rw [if_neg (by rw [want_ok h.slots hw]; simp)]
      exact run_sound l _ m μ _ w (fun o' ho => hd o' (List.mem_cons_of_mem _ ho)) ⟨by rw [Act.size_put]; exact h.nt, by rw [Act.defers_put]; exact h.defers, h.slots.put (vr_undef _) fun t ht => by rw [h.nt]; exact hd o (List.mem_cons_self ..) t ht, h.mem, h.dom⟩ hr (fun μ' σ' m' a' w' he hl hr2 hk2 hde => hk μ' σ' m' a' w' he hl hr2 hk2 (hde.trans (Act.defers_put _ _ _)))
    | alt hsub hw ho h1 h2 =>
      rename_i σ v1 v2
      have h : RepS nt F w0 μ σ m a w := ⟨h0.nt, h0.defers, h0.slots.sub hsub, h0.mem, h0.dom⟩
      rw [if_pos (want_ok h.slots hw)]
      refine .inl ?_
      obtain ⟨y, hy, hv⟩ := ho.ok F w0 μ a w h.dom h.mem (fun x u _ hx => ev_ok h.slots hx)
      unfold Oper.wp
      rw [hy]
      rcases hv with hv | hv
      · exact run_sound l _ m μ _ w (fun o' ho => hd o' (List.mem_cons_of_mem _ ho)) ⟨by rw [Act.size_put]; exact h.nt, by rw [Act.defers_put]; exact h.defers, h.slots.put hv fun t ht => by rw [h.nt]; exact hd o (List.mem_cons_self ..) t ht, h.mem, h.dom⟩ h1 (fun μ' σ' m' a' w' he hl hr2 hk2 hde => hk μ' σ' m' a' w' he hl hr2 hk2 (hde.trans (Act.defers_put _ _ _)))
      · exact run_sound l _ m μ _ w (fun o' ho => hd o' (List.mem_cons_of_mem _ ho)) ⟨by rw [Act.size_put]; exact h.nt, by rw [Act.defers_put]; exact h.defers, h.slots.put hv fun t ht => by rw [h.nt]; exact hd o (List.mem_cons_self ..) t ht, h.mem, h.dom⟩ h2 (fun μ' σ' m' a' w' he hl hr2 hk2 hde => hk μ' σ' m' a' w' he hl hr2 hk2 (hde.trans (Act.defers_put _ _ _)))
/-- The ground of a state, laid anew: fewer blocks may change. -/
structure Reb (rd : Option Nat) (F : Nat → Prop) (w0 : World) (l : List Deferred) (F' : Nat → Prop) (w0' : World) (l' : List Deferred) : Prop where
  os : w0'.os = w0.os
  tape : w0'.tape = w0.tape
  output : w0'.output = w0.output
  size : w0.heap.size ≤ w0'.heap.size
  sub : ∀ k, F' k → F k
  frame : ∀ k, ¬ F k → w0'.heap[k]? = w0.heap[k]?
  new : ∀ d ∈ l', d ∈ l ∨ ∃ D, d = { target := .collected D, args := #[] } ∧ F D
  rnd : rd = none ∨ l' = l
theorem Reb.refl (rd F w0 l) : Reb rd F w0 l F w0 l := ⟨rfl, rfl, rfl, Nat.le_refl _, fun _ h => h, fun _ _ => rfl, fun _ h => .inl h, .inr rfl⟩
theorem Reb.trans {rd F w0 l F1 w1 l1 F2 w2 l2} (h : Reb rd F w0 l F1 w1 l1) (k : Reb rd F1 w1 l1 F2 w2 l2) : Reb rd F w0 l F2 w2 l2 :=
  ⟨k.os.trans h.os, k.tape.trans h.tape, k.output.trans h.output, Nat.le_trans h.size k.size, fun i hi => h.sub i (k.sub i hi), fun i hi => (k.frame i fun hk => hi (h.sub i hk)).trans (h.frame i hi), fun d hd => by
    rcases k.new d hd with h1 | ⟨D, h1, h2⟩
    · exact h.new d h1
    · exact .inr ⟨D, h1, h.sub D h2⟩, by
    rcases k.rnd with e | e
    · exact .inl e
    · rcases h.rnd with e' | e'
      · exact .inl e'
      · exact .inr (e.trans e')⟩
theorem RepM.unreb {rd F w0 l F1 w1 l1 μ m w} (hb : Reb rd F w0 l F1 w1 l1) (hup : Up F w0) (h : RepM F1 w1 μ m w) : RepM F w0 μ m w where
  os := h.os.trans hb.os
  tape := h.tape.trans hb.tape
  output := h.output.trans hb.output
  size := Nat.le_trans hb.size h.size
  frame k hk := (h.frame k fun h1 => hk (hb.sub k h1)).trans (hb.frame k hk)
  up := hup
  blk id B hB := let ⟨L, h1, h2, h3⟩ := h.blk id B hB; ⟨L, h1, h2, fun hr => hb.sub _ (h3 hr)⟩
  excl := h.excl
/-- Fences without bounds: outside of rounds, and in them. -/
def fw (rd : Option Nat) : Fence := { fn := fun _ => True, depth := none, alive := false, round := rd }
theorem room_fw (rd : Option Nat) (n : Nat) : (fw rd).room n := fun d h => by cases h
theorem stepsIn_fw {rd : Option Nat} {P : Program} {m m' : Machine} : StepsIn (Machine.fenced P (fw rd)) P m m' ↔ Steps P m m' := stepsIn_wide
theorem wpIn_n {rd : Option Nat} {n n' : Nat} {P : Program} {c : Code} {Q : Exit → Act → World → Prop} {a : Act} {w : World} (h : c.wpIn (fw rd) n P Q a w) : c.wpIn (fw rd) n' P Q a w :=
  fun b k cs h1 h2 _ => h b k cs h1 h2 (room_fw _ _)
def notDefer (o : Oper) : Bool := match o.op with | .defer _ => false | _ => true
theorem semAt_fw {rd : Option Nat} {o : Oper} (h : notDefer o = true) (ρ : Operand → Value) : Oper.semAt rd ρ o = execOp ρ o := by
  cases rd with
  | none => exact Oper.semAt_none ρ o
  | some l => exact Oper.semAt_some l ρ o fun c hc => by unfold notDefer at h; rw [hc] at h; cases h
theorem oper_in {rd : Option Nat} {n : Nat} {P : Program} {o : Oper} {a : Act} {w : World} {K K' : Act → World → Prop} {Q : Exit → Act → World → Prop} (hnd : notDefer o = true) (hK : ∀ a w, K a w → K' a w) (h : o.wp P a w K Q) : o.wpIn (fw rd) n P a w K' Q := by
  refine ⟨fun _ _ => trivial, ?_⟩
  rw [show (fw rd).round = rd from rfl, semAt_fw hnd]
  unfold Oper.wp at h
  generalize (execOp a.eval o).run P w = r at h
  unfold Oper.upon at h
  unfold Oper.uponIn
  split at h
  · exact hK _ _ h
  · exact hK _ _ h
  · exact hK _ _ h
  · refine ⟨fun h => (by cases h), ?_⟩
    have h2 := (callsIn_wide (n := n - 1)).2 h
    refine CallsIn.mono (F := fw rd) h2 ?_
    intro e w' he
    cases e with
    | returned v => exact hK _ _ he
    | panicked c => exact he
    | outgrown => exact he
  · refine ⟨fun h => (by cases h), fun c cs _ => ?_⟩
    obtain ⟨v, w', h1, h2⟩ := h c cs
    exact ⟨v, w', hK _ _ h1, stepsIn_fw.2 h2⟩
  · exact h
  · exact h.elim
theorem wpList_in {rd : Option Nat} {n : Nat} {P : Program} {ops : Array Oper} {Q : Exit → Act → World → Prop} (hlo : ¬ LetsOut Q) : ∀ (l : List Oper) (a : Act) (w : World), (∀ o ∈ l, notDefer o = true) → wpList P ops Q l a w → wpListIn (fw rd) n P ops Q l a w
  | [], a, w, _, h => h
  | o :: l, a, w, hnd, h => by
    unfold wpList at h
    unfold wpListIn
    have ih := wpList_in (P := P) (rd := rd) (n := n) (ops := ops) hlo l
    split at h
    · rename_i hw
      rw [if_pos hw]
      rcases h with h | h
      · exact oper_in (hnd o (List.mem_cons_self ..)) (fun a w => ih a w fun o' ho => hnd o' (List.mem_cons_of_mem _ ho)) h
      · exact absurd h.2 hlo
    · rename_i hw
      rw [if_neg hw]
      exact ⟨fun _ _ => trivial, ih _ _ (fun o' ho => hnd o' (List.mem_cons_of_mem _ ho)) h⟩
theorem wpOp_in {rd : Option Nat} {n : Nat} {P : Program} {ops : Array Oper} {Q : Exit → Act → World → Prop} {K K' : Act → World → Prop} {i : Nat} {a : Act} {w : World} (hlo : ¬ LetsOut Q) (hnd : ∀ o ∈ ops.toList, notDefer o = true) (hK : ∀ a w, K a w → K' a w) (h : wpOp P ops Q i K a w) : wpOpIn (fw rd) n P ops Q i K' a w := by
  unfold wpOp at h
  unfold wpOpIn
  cases ho : ops[i]? with
  | none => rw [ho] at h; exact hK _ _ h
  | some o =>
    rw [ho] at h
    dsimp only at h ⊢
    split at h
    · rename_i hw
      rw [if_pos hw]
      rcases h with h | h
      · exact oper_in (hnd o (Array.mem_toList_iff.2 (Array.mem_of_getElem? ho))) hK h
      · exact absurd h.2 hlo
    · rename_i hw
      rw [if_neg hw]
      exact ⟨fun _ _ => trivial, hK _ _ h⟩
theorem wpAny_in {rd : Option Nat} {n : Nat} {P : Program} {md : Region.Mode} {ops : Array Oper} {Q : Exit → Act → World → Prop} (hlo : ¬ LetsOut Q) (hnd : ∀ o ∈ ops.toList, notDefer o = true) : ∀ (fuel : Nat) (listed : Array Bool) (a : Act) (w : World), wpAny P md ops Q fuel listed a w → wpAnyIn (fw rd) n P md ops Q fuel listed a w
  | 0, _, _, _, h => h
  | fuel + 1, listed, a, w, h => ⟨h.1, fun i hi => wpOp_in hlo hnd (fun a w => wpAny_in hlo hnd fuel _ a w) (h.2 i hi)⟩
/-- The states in which code may be left. -/
def Pt (rd : Option Nat) (nt n0 : Nat) (F : Nat → Prop) (w0 : World) (μ : Mu) (l : List Deferred) (Q : Exit → Slots → Mem → Prop) : Exit → Act → World → Prop :=
  fun e a' w' => ∃ F' w0' μ' σ' m', Reb rd F w0 l F' w0' a'.defers ∧ Ext n0 μ μ' ∧ RepS nt F' w0' μ' σ' m' a' w' ∧ Q e σ' m'
theorem Pt.lift {rd nt n0 F w0 μ l F1 w1 μ1 l1} {Q : Exit → Slots → Mem → Prop} {e a w} (hb : Reb rd F w0 l F1 w1 l1) (he : Ext n0 μ μ1) (h : Pt rd nt n0 F1 w1 μ1 l1 Q e a w) : Pt rd nt n0 F w0 μ l Q e a w := by
  obtain ⟨F', w0', μ', σ', m', h1, h2, h3, h4⟩ := h
  exact ⟨F', w0', μ', σ', m', hb.trans h1, he.trans h2, h3, h4⟩
theorem Pt.of {rd nt n0 F w0 μ σ m a w} {Q : Exit → Slots → Mem → Prop} {e} (hr : RepS nt F w0 μ σ m a w) (h : Q e σ m) : Pt rd nt n0 F w0 μ a.defers Q e a w := ⟨F, w0, μ, σ, m, Reb.refl _ _ _ _, Ext.refl _ _, hr, h⟩
theorem Pt.mono {rd nt n0 F w0 μ l} {Q Q' : Exit → Slots → Mem → Prop} {e a w} (hq : ∀ σ m, Q e σ m → Q' e σ m) (h : Pt rd nt n0 F w0 μ l Q e a w) : Pt rd nt n0 F w0 μ l Q' e a w := by
  obtain ⟨F', w0', μ', σ', m', h1, h2, h3, h4⟩ := h
  exact ⟨F', w0', μ', σ', m', h1, h2, h3, hq _ _ h4⟩
/-- There is no range over a function in the code. -/
def noRF : Code → Bool
  | .rangeFunc .. => false
  | .seq x y => noRF x && noRF y
  | .cond _ x y => noRF x && noRF y
  | .block _ x => noRF x
  | .loop x => noRF x
  | .scope x => noRF x
  | _ => true
/-- In a round the code has no loop of that kind of its own. -/
def RfOK (rd : Option Nat) (c : Code) : Prop := rd = none ∨ noRF c = true
theorem RfOK.none {c} : RfOK none c := .inl rfl
theorem RfOK.l {rd x y} (h : RfOK rd (.seq x y)) : RfOK rd x := h.imp id fun h => by rw [noRF, Bool.and_eq_true] at h; exact h.1
theorem RfOK.r {rd x y} (h : RfOK rd (.seq x y)) : RfOK rd y := h.imp id fun h => by rw [noRF, Bool.and_eq_true] at h; exact h.2
theorem RfOK.cl {rd c x y} (h : RfOK rd (.cond c x y)) : RfOK rd x := h.imp id fun h => by rw [noRF, Bool.and_eq_true] at h; exact h.1
theorem RfOK.cr {rd c x y} (h : RfOK rd (.cond c x y)) : RfOK rd y := h.imp id fun h => by rw [noRF, Bool.and_eq_true] at h; exact h.2
theorem RfOK.blk {rd i x} (h : RfOK rd (.block i x)) : RfOK rd x := h.imp id fun h => by rw [noRF] at h; exact h
theorem RfOK.lp {rd x} (h : RfOK rd (.loop x)) : RfOK rd x := h.imp id fun h => by rw [noRF] at h; exact h
/-- Code from a state on: the first n0 blocks keep their places. -/
structure AW (P : Program) (nt n0 : Nat) (c : Code) (Q : Exit → Slots → Mem → Prop) (σ : Slots) (m : Mem) : Prop where
  wp : ∀ rd F w0 μ a w, RfOK rd c → RepS nt F w0 μ σ m a w → c.wpIn (fw rd) 3 P (Pt rd nt n0 F w0 μ a.defers Q) a w
section
variable {P : Program} {nt n0 : Nat} {Q Q' : Exit → Slots → Mem → Prop} {σ : Slots} {m : Mem}
theorem AW.mono {c : Code} (h : AW P nt n0 c Q σ m) (hq : ∀ e σ m, Q e σ m → Q' e σ m) : AW P nt n0 c Q' σ m :=
  ⟨fun rd F w0 μ a w hd hr => wpIn_mono (h.wp rd F w0 μ a w hd hr) fun e _ _ => Pt.mono (hq e)⟩
theorem aw_skip (h : Q .normal σ m) : AW P nt n0 .skip Q σ m := ⟨fun _ _ _ _ _ _ _ hr => wpIn_skip (.of hr h)⟩
theorem aw_exit {id : Nat} (h : Q (.exit id) σ m) : AW P nt n0 (.exit id) Q σ m := ⟨fun _ _ _ _ _ _ _ hr => wpIn_exit (.of hr h)⟩
theorem aw_ret (h : Q .ret σ m) : AW P nt n0 .ret Q σ m := ⟨fun _ _ _ _ _ _ _ hr => wpIn_ret (.of hr h)⟩
def ThenA (N : Slots → Mem → Prop) (Q : Exit → Slots → Mem → Prop) : Exit → Slots → Mem → Prop
  | .normal, σ, m => N σ m
  | e, σ, m => Q e σ m
theorem Pt.pass {rd nt n0 F w0 μ l} {N : Slots → Mem → Prop} {Q : Exit → Slots → Mem → Prop} {e a w} (he : e ≠ .normal) (h : Pt rd nt n0 F w0 μ l (ThenA N Q) e a w) : Pt rd nt n0 F w0 μ l Q e a w :=
  h.mono fun σ m hq => by cases e <;> first | exact absurd rfl he | exact hq
theorem aw_seq {x y : Code} (h : AW P nt n0 x (ThenA (AW P nt n0 y Q) Q) σ m) : AW P nt n0 (.seq x y) Q σ m := ⟨fun rd F w0 μ a w hd hr =>
  wpIn_seq (wpIn_mono (h.wp rd F w0 μ a w hd.l hr) fun e a' w' hp => by
    cases e with
    | normal =>
      obtain ⟨F1, w1, μ1, σ1, m1, h1, h2, h3, h4⟩ := hp
      exact wpIn_mono (h4.wp rd F1 w1 μ1 a' w' hd.r h3) fun _ _ _ => Pt.lift h1 h2
    | _ => exact hp.pass (by simp))⟩
theorem aw_cond {c : Operand} {x y : Code} {b : Bool} (hc : ev σ c = some (.bool b)) (h1 : b = true → AW P nt n0 x Q σ m) (h0 : b = false → AW P nt n0 y Q σ m) : AW P nt n0 (.cond c x y) Q σ m := ⟨fun rd F w0 μ a w hd hr =>
  wpIn_cond_split (ev_ok hr.slots hc).bool' (fun e => (h1 e).wp rd F w0 μ a w hd.cl hr) (fun e => (h0 e).wp rd F w0 μ a w hd.cr hr)⟩
def BlockA (id : Nat) (Q : Exit → Slots → Mem → Prop) : Exit → Slots → Mem → Prop
  | .exit k, σ, m => cond (Nat.beq k id) (Q .normal σ m) (Q (.exit k) σ m)
  | e, σ, m => Q e σ m
theorem aw_block {id : Nat} {c : Code} (h : AW P nt n0 c (BlockA id Q) σ m) : AW P nt n0 (.block id c) Q σ m := ⟨fun rd F w0 μ a w hd hr =>
  wpIn_block (wpIn_mono (h.wp rd F w0 μ a w hd.blk hr) fun e a' w' ⟨F', w0', μ', σ', m', hb, h1, h2, h3⟩ => by
    cases e with
    | exit k =>
      simp only [BlockA] at h3
      simp only [Exit.inBlock]
      by_cases hk : k = id
      · subst hk
        rw [show Nat.beq k k = true from Nat.beq_refl k] at h3
        rw [if_pos rfl]
        exact ⟨F', w0', μ', σ', m', hb, h1, h2, h3⟩
      · have hb' : Nat.beq k id = false := by
          cases hb : Nat.beq k id with
          | false => rfl
          | true => exact absurd (Nat.eq_of_beq_eq_true hb) hk
        rw [hb'] at h3
        rw [if_neg hk]
        exact ⟨F', w0', μ', σ', m', hb, h1, h2, h3⟩
    | _ => exact ⟨F', w0', μ', σ', m', hb, h1, h2, h3⟩)⟩
/-- A loop: a relation I with a measure; a round ends in a state whose relation has a smaller measure. -/
theorem aw_loop {c : Code} (I : Nat → Slots → Mem → Prop) {k : Nat} (h0 : I k σ m) (hr : ∀ k σ m, I k σ m → AW P nt n0 c (ThenA (fun σ' m' => ∃ k', k' < k ∧ I k' σ' m') Q) σ m) : AW P nt n0 (.loop c) Q σ m := by
  constructor
  intro rd F w0 μ a w hd hR b K cs hro hb hroom
  have key : ∀ n k, k = n → ∀ σ m F1 w1 μ1 a1 w', I k σ m → Reb rd F w0 a.defers F1 w1 a1.defers → Ext n0 μ μ1 → RepS nt F1 w1 μ1 σ m a1 w' →
      ∃ e a' w'', Pt rd nt n0 F w0 μ a.defers Q e a' w'' ∧ ArrivesIn (Machine.fenced P (fw rd)) P (lone (b.atR a1 (.code c :: .inLoop c :: K)) cs w') b K cs e a' w'' := by
    intro n
    induction n using Nat.strongRecOn with
    | _ n ih =>
      intro k hk σ m F1 w1 μ1 a1 w' hI hre he hR
      obtain ⟨e, a₁, w₁, hp, harr⟩ := (hr k σ m hI).wp rd F1 w1 μ1 a1 w' hd.lp hR b (.inLoop c :: K) cs hro hb (room_fw _ _)
      cases e with
      | normal =>
        obtain ⟨F2, w2, μ2, σ2, m2, j0, j1, j2, k', hlt, hI'⟩ := hp
        obtain ⟨e₂, a₂, w₂, hq₂, harr₂⟩ := ih k' (hk ▸ hlt) k' rfl σ2 m2 F2 w2 μ2 a₁ w₁ hI' (hre.trans j0) (he.trans j1) j2
        exact ⟨e₂, a₂, w₂, hq₂, .of_steps (StepsIn.trans harr (.one (fenced_calm hb (room_fw _ (cs.length + 1 + 3)) rfl) stepR_inLoop)) harr₂⟩
      | _ => exact ⟨_, a₁, w₁, (hp.pass (by simp)).lift hre he, .pass (x := .inLoop c) rfl (fun _ _ => .inl (by simp)) harr⟩
  obtain ⟨e, a', w', hq, harr⟩ := key k k rfl σ m F w0 μ a w h0 (Reb.refl _ _ _ _) (Ext.refl _ _) hR
  exact ⟨e, a', w', hq, .of_steps (.one (fenced_calm hb (room_fw _ (cs.length + 1 + 3)) rfl) stepR_loop) harr⟩
/-- A loop's head, ahead of a round. -/
structure AWL (P : Program) (nt n0 : Nat) (c : Code) (Q : Exit → Slots → Mem → Prop) (σ : Slots) (m : Mem) : Prop where
  arr : ∀ rd F w0 μ a w, RfOK rd c → RepS nt F w0 μ σ m a w → ∀ (b : Frame) K cs, b.roundOf = rd → ∃ e a' w', Pt rd nt n0 F w0 μ a.defers Q e a' w' ∧ ArrivesIn (Machine.fenced P (fw rd)) P (lone (b.atR a (.code c :: .inLoop c :: K)) cs w) b K cs e a' w'
theorem dstsOK_spec {ops : Array Oper} (h : dstsOK nt ops = true) : ∀ o ∈ ops.toList, ∀ d, o.dst = some d → d < nt := fun o ho d hd => by
  have := (Bool.and_eq_true_iff.1 (List.all_eq_true.1 h o ho)).1
  unfold dstOK at this
  simp only [hd] at this
  exact Nat.blt_eq.mp this
theorem dstsOK_nd {ops : Array Oper} (h : dstsOK nt ops = true) : ∀ o ∈ ops.toList, notDefer o = true := fun o ho => (Bool.and_eq_true_iff.1 (List.all_eq_true.1 h o ho)).2
/-- What is left at a region's end. -/
def NormalQ (N : Act → World → Prop) : Exit → Act → World → Prop
  | .normal, a, w => N a w
  | _, _, _ => False
theorem aw_region {id : Nat} {ops : Array Oper} (hd : dstsOK nt ops = true) (hn : n0 ≤ m.length) (h : Run P ops (fun σ' m' => Q .normal σ' m') ops.toList σ m) : AW P nt n0 (.region id ops false) Q σ m := ⟨fun rd F w0 μ a w _ hr => by
  refine wpIn_mono (Q := NormalQ fun a' w' => Pt rd nt n0 F w0 μ a.defers Q .normal a' w' ) (wpIn_region_list (wpList_in (fun ⟨_, _, h⟩ => h) _ _ _ (dstsOK_nd hd) (run_sound ops.toList σ m μ a w (dstsOK_spec hd) hr h fun μ' σ' m' a' w' he _ hr' hq hde => ⟨F, w0, μ', σ', m', hde ▸ Reb.refl _ _ _ _, he.le hn, hr', hq⟩))) ?_
  intro e a' w' hq
  cases e <;> first | exact hq | exact hq.elim⟩
end
/-! ### functions -/
/-- A call of f with these arguments, these blocks: it returns r, and leaves the blocks m'. -/
structure ACalls (P : Program) (f : FuncId) (args : List Value) (m : Mem) (r : Value) (m' : Mem) : Prop where
  calls : ∀ F w0 μ w (ys : Array Value), Dom μ m.length → RepM F w0 μ m w → ys.size = args.length → (∀ (i : Nat) x y, args[i]? = some x → ys[i]? = some y → VR μ x y) →
    Calls P f ys w fun e w' => ∃ μ' y, e = .returned y ∧ Ext m.length μ μ' ∧ Dom μ' m'.length ∧ RepM F w0 μ' m' w' ∧ VR μ' r y
def argSlots : Nat → List Value → Slots
  | _, [] => []
  | k, v :: l => (k, v) :: argSlots (k + 1) l
theorem look_args : ∀ (l : List Value) (k t : Nat) (v : Value), look (argSlots k l) t = some v → k ≤ t ∧ l[t - k]? = some v
  | [], _, _, _, h => by cases h
  | u :: l, k, t, v, h => by
    simp only [argSlots, look] at h
    by_cases hk : k = t
    · subst hk
      simp only [show Nat.beq k k = true from Nat.beq_refl k, cond_true, Option.some.injEq] at h
      subst h
      exact ⟨Nat.le_refl _, by simp⟩
    · have hb : Nat.beq k t = false := by
        cases hb : Nat.beq k t with
        | false => rfl
        | true => exact absurd (Nat.eq_of_beq_eq_true hb) hk
      rw [hb] at h
      obtain ⟨h1, h2⟩ := look_args l (k + 1) t v h
      refine ⟨by omega, ?_⟩
      rw [show t - k = (t - (k + 1)) + 1 by omega, List.getElem?_cons_succ]
      exact h2
/-- The value that a function returns, out of its last state. -/
def ResOK (P : Program) : List ResultVar → Slots → Mem → List Value → Prop
  | [], _, _, vs => vs = []
  | .tmp t :: l, σ, m, vs => ∃ v vs', look σ t = some v ∧ vs = v :: vs' ∧ ResOK P l σ m vs'
  | .cell t ty :: l, σ, m, vs => ∃ id o B v vs', look σ t = some (.pointer (some ⟨id, o, none⟩)) ∧ live m id = some B ∧ Nat.beq B.z mapZ = false ∧
      ((∃ d, P.underlying ty = some d ∧ (match d with | .struct _ => False | .array .. => False | _ => True) ∧ B.cells[o]? = some v) ∨
       (∃ d n, P.underlying ty = some d ∧ (match d with | .struct _ => True | .array .. => True | _ => False) ∧ (P.info? ty).map (·.size) = some n ∧ o + n ≤ B.cells.length ∧ v = .agg ((B.cells.drop o).take n).toArray)) ∧
      vs = v :: vs' ∧ ResOK P l σ m vs'
def retOf : List Value → Value
  | [v] => v
  | vs => .tuple vs.toArray
/-- Blocks are numbered anew, or let go: g says which old number a new one has; the first n0 stay. -/
def Renum (n0 : Nat) (g : Nat → Nat) (m m' : Mem) : Prop :=
  (∀ i, i < n0 → g i = i) ∧ n0 ≤ m'.length ∧ (∀ i, m'.length ≤ i → m.length ≤ g i) ∧
  (∀ i B, live m' i = some B → ∃ B', live m (g i) = some B' ∧ WkL B'.cells (renL g B.cells) ∧ B'.rw = B.rw ∧ B'.z = B.z) ∧
  (∀ i j B B', live m' i = some B → live m' j = some B' → i ≠ j → g i ≠ g j)
theorem VR.ren {μ : Mu} {g : Nat → Nat} : ∀ {x y : Value}, VR μ (ren g x) y → VR (fun i => μ (g i)) x y := by
  intro x y h
  generalize hx : Av.ren g x = x' at h
  induction h generalizing x with
  | func a b c d ih1 ih2 =>
    unfold Av.ren at hx
    split at hx
    case h_4 =>
      injection hx with e1 e2 e3
      subst e1
      rw [renA_eq] at e2 e3
      subst e2 e3
      exact .func (by simpa using a) (fun i u v hu hv => ih1 i _ _ (by simp [hu]) hv rfl) (by simpa using c) (fun i u v hu hv => ih2 i _ _ (by simp [hu]) hv rfl)
    all_goals first | (cases hx; done) | (subst hx; exfalso; rename_i hh _ _ _; first | exact hh _ _ _ rfl | (simp_all; done))
  | iface a ih =>
    unfold Av.ren at hx
    split at hx
    case h_5 =>
      injection hx with e1 e2
      subst e1
      exact .iface (ih e2)
    all_goals first | (cases hx; done) | (subst hx; exfalso; simp_all; done)
  | agg a b ih =>
    unfold Av.ren at hx
    split at hx
    case h_6 =>
      injection hx with e1
      rw [renA_eq] at e1
      subst e1
      exact .agg (by simpa using a) fun i u v hu hv => ih i _ _ (by simp [hu]) hv rfl
    all_goals first | (cases hx; done) | (subst hx; exfalso; simp_all; done)
  | tuple a b ih =>
    unfold Av.ren at hx
    split at hx
    case h_7 =>
      injection hx with e1
      rw [renA_eq] at e1
      subst e1
      exact .tuple (by simpa using a) fun i u v hu hv => ih i _ _ (by simp [hu]) hv rfl
    all_goals first | (cases hx; done) | (subst hx; exfalso; simp_all; done)
  | ptr hL =>
    unfold Av.ren at hx
    split at hx
    case h_1 a =>
      obtain ⟨i, o, s⟩ := a
      simp only [Value.pointer.injEq, Option.some.injEq, Addr.mk.injEq] at hx
      obtain ⟨rfl, rfl, rfl⟩ := hx
      exact .ptr hL
    all_goals first | (cases hx; done) | (subst hx; exfalso; simp_all; done)
  | slc hL a b c d =>
    unfold Av.ren at hx
    split at hx
    case h_2 a _ _ =>
      obtain ⟨i, o, s⟩ := a
      simp only [Value.slice.injEq, Option.some.injEq, Addr.mk.injEq] at hx
      obtain ⟨⟨rfl, rfl, rfl⟩, rfl, rfl⟩ := hx
      exact .slc hL a b c d
    all_goals first | (cases hx; done) | (subst hx; exfalso; simp_all; done)
  | slcNil =>
    unfold Av.ren at hx
    split at hx
    case h_2 a _ _ =>
      obtain ⟨i, o, s⟩ := a
      simp only [Value.slice.injEq, Option.some.injEq, Addr.mk.injEq] at hx
      obtain ⟨⟨rfl, rfl, rfl⟩, rfl, rfl⟩ := hx
      exact .slcNil
    all_goals first | (cases hx; done) | (subst hx; exfalso; simp_all; done)
  | slcLit =>
    unfold Av.ren at hx
    split at hx
    case h_2 a _ _ =>
      obtain ⟨i, o, s⟩ := a
      simp only [Value.slice.injEq, Option.some.injEq, Addr.mk.injEq] at hx
      obtain ⟨⟨rfl, rfl, rfl⟩, rfl, rfl⟩ := hx
      exact .slcLit
    all_goals first | (cases hx; done) | (subst hx; exfalso; simp_all; done)
  | slcOdd =>
    unfold Av.ren at hx
    split at hx
    case h_2 a _ _ =>
      obtain ⟨i, o, s⟩ := a
      simp only [Value.slice.injEq, Option.some.injEq, Addr.mk.injEq] at hx
      obtain ⟨⟨rfl, rfl, rfl⟩, rfl, rfl⟩ := hx
      exact .slcOdd
    all_goals first | (cases hx; done) | (subst hx; exfalso; simp_all; done)
  | slcCap hL a b c =>
    unfold Av.ren at hx
    split at hx
    case h_2 a' _ _ =>
      obtain ⟨i, o, s⟩ := a'
      simp only [Value.slice.injEq, Option.some.injEq, Addr.mk.injEq] at hx
      obtain ⟨⟨rfl, rfl, rfl⟩, rfl, rfl⟩ := hx
      exact .slcCap hL a b c
    all_goals first | (cases hx; done) | (subst hx; exfalso; simp_all; done)
  | map hL =>
    unfold Av.ren at hx
    split at hx
    case h_3 r =>
      simp only [Value.map.injEq, Option.some.injEq] at hx
      subst hx
      exact .map hL
    all_goals first | (cases hx; done) | (subst hx; exfalso; simp_all; done)
  | bool b => unfold Av.ren at hx; split at hx <;> first | (cases hx; done) | (subst hx; exact .bool _)
  | int k n => unfold Av.ren at hx; split at hx <;> first | (cases hx; done) | (subst hx; exact .int _ _)
  | string s => unfold Av.ren at hx; split at hx <;> first | (cases hx; done) | (subst hx; exact .string _)
  | pnil => unfold Av.ren at hx; split at hx <;> first | (cases hx; done) | (subst hx; exact .pnil)
  | snil => unfold Av.ren at hx; split at hx <;> first | (cases hx; done) | (subst hx; exact .snil)
  | fnil => unfold Av.ren at hx; split at hx <;> first | (cases hx; done) | (subst hx; exact .fnil)
  | inil => unfold Av.ren at hx; split at hx <;> first | (cases hx; done) | (subst hx; exact .inil)
  | mnil => unfold Av.ren at hx; split at hx <;> first | (cases hx; done) | (subst hx; exact .mnil)
theorem RepM.renum {F w0 μ m w} (h : RepM F w0 μ m w) {n0 : Nat} {g : Nat → Nat} {m' : Mem} (hg : Renum n0 g m m') : RepM F w0 (fun i => μ (g i)) m' w where
  os := h.os
  tape := h.tape
  output := h.output
  size := h.size
  frame := h.frame
  up := h.up
  blk i B hB := by
    obtain ⟨B', h1, h2, h3, h4⟩ := hg.2.2.2.1 i B hB
    obtain ⟨L, k1, k2, k3⟩ := h.blk _ B' h1
    have hlen : B'.cells.length = B.cells.length := by have := h2.len; rwa [renL_eq, List.length_map] at this
    refine ⟨L, k1, ⟨fun hr => k2.rw (h3.trans hr), k2.z.trans h4, fun j x hx => ?_, fun hr hb => hlen ▸ h4 ▸ k2.row (hr.imp id h4.trans) (hb.of (fun h => h3.trans h) h2.ne), fun h => k2.mN (h4.trans h)⟩, fun hr => k3 (hr.of fun h => h3.trans h)⟩
    obtain ⟨u, hu, hw⟩ := h2.get hx
    obtain ⟨y, j1, j2⟩ := k2.cells j u hu
    exact ⟨y, h4 ▸ j1, (hw.vr j2).ren⟩
  excl i j B B' L L' h1 h2 hne hl hl' hr hb := by
    obtain ⟨B1, a1, a2, a3, a4⟩ := hg.2.2.2.1 i B h1
    obtain ⟨B2, b1, b2, b3, b4⟩ := hg.2.2.2.1 j B' h2
    refine h.excl (g i) (g j) B1 B2 L L' a1 b1 (hg.2.2.2.2 i j B B' h1 h2 hne) hl hl' (hr.of fun h => a3.trans h) (hb.of (fun h => b3.trans h) b2.ne)
theorem Renum.ext {μ : Mu} {n0 g m m'} (hg : Renum n0 g m m') : Ext n0 μ (fun i => μ (g i)) := fun i hi => congrArg μ (hg.1 i hi)
theorem Renum.dom {μ : Mu} {n0 g m m'} (hg : Renum n0 g m m') (hd : Dom μ m.length) : Dom (fun i => μ (g i)) m'.length := fun i hi => hd _ (hg.2.2.1 i hi)
/-- A state is written in another way: slots are let go, blocks are numbered anew. -/
theorem aw_renum {P : Program} {nt n0 : Nat} {Q : Exit → Slots → Mem → Prop} {σ σ' : Slots} {m m' : Mem} {c : Code} (g : Nat → Nat) (hg : Renum n0 g m m') (hs : ∀ t v, look σ' t = some v → ∃ u, look σ t = some u ∧ Wk u (ren g v))
    (h : AW P nt n0 c Q σ' m') : AW P nt n0 c Q σ m := ⟨fun rd F w0 μ a w hd hr =>
  wpIn_mono (h.wp rd F w0 (fun i => μ (g i)) a w hd ⟨hr.nt, hr.defers, fun t v ht => let ⟨u, h1, h2⟩ := hs t v ht; ⟨(hr.slots t _ h1).1, (h2.vr (hr.slots t _ h1).2).ren⟩, hr.mem.renum hg, hg.dom hr.dom⟩)
    fun _ _ _ => Pt.lift (Reb.refl _ _ _ _) hg.ext⟩
/-- A block of no room is added. -/
theorem aw_ghost {P : Program} {nt n0 : Nat} {Q : Exit → Slots → Mem → Prop} {σ : Slots} {m : Mem} {c : Code} (z : Nat) (hn : Nat.ble n0 m.length = true) (h : AW P nt n0 c Q σ (m ++ [some ⟨[], true, z⟩])) (hz : z ≠ mapZ := by decide) : AW P nt n0 c Q σ m := ⟨fun rd F w0 μ a w hd hr =>
  wpIn_mono (h.wp rd F w0 (μ.set m.length ⟨0, 0, 0, z, true⟩) a w hd ⟨hr.nt, hr.defers, hr.slots.mono (Mu.set_sub (hr.dom _ (Nat.le_refl _))), hr.mem.ghost hr.dom z, by simpa using Mu.set_dom hr.dom⟩)
    fun _ _ _ => Pt.lift (Reb.refl _ _ _ _) (Mu.set_ext.le (Nat.le_of_ble_eq_true hn))⟩
/-- The same ahead of an operation. -/
theorem OpOK.ghost {P : Program} {o : Oper} {ρ : Operand → Option Value} {m m' : Mem} {v : Value} (z : Nat) (h : OpOK P o ρ (m ++ [some ⟨[], true, z⟩]) v m') (hz : z ≠ mapZ := by decide) : OpOK P o ρ m v m' := ⟨fun F w0 μ a w K Q hd hm ho hk =>
  h.ok F w0 (μ.set m.length ⟨0, 0, 0, z, true⟩) a w K Q (by simpa using Mu.set_dom hd) (hm.ghost hd z) (fun x u hx hu => (ho x u hx hu).mono (Mu.set_sub (hd _ (Nat.le_refl _))))
    fun μ' y w' he hd' hm' hv => hk μ' y w' (Mu.set_ext.trans (he.le (by simp))) hd' hm' hv⟩
end Go.Proofs.YtdenooeaiicheaaGreat.Av
/- Walking in numbers of one's own: what the operations do that leave memory alone. -/
namespace Go.Proofs.YtdenooeaiicheaaGreat.Av
class Ty (P : Program) (t : TypeId) (d : outParam TypeDesc) : Prop where
  eq : P.underlying t = some d
class TyF (P : Program) (t : TypeId) (fs : outParam (List (TypeId × Nat))) : Prop where
  eq : ∃ gs : Array Field, P.underlying t = some (.struct gs) ∧ gs.toList.map (fun f => (f.type, f.offset)) = fs
class TyI (P : Program) (t : TypeId) (n b : outParam Nat) (z : outParam (List Value)) : Prop where
  eq : (P.info? t).map (fun i => (i.size, i.bytes, i.zero.map Value.cells)) = some (n, b, some z.toArray)
theorem TyI.ex {P t n b z} [h : TyI P t n b z] : ∃ i v, P.info? t = some i ∧ i.size = n ∧ i.bytes = b ∧ i.zero = some v ∧ v.cells = z.toArray := by
  have h := h.eq
  cases hi : P.info? t with
  | none => rw [hi] at h; cases h
  | some i =>
    rw [hi] at h
    simp only [Option.map_some, Option.some.injEq, Prod.mk.injEq] at h
    obtain ⟨h1, h2, h3⟩ := h
    cases hz : i.zero with
    | none => rw [hz] at h3; cases h3
    | some v => rw [hz] at h3; simp at h3; exact ⟨i, v, rfl, h1, h2, hz, h3⟩
def aggD : TypeDesc → Bool
  | .struct _ => true
  | .array .. => true
  | _ => false
theorem wrap_id {k : IntKind} {n : Int} (h1 : k.min ≤ n) (h2 : n ≤ k.max) : k.wrap n = n := by
  cases k <;> simp [IntKind.min, IntKind.max, IntKind.wrap, IntKind.signed, IntKind.bits] at * <;> omega
theorem wrap64 {n : Int} (h : -9223372036854775808 ≤ n ∧ n ≤ 9223372036854775807) : IntKind.i64.wrap n = n := wrap_id (by simp [IntKind.min, IntKind.signed, IntKind.bits]; omega) (by simp [IntKind.max, IntKind.signed, IntKind.bits]; omega)
theorem run_und {P : Program} {t d} (h : P.underlying t = some d) (w : World) : (underlying t).run P w = .ok d w := by
  simp [underlying, h]
theorem run_info {P : Program} {t i} (h : P.info? t = some i) (w : World) : (typeInfo t).run P w = .ok i w := by
  simp [typeInfo, h]
theorem run_size {P : Program} {t i} (h : P.info? t = some i) (w : World) : (sizeOf t).run P w = .ok i.size w := by
  simp [sizeOf, run_info h]
theorem run_isAgg {P : Program} {t d} (h : P.underlying t = some d) (w : World) : (isAgg t).run P w = .ok (aggD d) w := by
  simp only [isAgg, Sem.run_bind, run_und h, Result.andThen_ok]
  cases d <;> rfl
section
variable {P : Program} {ρ : Operand → Option Value} {m : Mem} {d : Option Tmp} {t : TypeId} {pp : String} {af : Array Edge} {g : Option (Nat × Bool)}
theorem OpOK.val {o : Oper} {v : Value} (h : ∀ F w0 μ (a : Act) w, Dom μ m.length → RepM F w0 μ m w → (∀ x u, x ∈ o.op.operands → ρ x = some u → VR μ u (a.eval x)) → ∃ y, (execOp a.eval o).run P w = .ok (.value y) w ∧ VR μ v y) : OpOK P o ρ m v m := by
  constructor
  intro F w0 μ a w K Q hd hm ho hk
  obtain ⟨y, h1, h2⟩ := h F w0 μ a w hd hm ho
  unfold Oper.wp
  rw [h1]
  exact hk μ y w (Ext.refl _ _) hd hm h2
theorem OpOK.gen {o : Oper} {v : Value} {m' : Mem} (h : ∀ F w0 μ (a : Act) w, Dom μ m.length → RepM F w0 μ m w → (∀ x u, x ∈ o.op.operands → ρ x = some u → VR μ u (a.eval x)) →
    ∃ y w' μ', (execOp a.eval o).run P w = .ok (.value y) w' ∧ Ext m.length μ μ' ∧ Dom μ' m'.length ∧ RepM F w0 μ' m' w' ∧ VR μ' v y) : OpOK P o ρ m v m' := by
  constructor
  intro F w0 μ a w K Q hd hm ho hk
  obtain ⟨y, w', μ', h1, h2, h3, h4, h5⟩ := h F w0 μ a w hd hm ho
  unfold Oper.wp
  rw [h1]
  exact hk μ' y w' h2 h3 h4 h5
theorem OpOK.skip {o : Oper} {m' : Mem} (h : ∀ F w0 μ (a : Act) w, Dom μ m.length → RepM F w0 μ m w → (∀ x u, x ∈ o.op.operands → ρ x = some u → VR μ u (a.eval x)) →
    ∃ w', (execOp a.eval o).run P w = .ok .skip w' ∧ Dom μ m'.length ∧ RepM F w0 μ m' w') : OpOK P o ρ m undef m' := by
  constructor
  intro F w0 μ a w K Q hd hm ho hk
  obtain ⟨w', h1, h3, h4⟩ := h F w0 μ a w hd hm ho
  unfold Oper.wp
  rw [h1]
  exact hk μ undef w' (Ext.refl _ _) h3 h4 (vr_undef _)
theorem ok_move {x v} (hx : ρ x = some v) : OpOK P ⟨d, .move x, t, pp, af, g⟩ ρ m v m := .val fun _ _ _ a _ _ _ ho => ⟨a.eval x, rfl, ho x v (by simp [Op.operands]) hx⟩
theorem ok_assign {x v} (hx : ρ x = some v) : OpOK P ⟨d, .assign x, t, pp, af, g⟩ ρ m v m := .val fun _ _ _ a _ _ _ ho => ⟨a.eval x, rfl, ho x v (by simp [Op.operands]) hx⟩
theorem ok_pick {c x y b vx vy} (hc : ρ c = some (.bool b)) (hx : ρ x = some vx) (hy : ρ y = some vy) : OpOK P ⟨d, .pick c x y, t, pp, af, g⟩ ρ m (cond b vx vy) m := .val fun _ _ _ a w _ _ ho => by
  have hb := (ho c _ (by simp [Op.operands]) hc).bool'
  refine ⟨cond b (a.eval x) (a.eval y), ?_, ?_⟩
  · simp only [execOp, hb, asBool, Sem.run_bind, Sem.run_pure, Result.andThen_ok]
    cases b <;> rfl
  · cases b
    · exact ho y _ (by simp [Op.operands]) hy
    · exact ho x _ (by simp [Op.operands]) hx
theorem ok_pick1 {c x y vx} (hc : ρ c = some (.bool true)) (hx : ρ x = some vx) : OpOK P ⟨d, .pick c x y, t, pp, af, g⟩ ρ m vx m := .val fun _ _ _ a w _ _ ho => by
  have hb := (ho c _ (by simp [Op.operands]) hc).bool'
  refine ⟨a.eval x, ?_, ho x _ (by simp [Op.operands]) hx⟩
  simp only [execOp, hb, asBool, Sem.run_bind, Sem.run_pure, Result.andThen_ok]; rfl
theorem ok_pick0 {c x y vy} (hc : ρ c = some (.bool false)) (hy : ρ y = some vy) : OpOK P ⟨d, .pick c x y, t, pp, af, g⟩ ρ m vy m := .val fun _ _ _ a w _ _ ho => by
  have hb := (ho c _ (by simp [Op.operands]) hc).bool'
  refine ⟨a.eval y, ?_, ho y _ (by simp [Op.operands]) hy⟩
  simp only [execOp, hb, asBool, Sem.run_bind, Sem.run_pure, Result.andThen_ok]; rfl
/-! ### integers -/
theorem ok_bin {op xt x y yt k a b v} (hp : plain 4 v = true) (hx : ρ x = some (.int k a)) (hy : ρ y = some (.int k b)) (h : ∀ w, (binOp op xt (.int k a) (.int k b)).run P w = .ok v w) : OpOK P ⟨d, .binOp op xt x y yt, t, pp, af, g⟩ ρ m v m := .val fun _ _ _ A w _ _ ho => by
  have h1 := (ho x _ (by simp [Op.operands]) hx).int'
  have h2 := (ho y _ (by simp [Op.operands]) hy).int'
  refine ⟨v, ?_, plain_refl _ 4 v hp⟩
  simp only [execOp, h1, h2, eqGuard]
  split <;> simp [h]
theorem ok_add {xt x y yt k a b} (hx : ρ x = some (.int k a)) (hy : ρ y = some (.int k b)) : OpOK P ⟨d, .binOp .add xt x y yt, t, pp, af, g⟩ ρ m (.int k (k.wrap (a + b))) m := ok_bin rfl hx hy fun w => by simp [binOp, Op.intArith]
theorem ok_sub {xt x y yt k a b} (hx : ρ x = some (.int k a)) (hy : ρ y = some (.int k b)) : OpOK P ⟨d, .binOp .sub xt x y yt, t, pp, af, g⟩ ρ m (.int k (k.wrap (a - b))) m := ok_bin rfl hx hy fun w => by simp [binOp, Op.intArith]
theorem ok_mul {xt x y yt k a b} (hx : ρ x = some (.int k a)) (hy : ρ y = some (.int k b)) : OpOK P ⟨d, .binOp .mul xt x y yt, t, pp, af, g⟩ ρ m (.int k (k.wrap (a * b))) m := ok_bin rfl hx hy fun w => by simp [binOp, Op.intArith]
theorem ok_add64 {xt x y yt a b} (hx : ρ x = some (.int .i64 a)) (hy : ρ y = some (.int .i64 b)) (h : -9223372036854775808 ≤ a + b ∧ a + b ≤ 9223372036854775807) : OpOK P ⟨d, .binOp .add xt x y yt, t, pp, af, g⟩ ρ m (.int .i64 (a + b)) m := by
  have := ok_add (P := P) (m := m) (d := d) (t := t) (pp := pp) (af := af) (g := g) (xt := xt) (yt := yt) hx hy; rwa [wrap64 h] at this
theorem ok_sub64 {xt x y yt a b} (hx : ρ x = some (.int .i64 a)) (hy : ρ y = some (.int .i64 b)) (h : -9223372036854775808 ≤ a - b ∧ a - b ≤ 9223372036854775807) : OpOK P ⟨d, .binOp .sub xt x y yt, t, pp, af, g⟩ ρ m (.int .i64 (a - b)) m := by
  have := ok_sub (P := P) (m := m) (d := d) (t := t) (pp := pp) (af := af) (g := g) (xt := xt) (yt := yt) hx hy; rwa [wrap64 h] at this
theorem ok_mul64 {xt x y yt a b} (hx : ρ x = some (.int .i64 a)) (hy : ρ y = some (.int .i64 b)) (h : -9223372036854775808 ≤ a * b ∧ a * b ≤ 9223372036854775807) : OpOK P ⟨d, .binOp .mul xt x y yt, t, pp, af, g⟩ ρ m (.int .i64 (a * b)) m := by
  have := ok_mul (P := P) (m := m) (d := d) (t := t) (pp := pp) (af := af) (g := g) (xt := xt) (yt := yt) hx hy; rwa [wrap64 h] at this
theorem ok_lss {xt x y yt k a b} (hx : ρ x = some (.int k a)) (hy : ρ y = some (.int k b)) : OpOK P ⟨d, .binOp .lss xt x y yt, t, pp, af, g⟩ ρ m (.bool (decide (a < b))) m := ok_bin rfl hx hy fun w => by simp [binOp, Op.intCmp]
theorem ok_leq {xt x y yt k a b} (hx : ρ x = some (.int k a)) (hy : ρ y = some (.int k b)) : OpOK P ⟨d, .binOp .leq xt x y yt, t, pp, af, g⟩ ρ m (.bool (decide (a ≤ b))) m := ok_bin rfl hx hy fun w => by simp [binOp, Op.intCmp]
theorem ok_gtr {xt x y yt k a b} (hx : ρ x = some (.int k a)) (hy : ρ y = some (.int k b)) : OpOK P ⟨d, .binOp .gtr xt x y yt, t, pp, af, g⟩ ρ m (.bool (decide (b < a))) m := ok_bin rfl hx hy fun w => by simp [binOp, Op.intCmp]
theorem ok_geq {xt x y yt k a b} (hx : ρ x = some (.int k a)) (hy : ρ y = some (.int k b)) : OpOK P ⟨d, .binOp .geq xt x y yt, t, pp, af, g⟩ ρ m (.bool (decide (b ≤ a))) m := ok_bin rfl hx hy fun w => by simp [binOp, Op.intCmp]
theorem ok_eql {xt x y yt k a b} (hx : ρ x = some (.int k a)) (hy : ρ y = some (.int k b)) : OpOK P ⟨d, .binOp .eql xt x y yt, t, pp, af, g⟩ ρ m (.bool (decide (a = b))) m := ok_bin rfl hx hy fun w => by simp [binOp, Op.intCmp]; rfl
theorem ok_neq {xt x y yt k a b} (hx : ρ x = some (.int k a)) (hy : ρ y = some (.int k b)) : OpOK P ⟨d, .binOp .neq xt x y yt, t, pp, af, g⟩ ρ m (.bool (decide (¬ a = b))) m := ok_bin rfl hx hy fun w => by
  simp [binOp, Op.intCmp]
  by_cases h : a = b <;> simp [h]
theorem ok_quo {xt x y yt k a b} (hx : ρ x = some (.int k a)) (hy : ρ y = some (.int k b)) (h0 : b ≠ 0) : OpOK P ⟨d, .binOp .quo xt x y yt, t, pp, af, g⟩ ρ m (.int k (k.wrap (a.tdiv b))) m := ok_bin rfl hx hy fun w => by simp [binOp, Op.intDiv, h0]
theorem ok_rem {xt x y yt k a b} (hx : ρ x = some (.int k a)) (hy : ρ y = some (.int k b)) (h0 : b ≠ 0) : OpOK P ⟨d, .binOp .rem xt x y yt, t, pp, af, g⟩ ρ m (.int k (a.tmod b)) m := ok_bin rfl hx hy fun w => by simp [binOp, Op.intDiv, h0]
theorem ok_quo64 {xt x y yt a b} (hx : ρ x = some (.int .i64 a)) (hy : ρ y = some (.int .i64 b)) (h : 0 ≤ a ∧ a ≤ 9223372036854775807 ∧ 0 < b) : OpOK P ⟨d, .binOp .quo xt x y yt, t, pp, af, g⟩ ρ m (.int .i64 (a / b)) m := by
  have := ok_quo (P := P) (m := m) (d := d) (t := t) (pp := pp) (af := af) (g := g) (xt := xt) (yt := yt) hx hy (by omega)
  rw [Int.tdiv_eq_ediv_of_nonneg h.1] at this
  rwa [wrap64] at this
  have h1 := Int.ediv_nonneg h.1 (Int.le_of_lt h.2.2)
  have h2 := Int.ediv_le_self b h.1
  omega
theorem ok_rem_pos {xt x y yt k a b} (hx : ρ x = some (.int k a)) (hy : ρ y = some (.int k b)) (h : 0 ≤ a ∧ 0 < b) : OpOK P ⟨d, .binOp .rem xt x y yt, t, pp, af, g⟩ ρ m (.int k (a % b)) m := by
  have := ok_rem (P := P) (m := m) (d := d) (t := t) (pp := pp) (af := af) (g := g) (xt := xt) (yt := yt) hx hy (by omega)
  rwa [Int.tmod_eq_emod_of_nonneg h.1] at this
def bitv (op : BinOp) (k : IntKind) (a b : Int) : Int :=
  match op with
  | .and => k.wrap (BitVec.ofInt k.bits a &&& BitVec.ofInt k.bits b).toNat
  | .or => k.wrap (BitVec.ofInt k.bits a ||| BitVec.ofInt k.bits b).toNat
  | .xor => k.wrap (BitVec.ofInt k.bits a ^^^ BitVec.ofInt k.bits b).toNat
  | _ => k.wrap (BitVec.ofInt k.bits a &&& ~~~ BitVec.ofInt k.bits b).toNat
theorem ok_and {xt x y yt k a b} (hx : ρ x = some (.int k a)) (hy : ρ y = some (.int k b)) : OpOK P ⟨d, .binOp .and xt x y yt, t, pp, af, g⟩ ρ m (.int k (bitv .and k a b)) m := ok_bin rfl hx hy fun w => by simp [binOp, Op.intBits, bitv]
theorem ok_or {xt x y yt k a b} (hx : ρ x = some (.int k a)) (hy : ρ y = some (.int k b)) : OpOK P ⟨d, .binOp .or xt x y yt, t, pp, af, g⟩ ρ m (.int k (bitv .or k a b)) m := ok_bin rfl hx hy fun w => by simp [binOp, Op.intBits, bitv]
theorem ok_xor {xt x y yt k a b} (hx : ρ x = some (.int k a)) (hy : ρ y = some (.int k b)) : OpOK P ⟨d, .binOp .xor xt x y yt, t, pp, af, g⟩ ρ m (.int k (bitv .xor k a b)) m := ok_bin rfl hx hy fun w => by simp [binOp, Op.intBits, bitv]
theorem ok_andNot {xt x y yt k a b} (hx : ρ x = some (.int k a)) (hy : ρ y = some (.int k b)) : OpOK P ⟨d, .binOp .andNot xt x y yt, t, pp, af, g⟩ ρ m (.int k (bitv .andNot k a b)) m := ok_bin rfl hx hy fun w => by simp [binOp, Op.intBits, bitv]
theorem ok_sh {op xt x y yt k k' a b v} (hp : plain 4 v = true) (hop : op = .shl ∨ op = .shr) (hx : ρ x = some (.int k a)) (hy : ρ y = some (.int k' b)) (h : ∀ w, (Op.shift op k a k' b).run P w = .ok v w) : OpOK P ⟨d, .binOp op xt x y yt, t, pp, af, g⟩ ρ m v m := .val fun _ _ _ A w _ _ ho => by
  have h1 := (ho x _ (by simp [Op.operands]) hx).int'
  have h2 := (ho y _ (by simp [Op.operands]) hy).int'
  refine ⟨v, ?_, plain_refl _ 4 v hp⟩
  rcases hop with rfl | rfl <;> simp [execOp, h1, h2, eqGuard, binOp, h]
theorem ok_shl {xt x y yt k k' a b} (hx : ρ x = some (.int k a)) (hy : ρ y = some (.int k' b)) (h : 0 ≤ b) : OpOK P ⟨d, .binOp .shl xt x y yt, t, pp, af, g⟩ ρ m (.int k (k.wrap (a * 2 ^ (min b.toNat k.bits)))) m :=
  ok_sh rfl (.inl rfl) hx hy fun w => by simp [Op.shift, show ¬ b < 0 by omega]
theorem ok_shr {xt x y yt k k' a b} (hx : ρ x = some (.int k a)) (hy : ρ y = some (.int k' b)) (h : 0 ≤ b) : OpOK P ⟨d, .binOp .shr xt x y yt, t, pp, af, g⟩ ρ m (.int k (a / 2 ^ (min b.toNat k.bits))) m :=
  ok_sh rfl (.inr rfl) hx hy fun w => by
    have : a.fdiv (2 ^ (min b.toNat k.bits)) = a / 2 ^ (min b.toNat k.bits) := Int.fdiv_eq_ediv_of_nonneg _ (Int.le_of_lt (Int.pow_pos (by omega)))
    simp [Op.shift, show ¬ b < 0 by omega, this]
theorem ok_not {tt x b} (hx : ρ x = some (.bool b)) : OpOK P ⟨d, .unOp .not tt x, t, pp, af, g⟩ ρ m (.bool (!b)) m := .val fun _ _ _ a w _ _ ho => by
  have hb := (ho x _ (by simp [Op.operands]) hx).bool'
  exact ⟨_, by simp [execOp, hb, Op.unary], .bool _⟩
theorem ok_not_dec {tt x} {p : Prop} [Decidable p] (hx : ρ x = some (.bool (decide p))) : OpOK P ⟨d, .unOp .not tt x, t, pp, af, g⟩ ρ m (.bool (decide (¬ p))) m := by
  have := ok_not (P := P) (m := m) (d := d) (t := t) (pp := pp) (af := af) (g := g) (tt := tt) hx
  have e : (!decide p) = decide (¬ p) := by by_cases h : p <;> simp [h]
  rwa [e] at this
theorem ok_neg {tt x k n} (hx : ρ x = some (.int k n)) : OpOK P ⟨d, .unOp .neg tt x, t, pp, af, g⟩ ρ m (.int k (k.wrap (0 - n))) m := .val fun _ _ _ a w _ _ ho => by
  have hb := (ho x _ (by simp [Op.operands]) hx).int'
  exact ⟨_, by simp [execOp, hb, Op.unary, Op.intArith], .int _ _⟩
theorem ok_compl {tt x k n} (hx : ρ x = some (.int k n)) : OpOK P ⟨d, .unOp .xor tt x, t, pp, af, g⟩ ρ m (.int k (bitv .xor k (if k.signed then -1 else k.max) n)) m := .val fun _ _ _ a w _ _ ho => by
  have hb := (ho x _ (by simp [Op.operands]) hx).int'
  exact ⟨_, by simp [execOp, hb, Op.unary, Op.intBits, bitv], .int _ _⟩
theorem ok_conv {src dst x k k' n d0} [Ty P src d0] [Ty P dst (.int k')] (hx : ρ x = some (.int k n)) : OpOK P ⟨d, .convert src dst x, t, pp, af, g⟩ ρ m (.int k' (k'.wrap n)) m := .val fun _ _ _ a w _ _ ho => by
  have hb := (ho x _ (by simp [Op.operands]) hx).int'
  exact ⟨_, by simp [execOp, hb, convert, run_und (Ty.eq (P := P) (t := src)), run_und (Ty.eq (P := P) (t := dst)), Conv.intToInt], .int _ _⟩
theorem ok_conv_in {src dst x k k' n d0} [Ty P src d0] [Ty P dst (.int k')] (hx : ρ x = some (.int k n)) (h1 : k'.min ≤ n) (h2 : n ≤ k'.max) : OpOK P ⟨d, .convert src dst x, t, pp, af, g⟩ ρ m (.int k' n) m := by
  have := ok_conv (P := P) (m := m) (d := d) (t := t) (pp := pp) (af := af) (g := g) (src := src) (dst := dst) (k' := k') hx
  rwa [wrap_id h1 h2] at this
theorem ok_conv_str {src dst x s d0} [Ty P src d0] [Ty P dst .string] (h : d0 = .string) (hx : ρ x = some (.string s)) : OpOK P ⟨d, .convert src dst x, t, pp, af, g⟩ ρ m (.string s) m := .val fun _ _ _ a w _ _ ho => by
  have hb := (ho x _ (by simp [Op.operands]) hx).string'
  subst h
  exact ⟨_, by simp [execOp, hb, convert, run_und (Ty.eq (P := P) (t := src)), run_und (Ty.eq (P := P) (t := dst))], .string _⟩
/-! ### strings -/
theorem bytes_toList (s : ByteArray) : s.toList = s.data.toList := by
  have loop : ∀ (n i : Nat) (r : List UInt8), s.size - i = n → i ≤ s.size → ByteArray.toList.loop s i r = r.reverse ++ s.data.toList.drop i := by
    intro n
    induction n with
    | zero =>
      intro i r hn hi
      have : i = s.size := by omega
      unfold ByteArray.toList.loop
      rw [if_neg (by omega), this, List.drop_eq_nil_of_le (by rw [Array.length_toList]; exact Nat.le_refl _), List.append_nil]
    | succ n ih =>
      intro i r hn hi
      unfold ByteArray.toList.loop
      rw [if_pos (by omega), ih (i + 1) _ (by omega) (by omega)]
      have hlt : i < s.data.toList.length := by rw [Array.length_toList]; show i < s.size; omega
      rw [List.drop_eq_getElem_cons hlt]
      have e : s.get! i = s.data.toList[i] := by
        show s.data[i]! = _
        rw [getElem!_pos s.data i (by simpa using hlt)]
        simp
      rw [e]
      simp
  have := loop s.size 0 [] rfl (Nat.zero_le _)
  show ByteArray.toList.loop s 0 [] = _
  rw [this]
  rfl
theorem bytes_eq (s u : ByteArray) : (s.toList == u.toList) = decide (s = u) := by
  rw [bytes_toList, bytes_toList]
  by_cases h : s = u
  · subst h; simp
  · rw [decide_eq_false h]
    apply beq_eq_false_iff_ne.2
    intro e
    apply h
    cases s; cases u
    congr
    exact Array.ext' e
theorem ok_str {op xt x y yt s u v} (hp : plain 4 v = true) (hx : ρ x = some (.string s)) (hy : ρ y = some (.string u)) (h : ∀ w, (binOp op xt (.string s) (.string u)).run P w = .ok v w) : OpOK P ⟨d, .binOp op xt x y yt, t, pp, af, g⟩ ρ m v m := .val fun _ _ _ A w _ _ ho => by
  have h1 := (ho x _ (by simp [Op.operands]) hx).string'
  have h2 := (ho y _ (by simp [Op.operands]) hy).string'
  refine ⟨v, ?_, plain_refl _ 4 v hp⟩
  simp only [execOp, h1, h2, eqGuard]
  split <;> simp [h]
theorem ok_str_eql {xt x y yt s u} (hx : ρ x = some (.string s)) (hy : ρ y = some (.string u)) : OpOK P ⟨d, .binOp .eql xt x y yt, t, pp, af, g⟩ ρ m (.bool (decide (s = u))) m := ok_str rfl hx hy fun w => by simp [binOp, Op.stringOp, ← bytes_eq]
theorem ok_str_neq {xt x y yt s u} (hx : ρ x = some (.string s)) (hy : ρ y = some (.string u)) : OpOK P ⟨d, .binOp .neq xt x y yt, t, pp, af, g⟩ ρ m (.bool (decide (¬ s = u))) m := ok_str rfl hx hy fun w => by
  simp only [binOp, Op.stringOp, bytes_eq]
  by_cases h : s = u <;> simp [h]
theorem ok_str_add {xt x y yt s u} (hx : ρ x = some (.string s)) (hy : ρ y = some (.string u)) (h : s.size + u.size ≤ 9223372036854775807) : OpOK P ⟨d, .binOp .add xt x y yt, t, pp, af, g⟩ ρ m (.string (s ++ u)) m := ok_str rfl hx hy fun w => by
  have : ¬ (IntKind.i64.max < (s.size : Int) + (u.size : Int)) := by simp [IntKind.max, IntKind.signed, IntKind.bits]; omega
  simp [binOp, Op.stringOp]
  omega
def byteAt (s : ByteArray) (i : Nat) : UInt8 := s.data.toList.getD i 0
theorem ok_str_index {xt x y s k i} [Ty P xt .string] (hx : ρ x = some (.string s)) (hy : ρ y = some (.int k i)) (h : 0 ≤ i ∧ i < s.size) : OpOK P ⟨d, .index xt x y, t, pp, af, g⟩ ρ m (.int .u8 (byteAt s i.toNat).toNat) m := .val fun _ _ _ A w _ _ ho => by
  have h1 := (ho x _ (by simp [Op.operands]) hx).string'
  have h2 := (ho y _ (by simp [Op.operands]) hy).int'
  have hlt : i.toNat < s.size := by omega
  have hlt' : i.toNat < s.data.size := hlt
  refine ⟨_, ?_, .int _ _⟩
  simp only [execOp, h1, h2, Instr.index, asIntOf, Sem.run_bind, Sem.run_pure, Result.andThen_ok, run_und (Ty.eq (P := P) (t := xt)), h.1, if_true]
  have : s[i.toNat]? = some (byteAt s i.toNat) := by
    rw [getElem?_pos s i.toNat hlt]
    have : byteAt s i.toNat = s.data[i.toNat] := by simp [byteAt, List.getD, getElem?_pos s.data i.toNat hlt']
    rw [this]
    rfl
  simp [this]
theorem ok_len_str {x s tt ct} [Ty P tt .string] (hx : ρ x = some (.string s)) : OpOK P ⟨d, .call ⟨.builtin .len, #[x], #[tt]⟩, ct, pp, af, g⟩ ρ m (.int .i64 (s.size : Int)) m := .val fun _ _ _ A w _ _ ho => by
  have h1 := (ho x _ (by simp [Op.operands, Call.operands]) hx).string'
  exact ⟨_, by simp [execOp, resolve, invoke, builtin, Builtin.len_, h1, run_und (Ty.eq (P := P) (t := tt)), goInt], .int _ _⟩
theorem ok_len_slice {x ad n c tt e ct} [Ty P tt (.slice e)] (hx : ρ x = some (.slice ad n c)) : OpOK P ⟨d, .call ⟨.builtin .len, #[x], #[tt]⟩, ct, pp, af, g⟩ ρ m (.int .i64 (n : Int)) m := .val fun _ _ _ A w _ _ ho => by
  have h1 := ho x _ (by simp [Op.operands, Call.operands]) hx
  generalize hy : A.eval x = y at h1
  cases h1 <;> exact ⟨_, by simp [execOp, resolve, invoke, builtin, Builtin.len_, run_und (Ty.eq (P := P) (t := tt)), goInt, *], .int _ _⟩
end
end Go.Proofs.YtdenooeaiicheaaGreat.Av
