/- Walking in numbers of one's own: a state is a list of slots and a list of blocks; what is there of memory is found again by a map of numbers. The words, and what keeps. -/
import Derived.Orders
import Derived.Tactics
import Derived.Below
import Derived.Laws.Sem
set_option linter.unusedVariables false
set_option linter.unusedSimpArgs false

namespace Go.Proofs.Ytmmaolnjjjdecaa.Av
open Go.RowKit (Below)

mutual
def ren (f : Nat → Nat) : Value → Value
  | .pointer (some a) => .pointer (some { a with block := f a.block })
  | .slice (some a) n c => .slice (some { a with block := f a.block }) n c
  | .func fn x y => .func fn (renA f x) (renA f y)
  | .iface t v => .iface t (ren f v)
  | .agg x => .agg (renA f x)
  | .tuple x => .tuple (renA f x)
  | v => v
def renA (f : Nat → Nat) : Array Value → Array Value
  | ⟨l⟩ => ⟨renL f l⟩
def renL (f : Nat → Nat) : List Value → List Value
  | [] => []
  | v :: l => ren f v :: renL f l
end
theorem renL_eq (f l) : renL f l = l.map (ren f) := by induction l <;> simp [renL, *]
theorem renA_eq (f x) : renA f x = x.map (ren f) := by cases x; simp [renA, renL_eq]

/-- Where a block of one's own numbering lies: the block, its first cell, the block's size, an element's size, may it be written. -/
structure Loc where
  b : Nat
  o : Nat
  N : Nat
  z : Nat
  rw : Bool
abbrev Mu := Nat → Option Loc
inductive VR (μ : Mu) : Value → Value → Prop
  | bool (b : Bool) : VR μ (.bool b) (.bool b)
  | int (k : IntKind) (n : Int) : VR μ (.int k n) (.int k n)
  | string (s : ByteArray) : VR μ (.string s) (.string s)
  | pnil : VR μ (.pointer none) (.pointer none)
  | ptr {id o : Nat} {L : Loc} : μ id = some L → VR μ (.pointer (some ⟨id, o, none⟩)) (.pointer (some ⟨L.b, L.o + o, none⟩))
  | snil : VR μ (.slice none 0 0) (.slice none 0 0)
  | slc {id o n c cap b off : Nat} {L : Loc} : μ id = some L → n ≤ cap → (n ≠ 0 ∨ L.rw = true → b = L.b) → (n ≠ 0 → off = L.o + o) → (L.rw = true → off + cap * L.z ≤ L.N) →
      VR μ (.slice (some ⟨id, o, none⟩) n c) (.slice (some ⟨b, off, none⟩) n cap)
  | slcNil {id o c : Nat} : VR μ (.slice (some ⟨id, o, none⟩) 0 c) (.slice none 0 0)
  | fnil : VR μ .nilFunc .nilFunc
  | inil : VR μ .nilIface .nilIface
  | mnil : VR μ (.map none) (.map none)
  | func {fn : Fn} {x y x' y' : Array Value} : x.size = x'.size → (∀ (i : Nat) u v, x[i]? = some u → x'[i]? = some v → VR μ u v) → y.size = y'.size → (∀ (i : Nat) u v, y[i]? = some u → y'[i]? = some v → VR μ u v) →
      VR μ (.func fn x y) (.func fn x' y')
  | iface {t : TypeId} {v v' : Value} : VR μ v v' → VR μ (.iface t v) (.iface t v')
  | agg {x x' : Array Value} : x.size = x'.size → (∀ (i : Nat) u v, x[i]? = some u → x'[i]? = some v → VR μ u v) → VR μ (.agg x) (.agg x')
  | tuple {x x' : Array Value} : x.size = x'.size → (∀ (i : Nat) u v, x[i]? = some u → x'[i]? = some v → VR μ u v) → VR μ (.tuple x) (.tuple x')

theorem VR.mono {μ μ' : Mu} (h : ∀ id L, μ id = some L → μ' id = some L) {x y : Value} (hv : VR μ x y) : VR μ' x y := by
  induction hv with
  | bool b => exact .bool b
  | int k n => exact .int k n
  | string s => exact .string s
  | pnil => exact .pnil
  | ptr hL => exact .ptr (h _ _ hL)
  | snil => exact .snil
  | slc hL a b c d => exact .slc (h _ _ hL) a b c d
  | slcNil => exact .slcNil
  | fnil => exact .fnil
  | inil => exact .inil
  | mnil => exact .mnil
  | func a _ c _ ih1 ih2 => exact .func a ih1 c ih2
  | iface _ ih => exact .iface ih
  | agg a _ ih => exact .agg a ih
  | tuple a _ ih => exact .tuple a ih

theorem VR.oneCell {μ : Mu} {x y : Value} (h : VR μ x y) : y.oneCell' = x.oneCell' := by cases h <;> rfl
theorem VR.int' {μ : Mu} {k n y} (h : VR μ (.int k n) y) : y = .int k n := by cases h; rfl
theorem VR.bool' {μ : Mu} {b y} (h : VR μ (.bool b) y) : y = .bool b := by cases h; rfl
theorem VR.string' {μ : Mu} {b y} (h : VR μ (.string b) y) : y = .string b := by cases h; rfl

/-- Values that hold no address: they read the same in every numbering. -/
def plain : Nat → Value → Bool
  | 0, _ => false
  | d + 1, v => match v with
    | .bool _ | .int _ _ | .string _ | .pointer none | .slice none 0 0 | .nilFunc | .nilIface | .map none => true
    | .func _ x y => x.toList.all (plain d) && y.toList.all (plain d)
    | .iface _ v => plain d v
    | .agg x => x.toList.all (plain d)
    | .tuple x => x.toList.all (plain d)
    | _ => false
theorem plain_refl (μ : Mu) : ∀ (d : Nat) (v : Value), plain d v = true → VR μ v v
  | 0, _, h => by simp [plain] at h
  | d + 1, v, h => by
    have hl : ∀ (x : Array Value), x.toList.all (plain d) = true → ∀ (i : Nat) u v, x[i]? = some u → x[i]? = some v → VR μ u v := fun x hx i u v h1 h2 => by
      rw [h1] at h2; cases h2
      exact plain_refl μ d u (List.all_eq_true.1 hx u (by rw [← Array.getElem?_toList] at h1; exact List.mem_of_getElem? h1))
    cases v with
    | bool b => exact .bool b
    | int k n => exact .int k n
    | string s => exact .string s
    | pointer a => cases a with
      | none => exact .pnil
      | some a => simp [plain] at h
    | slice a n c => cases a with
      | none => cases n <;> cases c <;> simp [plain] at h; exact .snil
      | some a => simp [plain] at h
    | nilFunc => exact .fnil
    | nilIface => exact .inil
    | map r => cases r with
      | none => exact .mnil
      | some a => simp [plain] at h
    | func fn x y =>
      simp only [plain, Bool.and_eq_true] at h
      exact .func rfl (hl x h.1) rfl (hl y h.2)
    | iface t v => exact .iface (plain_refl μ d v (by simpa [plain] using h))
    | agg x => exact .agg rfl (hl x (by simpa only [plain] using h))
    | tuple x => exact .tuple rfl (hl x (by simpa only [plain] using h))
    | float => simp [plain] at h
    | complex => simp [plain] at h
    | chan => simp [plain] at h
theorem plain_eq {μ : Mu} : ∀ (d : Nat) (v y : Value), plain d v = true → VR μ v y → y = v
  | 0, _, _, h, _ => by simp [plain] at h
  | d + 1, v, y, h, hv => by
    have hl : ∀ (x x' : Array Value), x.toList.all (plain d) = true → x.size = x'.size → (∀ (i : Nat) u v, x[i]? = some u → x'[i]? = some v → VR μ u v) → x' = x := fun x x' hx hs hr => by
      apply Array.ext (by omega)
      intro i h1 h2
      have e1 : x'[i]? = some x'[i] := by simp
      have e2 : x[i]? = some x[i] := by simp
      exact plain_eq d _ _ (List.all_eq_true.1 hx _ (by rw [← Array.getElem?_toList] at e2; exact List.mem_of_getElem? e2)) (hr i _ _ e2 e1)
    cases hv with
    | func a b c e =>
      simp only [plain, Bool.and_eq_true] at h
      rw [hl _ _ h.1 a b, hl _ _ h.2 c e]
    | iface a => rw [plain_eq d _ _ (by simpa [plain] using h) a]
    | agg a b => rw [hl _ _ (by simpa only [plain] using h) a b]
    | tuple a b => rw [hl _ _ (by simpa only [plain] using h) a b]
    | ptr => simp [plain] at h
    | slc => simp [plain] at h
    | slcNil => simp [plain] at h
    | _ => rfl

/-- A nil slice is a slice of any block, of no elements. -/
inductive Wk : Value → Value → Prop
  | refl (v : Value) : Wk v v
  | nil {id o c : Nat} : Wk (.slice none 0 0) (.slice (some ⟨id, o, none⟩) 0 c)
  | agg {x x' : Array Value} : x.size = x'.size → (∀ (i : Nat) u v, x[i]? = some u → x'[i]? = some v → Wk u v) → Wk (.agg x) (.agg x')
  | tuple {x x' : Array Value} : x.size = x'.size → (∀ (i : Nat) u v, x[i]? = some u → x'[i]? = some v → Wk u v) → Wk (.tuple x) (.tuple x')
theorem Wk.vr {μ : Mu} {u v : Value} (h : Wk u v) : ∀ {y : Value}, VR μ u y → VR μ v y := by
  induction h with
  | refl => exact fun h => h
  | nil => intro y h; cases h; exact .slcNil
  | agg a b ih =>
    intro y h
    cases h with
    | agg c d =>
      exact .agg (a.symm.trans c) fun i u v hu hv => by
        have hi := (Array.getElem?_eq_some_iff.1 hu).1
        have hx := Array.getElem?_eq_getElem (show i < _ by rw [a]; exact hi)
        exact ih i _ _ hx hu (d i _ _ hx hv)
  | tuple a b ih =>
    intro y h
    cases h with
    | tuple c d =>
      exact .tuple (a.symm.trans c) fun i u v hu hv => by
        have hi := (Array.getElem?_eq_some_iff.1 hu).1
        have hx := Array.getElem?_eq_getElem (show i < _ by rw [a]; exact hi)
        exact ih i _ _ hx hu (d i _ _ hx hv)
inductive WkL : List Value → List Value → Prop
  | refl (l : List Value) : WkL l l
  | nil : WkL [] []
  | cons {u v l l'} : Wk u v → WkL l l' → WkL (u :: l) (v :: l')
theorem WkL.ofEq {l l' : List Value} (h : l = l') : WkL l l' := h ▸ .refl l
theorem WkL.len {l l'} (h : WkL l l') : l.length = l'.length := by induction h <;> simp [*]
theorem WkL.at {l l'} (h : WkL l l') : ∀ (i : Nat) u v, l[i]? = some u → l'[i]? = some v → Wk u v := by
  induction h with
  | refl l => intro i u v h1 h2; rw [h1] at h2; cases h2; exact .refl _
  | nil => intro i u v h1; simp at h1
  | cons h _ ih =>
    intro i u v h1 h2
    cases i with
    | zero => simp at h1 h2; subst h1 h2; exact h
    | succ i => simp at h1 h2; exact ih i u v h1 h2
theorem Wk.aggL {l l' : List Value} (h : WkL l l') : Wk (.agg ⟨l⟩) (.agg ⟨l'⟩) := .agg (by simpa using h.len) fun i u v hu hv => h.at i u v (by simpa using hu) (by simpa using hv)
theorem Wk.tupleL {l l' : List Value} (h : WkL l l') : Wk (.tuple ⟨l⟩) (.tuple ⟨l'⟩) := .tuple (by simpa using h.len) fun i u v hu hv => h.at i u v (by simpa using hu) (by simpa using hv)

/-- A block in one's own numbering: its cells as far as they are known; may it be written; an element's size. -/
structure Blk where
  cells : List Value
  rw : Bool
  z : Nat
abbrev Mem := List (Option Blk)
def live (m : Mem) (i : Nat) : Option Blk := (m[i]?).join
theorem live_some {m : Mem} {id : Nat} {B : Blk} : live m id = some B ↔ m[id]? = some (some B) := by
  unfold live
  cases h : m[id]? with
  | none => simp
  | some x => cases x <;> simp
def Dom (μ : Mu) (n : Nat) : Prop := ∀ id, n ≤ id → μ id = none
def Ext (n : Nat) (μ μ' : Mu) : Prop := ∀ id, id < n → μ' id = μ id
theorem Ext.refl (n μ) : Ext n μ μ := fun _ _ => rfl
theorem Ext.trans {n μ1 μ2 μ3} (h : Ext n μ1 μ2) (k : Ext n μ2 μ3) : Ext n μ1 μ3 := fun id hi => (k id hi).trans (h id hi)
theorem Ext.le {n n' μ μ'} (h : Ext n μ μ') (hn : n' ≤ n) : Ext n' μ μ' := fun id hi => h id (by omega)
theorem Ext.sub {n μ μ'} (h : Ext n μ μ') (hd : Dom μ n) : ∀ id L, μ id = some L → μ' id = some L := fun id L hL => by
  rcases Nat.lt_or_ge id n with hi | hi
  · rw [h id hi]; exact hL
  · rw [hd id hi] at hL; cases hL

/-- A block's cells, where they are. -/
def CellsOK (μ : Mu) (cs : List Value) (b o : Nat) (w : World) : Prop := ∀ j x, cs[j]? = some x → ∃ y, w.cell? ⟨b, o + j, none⟩ = some y ∧ VR μ x y
def RowOK (L : Loc) (w : World) : Prop := ∃ c e lo hi, w.heap[L.b]? = some (.cells c e (lo, hi)) ∧ c.size = L.N ∧ (lo = 0 ∧ hi = 0) ∧ ∀ j, j < c.size → ¬ (lo ≤ j ∧ j < hi)
/-- A block that takes room; one whose room is 0 cells need not be anywhere. -/
abbrev Rw (B : Blk) (L : Loc) : Prop := B.rw = true ∧ L.N ≠ 0
abbrev Takes (B : Blk) (L : Loc) : Prop := Rw B L ∨ B.cells ≠ []
theorem Rw.of {B B' : Blk} {L : Loc} (h : B.rw = true → B'.rw = true) (hb : Rw B L) : Rw B' L := ⟨h hb.1, hb.2⟩
theorem Takes.of {B B' : Blk} {L : Loc} (h : B.rw = true → B'.rw = true) (hc : B.cells ≠ [] → B'.cells ≠ []) (hb : Takes B L) : Takes B' L := hb.imp (Rw.of h) hc
theorem WkL.get {g : Nat → Nat} {l l' : List Value} (h : WkL l' (renL g l)) {j : Nat} {x : Value} (hx : l[j]? = some x) : ∃ u, l'[j]? = some u ∧ Wk u (ren g x) := by
  have hl := h.len
  rw [renL_eq] at h hl
  have hj := (List.getElem?_eq_some_iff.1 hx).1
  have h1 := List.getElem?_eq_getElem (show j < l'.length by simp at hl; omega)
  exact ⟨_, h1, h.at j _ _ h1 (by simp [hx])⟩
theorem WkL.ne {g : Nat → Nat} {l l' : List Value} (h : WkL l' (renL g l)) (hl : l ≠ []) : l' ≠ [] := by
  rintro rfl
  have := h.len
  rw [renL_eq] at this
  cases l <;> simp_all
structure BlkOK (μ : Mu) (B : Blk) (L : Loc) (w : World) : Prop where
  rw : B.rw = true → L.rw = true
  z : L.z = B.z
  cells : CellsOK μ B.cells L.b L.o w
  row : L.rw = true → Takes B L → RowOK L w
structure RepM (F : Nat → Prop) (w0 : World) (μ : Mu) (m : Mem) (w : World) : Prop where
  os : w.os = w0.os
  tape : w.tape = w0.tape
  output : w.output = w0.output
  size : w0.heap.size ≤ w.heap.size
  frame : ∀ k, ¬ F k → w.heap[k]? = w0.heap[k]?
  up : ∀ k, w0.heap.size ≤ k → F k
  blk : ∀ id B, live m id = some B → ∃ L, μ id = some L ∧ BlkOK μ B L w ∧ (Rw B L → F L.b)
  excl : ∀ id id' B B' L L', live m id = some B → live m id' = some B' → id ≠ id' → μ id = some L → μ id' = some L' → Rw B L → Takes B' L' → L.b ≠ L'.b

theorem cell_of_heap {w w' : World} {b : Nat} (h : w'.heap[b]? = w.heap[b]?) (o : Nat) : w'.cell? ⟨b, o, none⟩ = w.cell? ⟨b, o, none⟩ := by
  simp only [World.cell?, h]
theorem CellsOK.mono {μ μ' : Mu} {cs b o w} (h : CellsOK μ cs b o w) (hm : ∀ id L, μ id = some L → μ' id = some L) : CellsOK μ' cs b o w :=
  fun j x hx => let ⟨y, h1, h2⟩ := h j x hx; ⟨y, h1, h2.mono hm⟩
theorem CellsOK.keep {μ : Mu} {cs b o} {w w' : World} (h : CellsOK μ cs b o w) (hw : cs ≠ [] → w'.heap[b]? = w.heap[b]?) : CellsOK μ cs b o w' :=
  fun j x hx => let ⟨y, h1, h2⟩ := h j x hx; ⟨y, by rw [cell_of_heap (hw (by rintro rfl; simp at hx))]; exact h1, h2⟩
theorem BlkOK.mono {μ μ' : Mu} {B L w} (h : BlkOK μ B L w) (hm : ∀ id L, μ id = some L → μ' id = some L) : BlkOK μ' B L w := ⟨h.rw, h.z, h.cells.mono hm, h.row⟩
theorem BlkOK.keep {μ : Mu} {B L} {w w' : World} (h : BlkOK μ B L w) (hw : Takes B L → w'.heap[L.b]? = w.heap[L.b]?) : BlkOK μ B L w' :=
  ⟨h.rw, h.z, h.cells.keep fun hc => hw (.inr hc), fun hr hb => by
    obtain ⟨c, e, lo, hi, h1, h2⟩ := h.row hr hb
    exact ⟨c, e, lo, hi, by rw [hw hb]; exact h1, h2⟩⟩
theorem BlkOK.lt {μ : Mu} {B L} {w : World} (h : BlkOK μ B L w) (hb : Takes B L) : L.b < w.heap.size := by
  rcases Nat.lt_or_ge L.b w.heap.size with hl | hl
  · exact hl
  · rcases hb with hb | hb
    · obtain ⟨c, e, lo, hi, h1, h2⟩ := h.row (h.rw hb.1) (.inl hb)
      simp [Array.getElem?_eq_none hl] at h1
    · obtain ⟨x, l, hx⟩ := List.exists_cons_of_ne_nil hb
      obtain ⟨y, h1, _⟩ := h.cells 0 x (by rw [hx]; rfl)
      exact World.block_lt_of_cell? _ _ h1

theorem BlkOK.act {μ : Mu} {B L} {w : World} (h : BlkOK μ B L w) (hr : B.rw = true) (hb : Takes B L) : Rw B L := by
  refine ⟨hr, fun hN => ?_⟩
  obtain ⟨c, e, lo, hi, h1, h2, _⟩ := h.row (h.rw hr) hb
  rcases hb with hb | hb
  · exact hb.2 hN
  · obtain ⟨x, l, hx⟩ := List.exists_cons_of_ne_nil hb
    obtain ⟨y, h3, _⟩ := h.cells 0 x (by rw [hx]; rfl)
    simp only [World.cell?, h1] at h3
    have : c.size = 0 := by omega
    rw [Array.getElem?_eq_none (by omega)] at h3
    cases h3

section
variable {F : Nat → Prop} {w0 : World} {μ : Mu} {m : Mem} {w : World}
/-- Memory that is not one's own may turn as it likes. -/
theorem RepM.keep {w' : World} (h : RepM F w0 μ m w) (ho : w'.os = w.os) (ht : w'.tape = w.tape) (hp : w'.output = w.output) (hs : w.heap.size ≤ w'.heap.size)
    (hh : ∀ k, k < w.heap.size → w'.heap[k]? = w.heap[k]?) : RepM F w0 μ m w' where
  os := ho.trans h.os
  tape := ht.trans h.tape
  output := hp.trans h.output
  size := Nat.le_trans h.size hs
  frame k hk := by
    rcases Nat.lt_or_ge k w.heap.size with hl | hl
    · rw [hh k hl]; exact h.frame k hk
    · exact absurd (h.up k (Nat.le_trans h.size hl)) hk
  up := h.up
  blk id B hB := by
    obtain ⟨L, h1, h2, h3⟩ := h.blk id B hB
    exact ⟨L, h1, h2.keep fun hb => hh _ (h2.lt hb), h3⟩
  excl := h.excl
theorem RepM.drew (h : RepM F w0 μ m w) : RepM F w0 μ m { w with drawn := w.drawn + 1 } := h.keep rfl rfl rfl (Nat.le_refl _) fun _ _ => rfl
/-- Fewer blocks are live. -/
theorem RepM.less {m' : Mem} (h : RepM F w0 μ m w) (hm : ∀ id B, live m' id = some B → live m id = some B) : RepM F w0 μ m' w where
  os := h.os
  tape := h.tape
  output := h.output
  size := h.size
  frame := h.frame
  up := h.up
  blk id B hB := h.blk id B (hm id B hB)
  excl id id' B B' L L' h1 h2 := h.excl id id' B B' L L' (hm _ _ h1) (hm _ _ h2)
theorem live_push {m : Mem} {x : Option Blk} {id : Nat} {B : Blk} : live (m ++ [x]) id = some B ↔ live m id = some B ∨ (id = m.length ∧ x = some B) := by
  rw [live_some, live_some, List.getElem?_append]
  rcases Nat.lt_trichotomy id m.length with h | h | h
  · simp [h, Nat.ne_of_lt h]
  · subst h; simp
  · have : ¬ id < m.length := by omega
    have e : id - m.length ≠ 0 := by omega
    have e' : m.length ≤ id := by omega
    have e2 : id ≠ m.length := by omega
    obtain ⟨k, hk⟩ : ∃ k, id - m.length = k + 1 := ⟨id - m.length - 1, by omega⟩
    simp [this, e2, hk]
def Mu.set (μ : Mu) (n : Nat) (L : Loc) : Mu := fun id => if id = n then some L else μ id
theorem Mu.set_sub {μ : Mu} {n : Nat} {L : Loc} (h : μ n = none) : ∀ id L', μ id = some L' → Mu.set μ n L id = some L' := fun id L' hL => by
  unfold Mu.set
  split
  · subst id; rw [h] at hL; cases hL
  · exact hL
theorem Mu.set_ext {μ : Mu} {n : Nat} {L : Loc} : Ext n μ (Mu.set μ n L) := fun id hi => by unfold Mu.set; rw [if_neg (by omega)]
theorem Mu.set_dom {μ : Mu} {n : Nat} {L : Loc} (h : Dom μ n) : Dom (Mu.set μ n L) (n + 1) := fun id hi => by unfold Mu.set; rw [if_neg (by omega)]; exact h id (by omega)
theorem Mu.set_same {μ : Mu} {n : Nat} {L : Loc} : Mu.set μ n L n = some L := by simp [Mu.set]
/-- A new block. -/
theorem RepM.alloc (h : RepM F w0 μ m w) (hd : Dom μ m.length) {cs : List Value} {c : Array Value} {e : TypeId} {z lo hi : Nat} (hc : ∀ (j : Nat) x, cs[j]? = some x → ∃ y, c[j]? = some y ∧ VR μ x y)
    (hlo : ∀ j, j < c.size → ¬ (lo ≤ j ∧ j < hi)) (h00 : lo = 0 ∧ hi = 0 := by exact ⟨rfl, rfl⟩) :
    RepM F w0 (μ.set m.length ⟨w.heap.size, 0, c.size, z, true⟩) (m ++ [some ⟨cs, true, z⟩]) (w.alloc (.cells c e (lo, hi))) := by
  have hsub := Mu.set_sub (L := ⟨w.heap.size, 0, c.size, z, true⟩) (hd m.length (Nat.le_refl _))
  have hold : ∀ k, k < w.heap.size → (w.alloc (.cells c e (lo, hi))).heap[k]? = w.heap[k]? := fun k hk => by
    show (w.heap.push _)[k]? = _
    rw [Array.getElem?_push, if_neg (by omega)]
  have hnew : (w.alloc (.cells c e (lo, hi))).heap[w.heap.size]? = some (.cells c e (lo, hi)) := by
    show (w.heap.push _)[w.heap.size]? = _
    simp
  have h' := h.keep (w' := w.alloc (.cells c e (lo, hi))) rfl rfl rfl (by simp) hold
  refine ⟨h'.os, h'.tape, h'.output, h'.size, h'.frame, h'.up, fun id B hB => ?_, fun id id' B B' L L' h1 h2 hne hl hl' hr hb => ?_⟩
  · rcases live_push.1 hB with hB1 | ⟨rfl, hB1⟩
    · obtain ⟨L, h1, h2, h3⟩ := h'.blk id B hB1
      exact ⟨L, hsub _ _ h1, h2.mono hsub, h3⟩
    · cases hB1
      refine ⟨_, Mu.set_same, ⟨fun _ => rfl, rfl, fun j x hx => ?_, fun _ _ => ⟨c, e, lo, hi, hnew, rfl, h00, hlo⟩⟩, fun _ => h.up _ h.size⟩
      obtain ⟨y, h1, h2⟩ := hc j x hx
      exact ⟨y, by simp only [World.cell?, hnew, Nat.zero_add]; simpa using h1, h2.mono hsub⟩
  · have hlt : ∀ {id B L}, live m id = some B → Mu.set μ m.length ⟨w.heap.size, 0, c.size, z, true⟩ id = some L → Takes B L → L.b < w.heap.size ∧ μ id = some L := fun {id B L} ha hL hb => by
      obtain ⟨L0, k1, k2, _⟩ := h.blk id B ha
      have := hsub _ _ k1
      rw [this] at hL; cases hL
      exact ⟨k2.lt hb, k1⟩
    rcases live_push.1 h1 with g1 | ⟨rfl, e1⟩ <;> rcases live_push.1 h2 with g2 | ⟨rfl, e2⟩
    · exact h.excl id id' B B' L L' g1 g2 hne (hlt g1 hl (.inl hr)).2 (hlt g2 hl' hb).2 hr hb
    · rw [Mu.set_same] at hl'; cases hl'
      have := (hlt g1 hl (.inl hr)).1
      show L.b ≠ w.heap.size
      omega
    · rw [Mu.set_same] at hl; cases hl
      have := (hlt g2 hl' hb).1
      show w.heap.size ≠ L'.b
      omega
    · exact absurd rfl hne
/-- A block of no room, which is nowhere. -/
theorem RepM.ghost (h : RepM F w0 μ m w) (hd : Dom μ m.length) (z : Nat) (b o : Nat := 0) : RepM F w0 (μ.set m.length ⟨b, o, 0, z, true⟩) (m ++ [some ⟨[], true, z⟩]) w := by
  have hsub := Mu.set_sub (L := ⟨b, o, 0, z, true⟩) (hd m.length (Nat.le_refl _))
  have hlt : ∀ {id B L}, live m id = some B → Mu.set μ m.length ⟨b, o, 0, z, true⟩ id = some L → μ id = some L := fun {id B L} ha hL => by
    obtain ⟨L0, k1, k2, _⟩ := h.blk id B ha
    have := hsub _ _ k1
    rw [this] at hL; cases hL
    exact k1
  refine ⟨h.os, h.tape, h.output, h.size, h.frame, h.up, fun id B hB => ?_, fun id id' B B' L L' h1 h2 hne hl hl' hr hb => ?_⟩
  · rcases live_push.1 hB with hB1 | ⟨rfl, hB1⟩
    · obtain ⟨L, h1, h2, h3⟩ := h.blk id B hB1
      exact ⟨L, hsub _ _ h1, h2.mono hsub, h3⟩
    · cases hB1
      exact ⟨_, Mu.set_same, ⟨fun _ => rfl, rfl, fun j x hx => by simp at hx, fun _ hb => by rcases hb with hb | hb; exact absurd rfl hb.2; exact absurd rfl hb⟩, fun hb => absurd rfl hb.2⟩
  · rcases live_push.1 h1 with g1 | ⟨rfl, e1⟩ <;> rcases live_push.1 h2 with g2 | ⟨rfl, e2⟩
    · exact h.excl id id' B B' L L' g1 g2 hne (hlt g1 hl) (hlt g2 hl') hr hb
    · rw [Mu.set_same] at hl'; cases hl'; cases e2
      rcases hb with hb | hb
      · exact absurd rfl hb.2
      · exact absurd rfl hb
    · rw [Mu.set_same] at hl; cases hl; cases e1
      exact absurd rfl hr.2
    · exact absurd rfl hne
theorem live_set {m : Mem} {id i : Nat} {x : Option Blk} {B : Blk} (h : live (m.set i x) id = some B) : (id = i ∧ x = some B) ∨ (id ≠ i ∧ live m id = some B) := by
  rw [live_some, List.getElem?_set] at h
  by_cases hi : i = id
  · subst hi
    simp only [if_true] at h
    split at h
    · left; exact ⟨rfl, by simpa using h⟩
    · cases h
  · rw [if_neg hi] at h
    exact .inr ⟨fun e => hi e.symm, live_some.2 h⟩
/-- A block of one's own is written. -/
theorem RepM.write {w' : World} (h : RepM F w0 μ m w) {i : Nat} {B : Blk} {L : Loc} {cs : List Value} (hB : live m i = some B) (hL : μ i = some L) (hr : Rw B L)
    (ho : w'.os = w.os) (ht : w'.tape = w.tape) (hp : w'.output = w.output) (hs : w'.heap.size = w.heap.size) (hh : ∀ k, k ≠ L.b → w'.heap[k]? = w.heap[k]?)
    (hrow : RowOK L w') (hc : CellsOK μ cs L.b L.o w') : RepM F w0 μ (m.set i (some { B with cells := cs })) w' := by
  obtain ⟨L0, k1, k2, k3⟩ := h.blk i B hB
  rw [hL] at k1; cases k1
  refine ⟨ho.trans h.os, ht.trans h.tape, hp.trans h.output, by rw [hs]; exact h.size, fun k hk => ?_, h.up, fun id B' hB' => ?_, fun id id' B1 B2 L1 L2 h1 h2 hne hl1 hl2 hr1 hb2 => ?_⟩
  · rw [hh k fun e => hk (e ▸ k3 hr)]; exact h.frame k hk
  · rcases live_set hB' with ⟨rfl, e⟩ | ⟨hne, hB'⟩
    · cases e
      exact ⟨L, hL, ⟨k2.rw, k2.z, hc, fun _ _ => hrow⟩, fun _ => k3 hr⟩
    · obtain ⟨L', j1, j2, j3⟩ := h.blk id B' hB'
      exact ⟨L', j1, j2.keep fun hb => hh _ fun e => h.excl i id B B' L L' hB hB' (fun e => hne e.symm) hL j1 hr hb e.symm, j3⟩
  · rcases live_set h1 with ⟨e0, e1⟩ | ⟨hn1, g1⟩ <;> rcases live_set h2 with ⟨e0', e2⟩ | ⟨hn2, g2⟩
    · exact absurd (e0.trans e0'.symm) hne
    · cases e1; subst e0; rw [hL] at hl1; cases hl1
      exact h.excl id id' B B2 L L2 hB g2 hne hL hl2 hr hb2
    · cases e2; subst e0'; rw [hL] at hl2; cases hl2
      exact h.excl id id' B1 B L1 L g1 hB hne hl1 hL hr1 (.inl hr)
    · exact h.excl id id' B1 B2 L1 L2 g1 g2 hne hl1 hl2 hr1 hb2
end
end Go.Proofs.Ytmmaolnjjjdecaa.Av
