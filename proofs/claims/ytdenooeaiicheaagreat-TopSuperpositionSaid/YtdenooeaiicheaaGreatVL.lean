/- Walking in numbers of one's own: short names of the steps (a claim has at most 1,500,000 bytes). -/
import Derived.Test.YtdenooeaiicheaaGreatVK
set_option linter.unusedVariables false
set_option linter.unusedSimpArgs false
namespace Go.Proofs.YtdenooeaiicheaaGreat.Av
open Go
section
variable {P : Program} {ops : Array Oper} {l : List Oper} {σ : Slots} {m : Mem} {K : Slots → Mem → Prop} {d : Option Tmp} {t : TypeId} {pp : String} {af : Array Edge} {op : Op} {j : Nat} {b c : Bool} {dj : Tmp} {p : Prop} {ip : Decidable p}
theorem Ja (k : Run P ops K (⟨d, op, t, pp, af, none⟩ :: l) σ m) (h1 : (ops[j]?).bind (·.dst) = some dj := by exact rfl) (h2 : look σ dj = some (.bool b) := by exact rfl) : Run P ops K (⟨d, op, t, pp, af, some (j, b)⟩ :: l) σ m := run_want h1 h2 k
theorem Jb (k : Run P ops K l (put σ d undef) m) (h1 : (ops[j]?).bind (·.dst) = some dj := by exact rfl) (h2 : look σ dj = some (.bool (!b)) := by exact rfl) : Run P ops K (⟨d, op, t, pp, af, some (j, b)⟩ :: l) σ m := run_unwant h1 h2 k
theorem Jc (k : Run P ops K l (put σ d undef) m) (h1 : (ops[j]?).bind (·.dst) = some dj := by exact rfl) (h2 : look σ dj = some undef := by exact rfl) : Run P ops K (⟨d, op, t, pp, af, some (j, b)⟩ :: l) σ m := run_undef h1 h2 k
theorem Jd (k : Run P ops K (⟨d, op, t, pp, af, none⟩ :: l) ((dj, .bool true) :: σ) m) (h1 : (ops[j]?).bind (·.dst) = some dj := by exact rfl) (h2 : look σ dj = some (.bool (decide p)) := by exact rfl) (hp : p := by omega) : Run P ops K (⟨d, op, t, pp, af, some (j, true)⟩ :: l) σ m := run_guard1t h1 h2 hp k
theorem Je (k : Run P ops K l (put ((dj, .bool false) :: σ) d undef) m) (h1 : (ops[j]?).bind (·.dst) = some dj := by exact rfl) (h2 : look σ dj = some (.bool (decide p)) := by exact rfl) (hp : ¬ p := by omega) : Run P ops K (⟨d, op, t, pp, af, some (j, true)⟩ :: l) σ m := run_guard1f h1 h2 hp k
theorem Jf (k : Run P ops K (⟨d, op, t, pp, af, none⟩ :: l) ((dj, .bool false) :: σ) m) (h1 : (ops[j]?).bind (·.dst) = some dj := by exact rfl) (h2 : look σ dj = some (.bool (decide p)) := by exact rfl) (hp : ¬ p := by omega) : Run P ops K (⟨d, op, t, pp, af, some (j, false)⟩ :: l) σ m := run_guard0t h1 h2 hp k
theorem Jg (k : Run P ops K l (put ((dj, .bool true) :: σ) d undef) m) (h1 : (ops[j]?).bind (·.dst) = some dj := by exact rfl) (h2 : look σ dj = some (.bool (decide p)) := by exact rfl) (hp : p := by omega) : Run P ops K (⟨d, op, t, pp, af, some (j, false)⟩ :: l) σ m := run_guard0f h1 h2 hp k
theorem Jh (ht : p → Run P ops K (⟨d, op, t, pp, af, none⟩ :: l) ((dj, .bool true) :: σ) m) (hf : ¬ p → Run P ops K l (put ((dj, .bool false) :: σ) d undef) m) (h1 : (ops[j]?).bind (·.dst) = some dj := by exact rfl) (h2 : look σ dj = some (.bool (decide p)) := by exact rfl) : Run P ops K (⟨d, op, t, pp, af, some (j, true)⟩ :: l) σ m := run_guard1 h1 h2 ht hf
theorem Ji (ht : ¬ p → Run P ops K (⟨d, op, t, pp, af, none⟩ :: l) ((dj, .bool false) :: σ) m) (hf : p → Run P ops K l (put ((dj, .bool true) :: σ) d undef) m) (h1 : (ops[j]?).bind (·.dst) = some dj := by exact rfl) (h2 : look σ dj = some (.bool (decide p)) := by exact rfl) : Run P ops K (⟨d, op, t, pp, af, some (j, false)⟩ :: l) σ m := run_guard0 h1 h2 ht hf
theorem Jj (ht : c = b → Run P ops K (⟨d, op, t, pp, af, none⟩ :: l) ((dj, .bool b) :: σ) m) (hf : c = !b → Run P ops K l (put ((dj, .bool (!b)) :: σ) d undef) m) (h1 : (ops[j]?).bind (·.dst) = some dj := by exact rfl) (h2 : look σ dj = some (.bool c) := by exact rfl) : Run P ops K (⟨d, op, t, pp, af, some (j, b)⟩ :: l) σ m := run_guard h1 h2 ht hf
variable {M : List Nat} {kb base i : Nat} {cr : List Nat}
theorem Jk (k : RunD P ops M kb base K i (⟨d, op, t, pp, af, none⟩ :: l) σ m cr) (h1 : (ops[j]?).bind (·.dst) = some dj := by exact rfl) (h2 : look σ dj = some (.bool b) := by exact rfl) : RunD P ops M kb base K i (⟨d, op, t, pp, af, some (j, b)⟩ :: l) σ m cr := rund_want h1 h2 k
theorem Jl (k : RunD P ops M kb base K (i + 1) l (put σ d undef) m cr) (h1 : (ops[j]?).bind (·.dst) = some dj := by exact rfl) (h2 : look σ dj = some (.bool (!b)) := by exact rfl) : RunD P ops M kb base K i (⟨d, op, t, pp, af, some (j, b)⟩ :: l) σ m cr := rund_unwant h1 h2 k
theorem Jm (k : RunD P ops M kb base K (i + 1) l (put σ d undef) m cr) (h1 : (ops[j]?).bind (·.dst) = some dj := by exact rfl) (h2 : look σ dj = some undef := by exact rfl) : RunD P ops M kb base K i (⟨d, op, t, pp, af, some (j, b)⟩ :: l) σ m cr := rund_undef h1 h2 k
theorem Jn (ht : p → RunD P ops M kb base K i (⟨d, op, t, pp, af, none⟩ :: l) ((dj, .bool true) :: σ) m cr) (hf : ¬ p → RunD P ops M kb base K (i + 1) l (put ((dj, .bool false) :: σ) d undef) m cr) (h1 : (ops[j]?).bind (·.dst) = some dj := by exact rfl) (h2 : look σ dj = some (.bool (decide p)) := by exact rfl) : RunD P ops M kb base K i (⟨d, op, t, pp, af, some (j, true)⟩ :: l) σ m cr := rund_guard1 h1 h2 ht hf
theorem Jo (ht : ¬ p → RunD P ops M kb base K i (⟨d, op, t, pp, af, none⟩ :: l) ((dj, .bool false) :: σ) m cr) (hf : p → RunD P ops M kb base K (i + 1) l (put ((dj, .bool true) :: σ) d undef) m cr) (h1 : (ops[j]?).bind (·.dst) = some dj := by exact rfl) (h2 : look σ dj = some (.bool (decide p)) := by exact rfl) : RunD P ops M kb base K i (⟨d, op, t, pp, af, some (j, false)⟩ :: l) σ m cr := rund_guard0 h1 h2 ht hf
theorem Jp (ht : c = b → RunD P ops M kb base K i (⟨d, op, t, pp, af, none⟩ :: l) ((dj, .bool b) :: σ) m cr) (hf : c = !b → RunD P ops M kb base K (i + 1) l (put ((dj, .bool (!b)) :: σ) d undef) m cr) (h1 : (ops[j]?).bind (·.dst) = some dj := by exact rfl) (h2 : look σ dj = some (.bool c) := by exact rfl) : RunD P ops M kb base K i (⟨d, op, t, pp, af, some (j, b)⟩ :: l) σ m cr := rund_guard h1 h2 ht hf
end
section
variable {P : Program} {nt n0 : Nat} {Q : Exit → Slots → Mem → Prop} {σ : Slots} {m : Mem} {c : Operand} {x y : Code} {b : Bool} {p : Prop} {ip : Decidable p} {id nb : Nat} {ops : Array Oper}
theorem Jq (h1 : AW P nt n0 x Q σ m) (hc : ev σ c = some (.bool true) := by exact rfl) : AW P nt n0 (.cond c x y) Q σ m := aw_cond_t hc h1
theorem Jr (h1 : AW P nt n0 y Q σ m) (hc : ev σ c = some (.bool false) := by exact rfl) : AW P nt n0 (.cond c x y) Q σ m := aw_cond_f hc h1
theorem Js (h1 : AW P nt n0 x Q σ m) (hc : ev σ c = some (.bool (decide p)) := by exact rfl) (hp : p := by omega) : AW P nt n0 (.cond c x y) Q σ m := aw_cond_tp hc hp h1
theorem Jt (h1 : AW P nt n0 y Q σ m) (hc : ev σ c = some (.bool (decide p)) := by exact rfl) (hp : ¬ p := by omega) : AW P nt n0 (.cond c x y) Q σ m := aw_cond_fp hc hp h1
theorem Ju (h1 : p → AW P nt n0 x Q σ m) (h0 : ¬ p → AW P nt n0 y Q σ m) (hc : ev σ c = some (.bool (decide p)) := by exact rfl) : AW P nt n0 (.cond c x y) Q σ m := aw_cond1 hc h1 h0
theorem Jv (h1 : b = true → AW P nt n0 x Q σ m) (h0 : b = false → AW P nt n0 y Q σ m) (hc : ev σ c = some (.bool b) := by exact rfl) : AW P nt n0 (.cond c x y) Q σ m := aw_cond hc h1 h0
theorem Jw (h : Run P ops (fun σ' m' => Q .normal σ' m') ops.toList σ m) (hd : dstsOK nt ops = true := by kernel_rfl) (hn : n0 ≤ m.length := by exact Nat.le_of_ble_eq_true rfl) : AW P nt n0 (.region id ops false) Q σ m := aw_region hd hn h
theorem Jx (M : List Nat) (kb : Nat) (h : RunD P ops M kb nb (fun σ' m' => Q .normal σ' m') 0 ops.toList σ m []) (hb : LenR m nb := by (repeat constructor)) (hf : P.follows .mixedOrders = true := by kernel_rfl) (hc : chkD ops M kb = true := by kernel_rfl) (hd : dstsOK nt ops = true := by kernel_rfl) (hn : Nat.ble n0 nb = true := by rfl) : AW P nt n0 (.region id ops true) Q σ m := aw_region_dC M kb hb hf hc hd hn h
theorem J0 (M : List Nat) (kb : Nat) (h : RunD P ops M kb m.length (fun σ' m' => Q .normal σ' m') 0 ops.toList σ m []) (hf : P.follows .mixedOrders = true := by kernel_rfl) (hc : chkD ops M kb = true := by kernel_rfl) (hd : dstsOK nt ops = true := by kernel_rfl) (hn : n0 ≤ m.length := by exact Nat.le_of_ble_eq_true rfl) : AW P nt n0 (.region id ops true) Q σ m := aw_region_d M kb hf hc hd hn h
theorem Jy (h : Q .normal σ m) : AW P nt n0 .skip Q σ m := aw_skip h
theorem Jz {x y : Code} (h : AW P nt n0 x (ThenA (AW P nt n0 y Q) Q) σ m) : AW P nt n0 (.seq x y) Q σ m := aw_seq h
end
end Go.Proofs.YtdenooeaiicheaaGreat.Av
