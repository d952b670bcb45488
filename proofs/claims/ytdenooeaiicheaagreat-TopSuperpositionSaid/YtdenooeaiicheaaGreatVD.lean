/- Walking in numbers of one's own: the library, part D. -/
import Derived.Test.YtdenooeaiicheaaGreatVC
set_option linter.unusedVariables false
set_option linter.unusedSimpArgs false
/- Walking in numbers of one's own: the steps, each finding its own law. -/
namespace Go.Proofs.YtdenooeaiicheaaGreat.Av
section
variable {P : Program} {ops : Array Oper} {l : List Oper} {σ : Slots} {m m' : Mem} {K : Slots → Mem → Prop} {d : Option Tmp} {t : TypeId} {pp : String} {af : Array Edge}
/-- A step that leaves the blocks alone. -/
theorem st {op : Op} {v : Value} (k : Run P ops K l (put σ d v) m)
    (h : OpOK P ⟨d, op, t, pp, af, none⟩ (ev σ) m v m := by first
      | (apply ok_move; rfl)
      | (apply ok_assign; rfl)
      | (apply ok_load; rfl; rfl; rfl; (focus ((repeat constructor); first | done | fail)); rfl)
      | (apply ok_load_ints; rfl; rfl; rfl; ((try simp only [Nat.zero_add, Nat.mul_one]); rfl); (first | omega | (simp only [List.length_cons, List.length_nil, List.length_map, List.length_set, List.length_append]; omega) | (simp; omega)); rfl)
      | (apply ok_load_u8; rfl; rfl; rfl; ((try simp only [Nat.zero_add, Nat.mul_one]); rfl); (first | omega | (simp only [List.length_cons, List.length_nil, List.length_map, List.length_set, List.length_append]; omega) | (simp; omega)); rfl)
      | (apply ok_loadN; rfl; rfl; rfl; (focus ((repeat constructor); first | done | fail)); rfl)
      | (apply ok_bytes_str; rfl; rfl; (first | exact Nat.le_of_ble_eq_true rfl | omega | (simp; first | done | fail) | (simp; omega)); (first | exact TakeR.eq (by ((repeat constructor); first | done | fail)) | (apply take_full; first | rfl | (simp; first | done | fail) | (simp; omega)) | rfl); rfl)
      | (apply ok_nil_str; rfl)
      | (apply ok_append_none; rfl; rfl; (focus first | (apply Src.slc; rfl; exact Ty.eq; rfl; (first | exact Nat.le_of_ble_eq_true rfl | omega | (simp; first | done | fail) | (simp; omega)); (first | exact TakeR.eq (by ((repeat constructor); first | done | fail)) | (apply take_full; first | rfl | (simp; first | done | fail) | (simp; omega)) | rfl); (first | rfl | (simp; first | done | fail)); rfl; first | done | fail) | (apply Src.str; rfl; exact Ty.eq; rfl; rfl; first | done | fail) | (apply Src.nil; rfl; exact Ty.eq; first | done | fail)))
      | (apply ok_fieldAddr; rfl; rfl; infer_instance; rfl)
      | (apply ok_pick1; rfl; rfl)
      | (apply ok_pick0; rfl; rfl)
      | (apply ok_extract; rfl; rfl)
      | (apply ok_add64; rfl; rfl; omega)
      | (apply ok_sub64; rfl; rfl; omega)
      | (apply ok_mul64; rfl; rfl; omega)
      | (apply ok_lss; rfl; rfl)
      | (apply ok_leq; rfl; rfl)
      | (apply ok_gtr; rfl; rfl)
      | (apply ok_geq; rfl; rfl)
      | (apply ok_eql; rfl; rfl)
      | (apply ok_neq; rfl; rfl)
      | (apply ok_not_dec; rfl)
      | (apply ok_not; rfl)
      | (apply ok_str_eql; rfl; rfl)
      | (apply ok_str_neq; rfl; rfl)
      | (apply ok_len_str; rfl)
      | (apply ok_len_slice; rfl)
      | (apply ok_nilCheck; rfl)
      | (apply ok_nilCheck_func; rfl)
      | (apply ok_min; rfl; rfl)
      | (apply ok_max; rfl; rfl)
      | (apply ok_indexAddr_slice; rfl; rfl; omega)
      | (apply ok_indexAddr_array; rfl; rfl; omega)
      | (apply ok_str_index; rfl; rfl; omega)
      | (apply ok_conv_in; rfl; simp [IntKind.min, IntKind.signed, IntKind.bits] <;> omega; simp [IntKind.max, IntKind.signed, IntKind.bits] <;> omega)
      | (apply ok_quo64; rfl; rfl; omega)
      | (apply ok_rem_pos; rfl; rfl; omega)
      | (apply ok_and; rfl; rfl)
      | (apply ok_or; rfl; rfl)
      | (apply ok_xor; rfl; rfl)
      | (apply ok_andNot; rfl; rfl)
      | (apply ok_shl; rfl; rfl; omega)
      | (apply ok_shr; rfl; rfl; omega)
      | (apply ok_neg; rfl)
      | (apply ok_compl; rfl)
      | (apply ok_build; rfl; (focus ((repeat (first | apply BuildR.nil | (apply BuildR.cons; rfl; rfl; (focus first | ((repeat constructor); first | done | fail) | exact ListR.refl _); rfl; (focus ((repeat constructor); first | done | fail))))); first | done | fail)))
      | (apply ok_build_array; rfl; (focus ((repeat (first | apply BuildR.nil | (apply BuildR.cons; rfl; rfl; (focus first | ((repeat constructor); first | done | fail) | exact ListR.refl _); rfl; (focus ((repeat constructor); first | done | fail))))); first | done | fail)))
      | (apply ok_field; rfl; rfl; (first | exact PartR.one Ty.eq rfl (by ((repeat constructor); first | done | fail)) | exact PartR.agg Ty.eq rfl inferInstance (by ((repeat constructor); first | done | fail))))
      | (apply ok_index; rfl; rfl; omega; (first | exact PartR.one Ty.eq rfl (by ((repeat constructor); first | done | fail)) | exact PartR.agg Ty.eq rfl inferInstance (by ((repeat constructor); first | done | fail))))
      | (apply ok_bool_eql; rfl; rfl)
      | (apply ok_bool_neq; rfl; rfl)
      | (apply ok_agg_eql; rfl; rfl; (focus ((repeat (first | apply EqFs.nil | (apply EqFs.cons; (first | exact PartR.one Ty.eq rfl (by ((repeat constructor); first | done | fail)) | exact PartR.agg Ty.eq rfl inferInstance (by ((repeat constructor); first | done | fail))); (first | exact PartR.one Ty.eq rfl (by ((repeat constructor); first | done | fail)) | exact PartR.agg Ty.eq rfl inferInstance (by ((repeat constructor); first | done | fail))); (first | exact Or.inl (Eq0.int Ty.eq) | exact Or.inl (Eq0.bool Ty.eq) | exact Or.inl (Eq0.string Ty.eq))))); first | done | fail)))
      | (apply ok_agg_neq; rfl; rfl; (focus ((repeat (first | apply EqFs.nil | (apply EqFs.cons; (first | exact PartR.one Ty.eq rfl (by ((repeat constructor); first | done | fail)) | exact PartR.agg Ty.eq rfl inferInstance (by ((repeat constructor); first | done | fail))); (first | exact PartR.one Ty.eq rfl (by ((repeat constructor); first | done | fail)) | exact PartR.agg Ty.eq rfl inferInstance (by ((repeat constructor); first | done | fail))); (first | exact Or.inl (Eq0.int Ty.eq) | exact Or.inl (Eq0.bool Ty.eq) | exact Or.inl (Eq0.string Ty.eq))))); first | done | fail)))
      | (apply ok_ptr_eql; rfl; rfl)
      | (apply ok_ptr_neq; rfl; rfl)
      | (apply ok_slice_str; rfl; (focus first | exact BndR.none | (apply BndR.some; rfl; omega; first | done | fail)); (focus first | exact BndR.none | (apply BndR.some; rfl; omega; first | done | fail)); omega)
      | (apply ok_slice_slice; rfl; rfl; rfl; (focus first | exact BndR.none | (apply BndR.some; rfl; omega; first | done | fail)); (focus first | exact BndR.none | (apply BndR.some; rfl; omega; first | done | fail)); omega)
      | (apply ok_slice_nil; rfl; (focus first | exact BndR.none | (apply BndR.some; rfl; omega; first | done | fail)); (focus first | exact BndR.none | (apply BndR.some; rfl; omega; first | done | fail)))
      | (apply ok_slice_array; rfl; rfl; rfl; rfl; rfl; (first | exact Nat.le_of_ble_eq_true rfl | omega | (simp; first | done | fail) | (simp; omega)); (focus first | exact BndR.none | (apply BndR.some; rfl; omega; first | done | fail)); (focus first | exact BndR.none | (apply BndR.some; rfl; omega; first | done | fail)); omega; rfl)
      | (apply ok_add; rfl; rfl)
      | (apply ok_sub; rfl; rfl)
      | (apply ok_mul; rfl; rfl)
      | (apply ok_conv; rfl)
      | (apply ok_conv_str; rfl; rfl)
      | (apply ok_pick; rfl; rfl; rfl)) : Run P ops K (⟨d, op, t, pp, af, none⟩ :: l) σ m := run_pure h k
theorem stm {op : Op} {v : Value} (k : Run P ops K l (put σ d v) m')
    (h : OpOK P ⟨d, op, t, pp, af, none⟩ (ev σ) m v m' := by first
      | (apply ok_box; rfl; (focus first | ((repeat constructor); first | done | fail) | exact ListR.refl _); (focus ((repeat constructor); first | done | fail)))
      | (apply ok_alloc; rfl; (focus ((repeat constructor); first | done | fail)))
      | (apply ok_buildSlice; rfl; rfl; rfl; rfl; rfl; (focus ((repeat (first | apply BuildR.nil | (apply BuildR.cons; rfl; rfl; (focus first | ((repeat constructor); first | done | fail) | exact ListR.refl _); rfl; (focus ((repeat constructor); first | done | fail))))); first | done | fail)); (focus ((repeat constructor); first | done | fail)); rfl)
      | (apply ok_makeSlice; rfl; rfl; rfl; omega; (focus ((repeat constructor); first | done | fail)))
      | (apply ok_append_nil; rfl; rfl; rfl; (focus first | (apply Src.slc; rfl; exact Ty.eq; rfl; (first | exact Nat.le_of_ble_eq_true rfl | omega | (simp; first | done | fail) | (simp; omega)); (first | exact TakeR.eq (by ((repeat constructor); first | done | fail)) | (apply take_full; first | rfl | (simp; first | done | fail) | (simp; omega)) | rfl); (first | rfl | (simp; first | done | fail)); rfl; first | done | fail) | (apply Src.str; rfl; exact Ty.eq; rfl; rfl; first | done | fail) | (apply Src.nil; rfl; exact Ty.eq; first | done | fail)); omega; omega; (focus ((repeat constructor); first | done | fail)); rfl)
      | (apply ok_storeN; rfl; rfl; (focus first | ((repeat constructor); first | done | fail) | exact ListR.refl _); rfl; rfl; rfl; rfl; (focus first | ((repeat constructor); first | done | fail) | (apply splice_ints; ((try simp only [Nat.zero_add, Nat.mul_one]); rfl); (first | omega | (simp only [List.length_cons, List.length_nil, List.length_map, List.length_set, List.length_append]; omega) | (simp; omega)); first | done | fail)); (focus ((repeat constructor); first | done | fail)); rfl)
      | (apply ok_append; rfl; rfl; rfl; rfl; rfl; rfl; (focus first | (apply Src.slc; rfl; exact Ty.eq; rfl; (first | exact Nat.le_of_ble_eq_true rfl | omega | (simp; first | done | fail) | (simp; omega)); (first | exact TakeR.eq (by ((repeat constructor); first | done | fail)) | (apply take_full; first | rfl | (simp; first | done | fail) | (simp; omega)) | rfl); (first | rfl | (simp; first | done | fail)); rfl; first | done | fail) | (apply Src.str; rfl; exact Ty.eq; rfl; rfl; first | done | fail) | (apply Src.nil; rfl; exact Ty.eq; first | done | fail)); (first | exact Nat.le_of_ble_eq_true rfl | omega | (simp; first | done | fail) | (simp; omega)); (first | exact TakeR.eq (by ((repeat constructor); first | done | fail)) | (apply take_full; first | rfl | (simp; first | done | fail) | (simp; omega)) | rfl); rfl; omega; (focus ((repeat constructor); first | done | fail)); rfl)
      | (apply ok_copy; rfl; rfl; rfl; (focus first | (apply Src.slc; rfl; exact Ty.eq; rfl; (first | exact Nat.le_of_ble_eq_true rfl | omega | (simp; first | done | fail) | (simp; omega)); (first | exact TakeR.eq (by ((repeat constructor); first | done | fail)) | (apply take_full; first | rfl | (simp; first | done | fail) | (simp; omega)) | rfl); (first | rfl | (simp; first | done | fail)); rfl; first | done | fail) | (apply Src.str; rfl; exact Ty.eq; rfl; rfl; first | done | fail) | (apply Src.nil; rfl; exact Ty.eq; first | done | fail)); omega; (first | exact Nat.le_of_ble_eq_true rfl | omega | (simp; first | done | fail) | (simp; omega)); rfl; (focus ((repeat constructor); first | done | fail)); rfl))
    (hl : m.length ≤ m'.length := by exact Nat.le_of_ble_eq_true rfl) : Run P ops K (⟨d, op, t, pp, af, none⟩ :: l) σ m := run_step h hl k
theorem st_call {fx : Operand} {xs : Array Operand} {at_ : Array TypeId} {f : FuncId} [FnI P f] {a1 a2 : Array Value} {vs args : List Value} {r : Value} (hc : ACalls P f args [] r []) (k : Run P ops K l (put σ d r) m)
    (hf : ev σ fx = some (.func (.func f) a1 a2) := by rfl) (hxs : ArgsR (ev σ) xs.toList vs := by ((repeat (apply ArgsR.cons; rfl)); exact ArgsR.nil))
    (hargs : a1.toList ++ vs ++ a2.toList = args := by rfl) (hp : args.all (plain 6) = true := by rfl) (hr : plain 6 r = true := by rfl) : Run P ops K (⟨d, .call ⟨.value fx, xs, at_⟩, t, pp, af, none⟩ :: l) σ m :=
  run_pure (ok_call hf hxs hargs hp hr hc) k
end
/-! ### in a region that draws its order -/
section
variable {P : Program} {ops : Array Oper} {M : List Nat} {kb base i : Nat} {l : List Oper} {σ : Slots} {m m' : Mem} {cr : List Nat} {K : Slots → Mem → Prop} {d : Option Tmp} {t : TypeId} {pp : String} {af : Array Edge}
theorem rund_nil (h : K σ m) : RunD P ops M kb base K i [] σ m cr := .nil (Sub.refl σ) h
theorem RunD.weaken {σ σ' : Slots} (h : RunD P ops M kb base K i l σ m cr) (hs : Sub σ σ') : RunD P ops M kb base K i l σ' m cr := by
  cases h with
  | nil h1 h2 => exact .nil (h1.trans hs) h2
  | no h1 h2 h3 => exact .no (h1.trans hs) h2 h3
  | pure h1 h2 h3 h4 h5 => exact .pure (h1.trans hs) h2 h3 h4 h5
  | mem h1 h2 h3 h4 h5 h6 h7 => exact .mem (h1.trans hs) h2 h3 h4 h5 h6 h7
  | bar h1 h2 h3 h4 h5 h6 h7 => exact .bar (h1.trans hs) h2 h3 h4 h5 h6 h7
theorem rund_guard {op : Op} {j : Nat} {b c : Bool} {dj : Tmp} (h1 : (ops[j]?).bind (·.dst) = some dj) (h2 : look σ dj = some (.bool c))
    (ht : c = b → RunD P ops M kb base K i (⟨d, op, t, pp, af, none⟩ :: l) ((dj, .bool b) :: σ) m cr) (hf : c = !b → RunD P ops M kb base K (i + 1) l (put ((dj, .bool (!b)) :: σ) d undef) m cr) : RunD P ops M kb base K i (⟨d, op, t, pp, af, some (j, b)⟩ :: l) σ m cr := by
  by_cases hcb : c = b
  · have h := ht hcb
    subst hcb
    have hsub : ∀ {σ1}, Sub σ1 ((dj, .bool c) :: σ) → Sub σ1 ((dj, .bool c) :: σ1) := fun {σ1} hs t v h => by
      have := hs t v h
      simp only [look] at this ⊢
      cases hb : Nat.beq dj t with
      | false => exact h
      | true => rw [hb] at this; exact this
    cases h with
    | no hs hw => cases hw
    | pure hs hw h3 hop hr => exact .pure ((hs.cons dj _).trans ((look_same look_head).trans (look_same h2))) ⟨dj, .bool c, h1, look_head, .inl ⟨c, rfl, by simp⟩⟩ h3 ⟨(hop.sub (hsub hs)).ok⟩ (hr.weaken ((hsub hs).put _ _))
    | mem hs hw h3 h4 hop hx hr => exact .mem ((hs.cons dj _).trans ((look_same look_head).trans (look_same h2))) ⟨dj, .bool c, h1, look_head, .inl ⟨c, rfl, by simp⟩⟩ h3 h4 ⟨(hop.sub (hsub hs)).ok⟩ hx (hr.weaken ((hsub hs).put _ _))
    | bar hs hw h3 h4 hop hx hr => exact .bar ((hs.cons dj _).trans ((look_same look_head).trans (look_same h2))) ⟨dj, .bool c, h1, look_head, .inl ⟨c, rfl, by simp⟩⟩ h3 h4 ⟨(hop.sub (hsub hs)).ok⟩ hx (hr.weaken ((hsub hs).put _ _))
  · have hcb : c = !b := by cases c <;> cases b <;> simp_all
    refine .no (look_same h2) ⟨dj, .bool c, h1, look_head, .inl ⟨c, rfl, by subst hcb; cases b <;> rfl⟩⟩ ?_
    rw [hcb]
    exact hf hcb
theorem look_known {dj : Tmp} {b : Bool} (h2 : look σ dj = some (.bool b)) : Sub σ ((dj, .bool b) :: σ) := fun t v hv => by
  simp only [look]
  cases hb : Nat.beq dj t with
  | false => exact hv
  | true => rw [← Nat.eq_of_beq_eq_true hb] at hv; rw [h2] at hv; exact hv
theorem rund_undef {op : Op} {j : Nat} {b : Bool} {dj : Tmp} (h1 : (ops[j]?).bind (·.dst) = some dj) (h2 : look σ dj = some undef)
    (k : RunD P ops M kb base K (i + 1) l (put σ d undef) m cr) : RunD P ops M kb base K i (⟨d, op, t, pp, af, some (j, b)⟩ :: l) σ m cr :=
  .no (Sub.refl σ) ⟨dj, undef, h1, h2, .inr ⟨rfl, rfl⟩⟩ k
theorem rund_want {op : Op} {j : Nat} {b : Bool} {dj : Tmp} (h1 : (ops[j]?).bind (·.dst) = some dj) (h2 : look σ dj = some (.bool b))
    (h : RunD P ops M kb base K i (⟨d, op, t, pp, af, none⟩ :: l) σ m cr) : RunD P ops M kb base K i (⟨d, op, t, pp, af, some (j, b)⟩ :: l) σ m cr :=
  rund_guard h1 h2 (fun _ => h.weaken (look_known h2)) fun e => absurd e (by cases b <;> simp)
theorem rund_unwant {op : Op} {j : Nat} {b : Bool} {dj : Tmp} (h1 : (ops[j]?).bind (·.dst) = some dj) (h2 : look σ dj = some (.bool (!b)))
    (h : RunD P ops M kb base K (i + 1) l (put σ d undef) m cr) : RunD P ops M kb base K i (⟨d, op, t, pp, af, some (j, b)⟩ :: l) σ m cr :=
  rund_guard h1 h2 (fun e => absurd e (by cases b <;> simp)) fun _ => h.weaken (Sub.put (look_known h2) _ _)
theorem rund_guard1 {op : Op} {j : Nat} {dj : Tmp} {p : Prop} [Decidable p] (h1 : (ops[j]?).bind (·.dst) = some dj) (h2 : look σ dj = some (.bool (decide p)))
    (ht : p → RunD P ops M kb base K i (⟨d, op, t, pp, af, none⟩ :: l) ((dj, .bool true) :: σ) m cr) (hf : ¬ p → RunD P ops M kb base K (i + 1) l (put ((dj, .bool false) :: σ) d undef) m cr) : RunD P ops M kb base K i (⟨d, op, t, pp, af, some (j, true)⟩ :: l) σ m cr :=
  rund_guard h1 h2 (fun e => ht (of_decide_eq_true e)) fun e => hf (of_decide_eq_false e)
theorem rund_guard0 {op : Op} {j : Nat} {dj : Tmp} {p : Prop} [Decidable p] (h1 : (ops[j]?).bind (·.dst) = some dj) (h2 : look σ dj = some (.bool (decide p)))
    (ht : ¬ p → RunD P ops M kb base K i (⟨d, op, t, pp, af, none⟩ :: l) ((dj, .bool false) :: σ) m cr) (hf : p → RunD P ops M kb base K (i + 1) l (put ((dj, .bool true) :: σ) d undef) m cr) : RunD P ops M kb base K i (⟨d, op, t, pp, af, some (j, false)⟩ :: l) σ m cr :=
  rund_guard h1 h2 (fun e => ht (of_decide_eq_false e)) fun e => hf (of_decide_eq_true e)
theorem sd {op : Op} {v : Value} (k : RunD P ops M kb base K (i + 1) l (put σ d v) m cr) (ht : touch op = false := by rfl)
    (h : OpOK P ⟨d, op, t, pp, af, none⟩ (ev σ) (holes m) v (holes m) := by first
      | (apply ok_move; rfl)
      | (apply ok_assign; rfl)
      | (apply ok_fieldAddr; rfl; rfl; infer_instance; rfl)
      | (apply ok_pick1; rfl; rfl)
      | (apply ok_pick0; rfl; rfl)
      | (apply ok_extract; rfl; rfl)
      | (apply ok_add64; rfl; rfl; omega)
      | (apply ok_sub64; rfl; rfl; omega)
      | (apply ok_mul64; rfl; rfl; omega)
      | (apply ok_lss; rfl; rfl)
      | (apply ok_leq; rfl; rfl)
      | (apply ok_gtr; rfl; rfl)
      | (apply ok_geq; rfl; rfl)
      | (apply ok_eql; rfl; rfl)
      | (apply ok_neq; rfl; rfl)
      | (apply ok_not_dec; rfl)
      | (apply ok_not; rfl)
      | (apply ok_str_eql; rfl; rfl)
      | (apply ok_str_neq; rfl; rfl)
      | (apply ok_len_str; rfl)
      | (apply ok_len_slice; rfl)
      | (apply ok_nilCheck; rfl)
      | (apply ok_nilCheck_func; rfl)
      | (apply ok_min; rfl; rfl)
      | (apply ok_max; rfl; rfl)
      | (apply ok_indexAddr_slice; rfl; rfl; omega)
      | (apply ok_indexAddr_array; rfl; rfl; omega)
      | (apply ok_str_index; rfl; rfl; omega)
      | (apply ok_conv_in; rfl; simp [IntKind.min, IntKind.signed, IntKind.bits] <;> omega; simp [IntKind.max, IntKind.signed, IntKind.bits] <;> omega)
      | (apply ok_quo64; rfl; rfl; omega)
      | (apply ok_rem_pos; rfl; rfl; omega)
      | (apply ok_and; rfl; rfl)
      | (apply ok_or; rfl; rfl)
      | (apply ok_xor; rfl; rfl)
      | (apply ok_andNot; rfl; rfl)
      | (apply ok_shl; rfl; rfl; omega)
      | (apply ok_shr; rfl; rfl; omega)
      | (apply ok_neg; rfl)
      | (apply ok_compl; rfl)
      | (apply ok_build; rfl; (focus ((repeat (first | apply BuildR.nil | (apply BuildR.cons; rfl; rfl; (focus first | ((repeat constructor); first | done | fail) | exact ListR.refl _); rfl; (focus ((repeat constructor); first | done | fail))))); first | done | fail)))
      | (apply ok_build_array; rfl; (focus ((repeat (first | apply BuildR.nil | (apply BuildR.cons; rfl; rfl; (focus first | ((repeat constructor); first | done | fail) | exact ListR.refl _); rfl; (focus ((repeat constructor); first | done | fail))))); first | done | fail)))
      | (apply ok_field; rfl; rfl; (first | exact PartR.one Ty.eq rfl (by ((repeat constructor); first | done | fail)) | exact PartR.agg Ty.eq rfl inferInstance (by ((repeat constructor); first | done | fail))))
      | (apply ok_index; rfl; rfl; omega; (first | exact PartR.one Ty.eq rfl (by ((repeat constructor); first | done | fail)) | exact PartR.agg Ty.eq rfl inferInstance (by ((repeat constructor); first | done | fail))))
      | (apply ok_bool_eql; rfl; rfl)
      | (apply ok_bool_neq; rfl; rfl)
      | (apply ok_agg_eql; rfl; rfl; (focus ((repeat (first | apply EqFs.nil | (apply EqFs.cons; (first | exact PartR.one Ty.eq rfl (by ((repeat constructor); first | done | fail)) | exact PartR.agg Ty.eq rfl inferInstance (by ((repeat constructor); first | done | fail))); (first | exact PartR.one Ty.eq rfl (by ((repeat constructor); first | done | fail)) | exact PartR.agg Ty.eq rfl inferInstance (by ((repeat constructor); first | done | fail))); (first | exact Or.inl (Eq0.int Ty.eq) | exact Or.inl (Eq0.bool Ty.eq) | exact Or.inl (Eq0.string Ty.eq))))); first | done | fail)))
      | (apply ok_agg_neq; rfl; rfl; (focus ((repeat (first | apply EqFs.nil | (apply EqFs.cons; (first | exact PartR.one Ty.eq rfl (by ((repeat constructor); first | done | fail)) | exact PartR.agg Ty.eq rfl inferInstance (by ((repeat constructor); first | done | fail))); (first | exact PartR.one Ty.eq rfl (by ((repeat constructor); first | done | fail)) | exact PartR.agg Ty.eq rfl inferInstance (by ((repeat constructor); first | done | fail))); (first | exact Or.inl (Eq0.int Ty.eq) | exact Or.inl (Eq0.bool Ty.eq) | exact Or.inl (Eq0.string Ty.eq))))); first | done | fail)))
      | (apply ok_ptr_eql; rfl; rfl)
      | (apply ok_ptr_neq; rfl; rfl)
      | (apply ok_slice_str; rfl; (focus first | exact BndR.none | (apply BndR.some; rfl; omega; first | done | fail)); (focus first | exact BndR.none | (apply BndR.some; rfl; omega; first | done | fail)); omega)
      | (apply ok_slice_slice; rfl; rfl; rfl; (focus first | exact BndR.none | (apply BndR.some; rfl; omega; first | done | fail)); (focus first | exact BndR.none | (apply BndR.some; rfl; omega; first | done | fail)); omega)
      | (apply ok_slice_nil; rfl; (focus first | exact BndR.none | (apply BndR.some; rfl; omega; first | done | fail)); (focus first | exact BndR.none | (apply BndR.some; rfl; omega; first | done | fail)))
      | (apply ok_slice_array; rfl; rfl; rfl; rfl; rfl; (first | exact Nat.le_of_ble_eq_true rfl | omega | (simp; first | done | fail) | (simp; omega)); (focus first | exact BndR.none | (apply BndR.some; rfl; omega; first | done | fail)); (focus first | exact BndR.none | (apply BndR.some; rfl; omega; first | done | fail)); omega; rfl)
      | (apply ok_add; rfl; rfl)
      | (apply ok_sub; rfl; rfl)
      | (apply ok_mul; rfl; rfl)
      | (apply ok_conv; rfl)
      | (apply ok_conv_str; rfl; rfl)
      | (apply ok_pick; rfl; rfl; rfl)) : RunD P ops M kb base K i (⟨d, op, t, pp, af, none⟩ :: l) σ m cr := .pure (Sub.refl σ) rfl ht h k
theorem sdl {op : Op} {v : Value} (k : RunD P ops M kb base K (i + 1) l (put σ d v) m cr) (ht : touch op = true := by rfl) (hi : Nat.blt i kb = true := by rfl)
    (h : OpOK P ⟨d, op, t, pp, af, none⟩ (ev σ) (vis base cr (fun j => (M.getD i 0).testBit j) m) v (vis base cr (fun j => (M.getD i 0).testBit j) m) := by first
      | (apply ok_load; rfl; rfl; rfl; (focus ((repeat constructor); first | done | fail)); rfl)
      | (apply ok_load_ints; rfl; rfl; rfl; ((try simp only [Nat.zero_add, Nat.mul_one]); rfl); (first | omega | (simp only [List.length_cons, List.length_nil, List.length_map, List.length_set, List.length_append]; omega) | (simp; omega)); rfl)
      | (apply ok_load_u8; rfl; rfl; rfl; ((try simp only [Nat.zero_add, Nat.mul_one]); rfl); (first | omega | (simp only [List.length_cons, List.length_nil, List.length_map, List.length_set, List.length_append]; omega) | (simp; omega)); rfl)
      | (apply ok_loadN; rfl; rfl; rfl; (focus ((repeat constructor); first | done | fail)); rfl)
      | (apply ok_bytes_str; rfl; rfl; (first | exact Nat.le_of_ble_eq_true rfl | omega | (simp; first | done | fail) | (simp; omega)); (first | exact TakeR.eq (by ((repeat constructor); first | done | fail)) | (apply take_full; first | rfl | (simp; first | done | fail) | (simp; omega)) | rfl); rfl)
      | (apply ok_nil_str; rfl)
      | (apply ok_append_none; rfl; rfl; (focus first | (apply Src.slc; rfl; exact Ty.eq; rfl; (first | exact Nat.le_of_ble_eq_true rfl | omega | (simp; first | done | fail) | (simp; omega)); (first | exact TakeR.eq (by ((repeat constructor); first | done | fail)) | (apply take_full; first | rfl | (simp; first | done | fail) | (simp; omega)) | rfl); (first | rfl | (simp; first | done | fail)); rfl; first | done | fail) | (apply Src.str; rfl; exact Ty.eq; rfl; rfl; first | done | fail) | (apply Src.nil; rfl; exact Ty.eq; first | done | fail)))
      | (apply ok_conv_in; rfl; simp [IntKind.min, IntKind.signed, IntKind.bits] <;> omega; simp [IntKind.max, IntKind.signed, IntKind.bits] <;> omega)
      | (apply ok_slice_str; rfl; (focus first | exact BndR.none | (apply BndR.some; rfl; omega; first | done | fail)); (focus first | exact BndR.none | (apply BndR.some; rfl; omega; first | done | fail)); omega)
      | (apply ok_slice_slice; rfl; rfl; rfl; (focus first | exact BndR.none | (apply BndR.some; rfl; omega; first | done | fail)); (focus first | exact BndR.none | (apply BndR.some; rfl; omega; first | done | fail)); omega)
      | (apply ok_slice_nil; rfl; (focus first | exact BndR.none | (apply BndR.some; rfl; omega; first | done | fail)); (focus first | exact BndR.none | (apply BndR.some; rfl; omega; first | done | fail)))
      | (apply ok_slice_array; rfl; rfl; rfl; rfl; rfl; (first | exact Nat.le_of_ble_eq_true rfl | omega | (simp; first | done | fail) | (simp; omega)); (focus first | exact BndR.none | (apply BndR.some; rfl; omega; first | done | fail)); (focus first | exact BndR.none | (apply BndR.some; rfl; omega; first | done | fail)); omega; rfl)
      | (apply ok_conv; rfl)
      | (apply ok_conv_str; rfl; rfl)) : RunD P ops M kb base K i (⟨d, op, t, pp, af, none⟩ :: l) σ m cr :=
  .mem (m' := m) (V' := vis base cr (fun j => (M.getD i 0).testBit j) m) (Sub.refl σ) rfl (Nat.blt_eq.mp hi) ht h (extR_same _ _ (vis_len _ _ _ _)) (by simpa using k)
theorem sdm {op : Op} {v : Value} {V' : Mem} {n : Nat} (k : RunD P ops M kb base K (i + 1) l (put σ d v) m' (cr ++ List.replicate n i)) (ht : touch op = true := by rfl) (hi : Nat.blt i kb = true := by rfl)
    (h : OpOK P ⟨d, op, t, pp, af, none⟩ (ev σ) (vis base cr (fun j => (M.getD i 0).testBit j) m) v V' := by first
      | (apply ok_box; rfl; (focus first | ((repeat constructor); first | done | fail) | exact ListR.refl _); (focus ((repeat constructor); first | done | fail)))
      | (apply ok_alloc; rfl; (focus ((repeat constructor); first | done | fail)))
      | (apply ok_buildSlice; rfl; rfl; rfl; rfl; rfl; (focus ((repeat (first | apply BuildR.nil | (apply BuildR.cons; rfl; rfl; (focus first | ((repeat constructor); first | done | fail) | exact ListR.refl _); rfl; (focus ((repeat constructor); first | done | fail))))); first | done | fail)); (focus ((repeat constructor); first | done | fail)); rfl)
      | (apply ok_makeSlice; rfl; rfl; rfl; omega; (focus ((repeat constructor); first | done | fail)))
      | (apply ok_append_nil; rfl; rfl; rfl; (focus first | (apply Src.slc; rfl; exact Ty.eq; rfl; (first | exact Nat.le_of_ble_eq_true rfl | omega | (simp; first | done | fail) | (simp; omega)); (first | exact TakeR.eq (by ((repeat constructor); first | done | fail)) | (apply take_full; first | rfl | (simp; first | done | fail) | (simp; omega)) | rfl); (first | rfl | (simp; first | done | fail)); rfl; first | done | fail) | (apply Src.str; rfl; exact Ty.eq; rfl; rfl; first | done | fail) | (apply Src.nil; rfl; exact Ty.eq; first | done | fail)); omega; omega; (focus ((repeat constructor); first | done | fail)); rfl))
    (hx : ExtR (vis base cr (fun j => (M.getD i 0).testBit j) m) V' m m' := by repeat constructor) (hn : m'.length - m.length = n := by rfl) : RunD P ops M kb base K i (⟨d, op, t, pp, af, none⟩ :: l) σ m cr :=
  .mem (Sub.refl σ) rfl (Nat.blt_eq.mp hi) ht h hx (by rw [hn]; exact k)
theorem sdb {op : Op} {v : Value} {n : Nat} (k : RunD P ops M kb base K (i + 1) l (put σ d v) m' (cr ++ List.replicate n i)) (ht : touch op = true := by rfl) (hi : Nat.ble kb i = true := by rfl)
    (h : OpOK P ⟨d, op, t, pp, af, none⟩ (ev σ) m v m' := by first
      | (apply ok_storeN; rfl; rfl; (focus first | ((repeat constructor); first | done | fail) | exact ListR.refl _); rfl; rfl; rfl; rfl; (focus first | ((repeat constructor); first | done | fail) | (apply splice_ints; ((try simp only [Nat.zero_add, Nat.mul_one]); rfl); (first | omega | (simp only [List.length_cons, List.length_nil, List.length_map, List.length_set, List.length_append]; omega) | (simp; omega)); first | done | fail)); (focus ((repeat constructor); first | done | fail)); rfl)
      | (apply ok_append; rfl; rfl; rfl; rfl; rfl; rfl; (focus first | (apply Src.slc; rfl; exact Ty.eq; rfl; (first | exact Nat.le_of_ble_eq_true rfl | omega | (simp; first | done | fail) | (simp; omega)); (first | exact TakeR.eq (by ((repeat constructor); first | done | fail)) | (apply take_full; first | rfl | (simp; first | done | fail) | (simp; omega)) | rfl); (first | rfl | (simp; first | done | fail)); rfl; first | done | fail) | (apply Src.str; rfl; exact Ty.eq; rfl; rfl; first | done | fail) | (apply Src.nil; rfl; exact Ty.eq; first | done | fail)); (first | exact Nat.le_of_ble_eq_true rfl | omega | (simp; first | done | fail) | (simp; omega)); (first | exact TakeR.eq (by ((repeat constructor); first | done | fail)) | (apply take_full; first | rfl | (simp; first | done | fail) | (simp; omega)) | rfl); rfl; omega; (focus ((repeat constructor); first | done | fail)); rfl)
      | (apply ok_copy; rfl; rfl; rfl; (focus first | (apply Src.slc; rfl; exact Ty.eq; rfl; (first | exact Nat.le_of_ble_eq_true rfl | omega | (simp; first | done | fail) | (simp; omega)); (first | exact TakeR.eq (by ((repeat constructor); first | done | fail)) | (apply take_full; first | rfl | (simp; first | done | fail) | (simp; omega)) | rfl); (first | rfl | (simp; first | done | fail)); rfl; first | done | fail) | (apply Src.str; rfl; exact Ty.eq; rfl; rfl; first | done | fail) | (apply Src.nil; rfl; exact Ty.eq; first | done | fail)); omega; (first | exact Nat.le_of_ble_eq_true rfl | omega | (simp; first | done | fail) | (simp; omega)); rfl; (focus ((repeat constructor); first | done | fail)); rfl)
      | (apply ok_box; rfl; (focus first | ((repeat constructor); first | done | fail) | exact ListR.refl _); (focus ((repeat constructor); first | done | fail)))
      | (apply ok_alloc; rfl; (focus ((repeat constructor); first | done | fail)))
      | (apply ok_buildSlice; rfl; rfl; rfl; rfl; rfl; (focus ((repeat (first | apply BuildR.nil | (apply BuildR.cons; rfl; rfl; (focus first | ((repeat constructor); first | done | fail) | exact ListR.refl _); rfl; (focus ((repeat constructor); first | done | fail))))); first | done | fail)); (focus ((repeat constructor); first | done | fail)); rfl)
      | (apply ok_makeSlice; rfl; rfl; rfl; omega; (focus ((repeat constructor); first | done | fail)))
      | (apply ok_append_nil; rfl; rfl; rfl; (focus first | (apply Src.slc; rfl; exact Ty.eq; rfl; (first | exact Nat.le_of_ble_eq_true rfl | omega | (simp; first | done | fail) | (simp; omega)); (first | exact TakeR.eq (by ((repeat constructor); first | done | fail)) | (apply take_full; first | rfl | (simp; first | done | fail) | (simp; omega)) | rfl); (first | rfl | (simp; first | done | fail)); rfl; first | done | fail) | (apply Src.str; rfl; exact Ty.eq; rfl; rfl; first | done | fail) | (apply Src.nil; rfl; exact Ty.eq; first | done | fail)); omega; omega; (focus ((repeat constructor); first | done | fail)); rfl)
      | (apply ok_load; rfl; rfl; rfl; (focus ((repeat constructor); first | done | fail)); rfl)
      | (apply ok_load_ints; rfl; rfl; rfl; ((try simp only [Nat.zero_add, Nat.mul_one]); rfl); (first | omega | (simp only [List.length_cons, List.length_nil, List.length_map, List.length_set, List.length_append]; omega) | (simp; omega)); rfl)
      | (apply ok_load_u8; rfl; rfl; rfl; ((try simp only [Nat.zero_add, Nat.mul_one]); rfl); (first | omega | (simp only [List.length_cons, List.length_nil, List.length_map, List.length_set, List.length_append]; omega) | (simp; omega)); rfl)
      | (apply ok_loadN; rfl; rfl; rfl; (focus ((repeat constructor); first | done | fail)); rfl)
      | (apply ok_bytes_str; rfl; rfl; (first | exact Nat.le_of_ble_eq_true rfl | omega | (simp; first | done | fail) | (simp; omega)); (first | exact TakeR.eq (by ((repeat constructor); first | done | fail)) | (apply take_full; first | rfl | (simp; first | done | fail) | (simp; omega)) | rfl); rfl)
      | (apply ok_nil_str; rfl)
      | (apply ok_append_none; rfl; rfl; (focus first | (apply Src.slc; rfl; exact Ty.eq; rfl; (first | exact Nat.le_of_ble_eq_true rfl | omega | (simp; first | done | fail) | (simp; omega)); (first | exact TakeR.eq (by ((repeat constructor); first | done | fail)) | (apply take_full; first | rfl | (simp; first | done | fail) | (simp; omega)) | rfl); (first | rfl | (simp; first | done | fail)); rfl; first | done | fail) | (apply Src.str; rfl; exact Ty.eq; rfl; rfl; first | done | fail) | (apply Src.nil; rfl; exact Ty.eq; first | done | fail))))
    (hl : m.length ≤ m'.length := by exact Nat.le_of_ble_eq_true rfl) (hn : m'.length - m.length = n := by rfl) : RunD P ops M kb base K i (⟨d, op, t, pp, af, none⟩ :: l) σ m cr :=
  .bar (Sub.refl σ) rfl (Nat.le_of_ble_eq_true hi) ht h hl (by rw [hn]; exact k)
theorem sd_call {fx : Operand} {xs : Array Operand} {at_ : Array TypeId} {f : FuncId} [FnI P f] {a1 a2 : Array Value} {vs args : List Value} {r : Value} (hc : ACalls P f args [] r []) (k : RunD P ops M kb base K (i + 1) l (put σ d r) m cr)
    (hf : ev σ fx = some (.func (.func f) a1 a2) := by rfl) (hxs : ArgsR (ev σ) xs.toList vs := by ((repeat (apply ArgsR.cons; rfl)); exact ArgsR.nil))
    (hargs : a1.toList ++ vs ++ a2.toList = args := by rfl) (hp : args.all (plain 6) = true := by rfl) (hr : plain 6 r = true := by rfl) : RunD P ops M kb base K i (⟨d, .call ⟨.value fx, xs, at_⟩, t, pp, af, none⟩ :: l) σ m cr := by
  rcases Nat.lt_or_ge i kb with hi | hi
  · exact .mem (m' := m) (V' := vis base cr (fun j => (M.getD i 0).testBit j) m) (Sub.refl σ) rfl hi rfl (ok_call hf hxs hargs hp hr hc) (extR_same _ _ (vis_len _ _ _ _)) (by simpa using k)
  · exact .bar (m' := m) (Sub.refl σ) rfl hi rfl (ok_call hf hxs hargs hp hr hc) (Nat.le_refl _) (by simpa using k)
end
/-! ### a function's end -/
section
variable {P : Program} {l rs : List ResultVar} {σ : Slots} {m : Mem} {vs : List Value} {v r : Value} {tt : Tmp}
theorem res_nil : ResOK P [] σ m [] := rfl
theorem res_tmp (h : look σ tt = some v) (k : ResOK P l σ m vs) : ResOK P (.tmp tt :: l) σ m (v :: vs) := ⟨v, vs, h, rfl, k⟩
theorem res_cell {ty : TypeId} {D} {id o : Nat} {B : Blk} [Ty P ty D] (h : look σ tt = some (.pointer (some ⟨id, o, none⟩))) (hB : live m id = some B) (hD : aggD D = false) (hv : TakeR B.cells o 1 [v]) (hmz : Nat.beq B.z mapZ = false) (k : ResOK P l σ m vs) : ResOK P (.cell tt ty :: l) σ m (v :: vs) :=
  ⟨id, o, B, v, vs, h, hB, hmz, .inl ⟨D, Ty.eq, by cases D <;> simp_all [aggD], by simpa using (hv.spec).2 0 (by omega)⟩, rfl, k⟩
theorem res_cellN {ty : TypeId} {D} {id o n b : Nat} {z xs : List Value} {B : Blk} [Ty P ty D] [TyI P ty n b z] (h : look σ tt = some (.pointer (some ⟨id, o, none⟩))) (hB : live m id = some B) (hD : aggD D = true) (hv : TakeR B.cells o n xs) (hmz : Nat.beq B.z mapZ = false) (k : ResOK P l σ m vs) : ResOK P (.cell tt ty :: l) σ m (.agg xs.toArray :: vs) := by
  obtain ⟨i, _, h1, h2, _⟩ := TyI.ex (P := P) (t := ty)
  exact ⟨id, o, B, _, vs, h, hB, hmz, .inr ⟨D, n, Ty.eq, by cases D <;> simp_all [aggD], by rw [h1]; simp [h2], hv.le, by rw [hv.eq]⟩, rfl, k⟩
theorem pp_ret (hr : retOf vs = r) (h : ResOK P rs σ m vs := by ((repeat (first | exact res_nil | (apply res_tmp; rfl) | (apply res_cell; rfl; rfl; rfl; (focus ((repeat constructor); first | done | fail)); rfl) | (apply res_cellN; rfl; rfl; rfl; (focus ((repeat constructor); first | done | fail)); rfl))); first | done | fail)) : PostP P rs r .ret σ m := ⟨trivial, vs, h, hr⟩
theorem pp_normal (hr : retOf vs = r) (h : ResOK P rs σ m vs := by ((repeat (first | exact res_nil | (apply res_tmp; rfl) | (apply res_cell; rfl; rfl; rfl; (focus ((repeat constructor); first | done | fail)); rfl) | (apply res_cellN; rfl; rfl; rfl; (focus ((repeat constructor); first | done | fail)); rfl))); first | done | fail)) : PostP P rs r .normal σ m := ⟨trivial, vs, h, hr⟩
theorem pm_ret {n0 : Nat} {m' : Mem} (g : Nat → Nat) (hg : Renum n0 g m m') (hr : retOf vs = ren g r) (h : ResOK P rs σ m vs := by ((repeat (first | exact res_nil | (apply res_tmp; rfl) | (apply res_cell; rfl; rfl; rfl; (focus ((repeat constructor); first | done | fail)); rfl) | (apply res_cellN; rfl; rfl; rfl; (focus ((repeat constructor); first | done | fail)); rfl))); first | done | fail)) : Post P rs n0 r m' .ret σ m := ⟨trivial, vs, g, h, hg, hr ▸ .refl _⟩
theorem pm_normal {n0 : Nat} {m' : Mem} (g : Nat → Nat) (hg : Renum n0 g m m') (hr : retOf vs = ren g r) (h : ResOK P rs σ m vs := by ((repeat (first | exact res_nil | (apply res_tmp; rfl) | (apply res_cell; rfl; rfl; rfl; (focus ((repeat constructor); first | done | fail)); rfl) | (apply res_cellN; rfl; rfl; rfl; (focus ((repeat constructor); first | done | fail)); rfl))); first | done | fail)) : Post P rs n0 r m' .normal σ m := ⟨trivial, vs, g, h, hg, hr ▸ .refl _⟩
end
end Go.Proofs.YtdenooeaiicheaaGreat.Av
