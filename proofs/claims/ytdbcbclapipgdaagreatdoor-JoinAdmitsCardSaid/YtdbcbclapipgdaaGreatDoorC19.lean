/- Join: members (plain); Join: strings compared. -/
import Derived.Test.YtdbcbclapipgdaaGreatDoorVO
import Derived.Test.YtdbcbclapipgdaaGreatDoorJ
import Derived.Test.YtdbcbclapipgdaaGreatDoorC15
set_option linter.unusedVariables false
set_option linter.unusedSimpArgs false
namespace Go.Proofs.YtdbcbclapipgdaaGreatDoor
open Go Av
set_option maxRecDepth 20000
/-- The order of strings. -/
def ltS (s u : ByteArray) : Bool := Op.bytesLess s.toList u.toList
theorem bl_irr : ∀ x : List UInt8, Op.bytesLess x x = false
  | [] => rfl
  | a :: x => by
    have ih := bl_irr x
    simp only [Op.bytesLess]
    simp [ih]
theorem bl_trans : ∀ x y z : List UInt8, Op.bytesLess x y = true → Op.bytesLess y z = true → Op.bytesLess x z = true
  | [], [], _, h, _ => by simp [Op.bytesLess] at h
  | [], _ :: _, [], _, h => by simp [Op.bytesLess] at h
  | [], _ :: _, _ :: _, _, _ => by simp [Op.bytesLess]
  | _ :: _, [], _, h, _ => by simp [Op.bytesLess] at h
  | _ :: _, _ :: _, [], _, h => by simp [Op.bytesLess] at h
  | a :: x, b :: y, c :: z, h1, h2 => by
    have ih := bl_trans x y z
    simp only [Op.bytesLess] at h1 h2 ⊢
    simp only [Bool.or_eq_true, Bool.and_eq_true, decide_eq_true_eq, beq_iff_eq] at *
    rcases h1 with h1 | ⟨h1, h1'⟩ <;> rcases h2 with h2 | ⟨h2, h2'⟩
    · exact .inl (UInt8.lt_trans h1 h2)
    · subst h2; exact .inl h1
    · subst h1; exact .inl h2
    · subst h1 h2; exact .inr ⟨rfl, ih h1' h2'⟩
theorem lt_irr (s : ByteArray) : ltS s s = false := bl_irr _
theorem lt_trans' {s u v : ByteArray} (h : ltS s u = true) (k : ltS u v = true) : ltS s v = true := bl_trans _ _ _ h k
/-- Members. -/
structure Mb where
  nm : ByteArray
  sec : ByteArray
  nd : Int
  no : Int
def mbC (m : Mb) : List Value := [.string m.nm, .string m.sec, .int .i64 m.nd, .int .i64 m.no]
instance : RenF mbC := ⟨fun _ _ => rfl⟩
theorem mbC_len (m : Mb) : (mbC m).length = 4 := rfl
/-- One member by itself is right. -/
def mb1 (m : Mb) : Bool := (nmB m.nm && scB m.sec) && decide ((0 ≤ m.no ∧ m.no ≤ 2147483647) ∧ (m.nd = -1 ∨ ((1 ≤ m.nd ∧ m.nd ≤ 31) ∧ 1 ≤ m.no)))
def ndA (L : List Mb) (k : Nat) : Int := match L[k]? with | some m => m.nd | none => -2
def nmAt (L : List Mb) (k : Nat) : ByteArray := match L[k]? with | some m => m.nm | none => ⟨#[]⟩
/-- A number is taken by one of the first members. -/
def tkB (L : List Mb) (i : Nat) (x : Int) : Bool := (List.range i).any fun k => decide (ndA L k = x)
def gdB (L : List Mb) (i : Nat) (m : Mb) : Bool := mb1 m && ((decide (i = 0) || ltS (nmAt L (i - 1)) m.nm) && (decide (m.nd = -1) || !tkB L i m.nd))
/-- The first members are right. -/
def gdN (L : List Mb) : Nat → Bool
  | 0 => true
  | i + 1 => gdN L i && (match L[i]? with | some m => gdB L i m | none => true)
/-- A list of members is right. -/
def mmB (L : List Mb) : Bool := gdN L L.length
theorem tkB_succ (L : List Mb) (i : Nat) (x : Int) : tkB L (i + 1) x = (tkB L i x || decide (ndA L i = x)) := by
  simp [tkB, List.range_succ]
theorem tkB_true {L : List Mb} {i : Nat} {x : Int} : tkB L i x = true ↔ ∃ k, k < i ∧ ndA L k = x := by
  simp [tkB]
theorem ndA_at {L : List Mb} {k : Nat} {m : Mb} (h : L[k]? = some m) : ndA L k = m.nd := by simp [ndA, h]
theorem nmAt_at {L : List Mb} {k : Nat} {m : Mb} (h : L[k]? = some m) : nmAt L k = m.nm := by simp [nmAt, h]
theorem gdN_succ {L : List Mb} {i : Nat} {m : Mb} (h : L[i]? = some m) : gdN L (i + 1) = (gdN L i && gdB L i m) := by
  show (gdN L i && _) = _
  rw [h]
theorem gdN_le {L : List Mb} : ∀ {n i : Nat}, i ≤ n → gdN L n = true → gdN L i = true
  | 0, i, hi, h => by
    obtain rfl : i = 0 := by omega
    exact h
  | n + 1, i, hi, h => by
    have h1 : gdN L n = true := (and_t h).1
    rcases Nat.lt_or_ge i (n + 1) with h2 | h2
    · exact gdN_le (by omega) h1
    · obtain rfl : i = n + 1 := by omega
      exact h
theorem gdN_bad {L : List Mb} {i : Nat} {m : Mb} (h : L[i]? = some m) (hb : gdB L i m = false) : mmB L = false := by
  cases hm : mmB L with
  | false => rfl
  | true =>
    have hlt : i < L.length := (List.getElem?_eq_some_iff.1 h).1
    have := gdN_le (i := i + 1) (by omega) hm
    rw [gdN_succ h, hb, Bool.and_false] at this
    cases this
theorem gdN_at {L : List Mb} {n i : Nat} {m : Mb} (h : gdN L n = true) (hi : i < n) (hm : L[i]? = some m) : gdB L i m = true := by
  have := gdN_le (i := i + 1) (by omega) h
  rw [gdN_succ hm] at this
  exact (and_t this).2
theorem mb1_t {m : Mb} (h : mb1 m = true) : nmB m.nm = true ∧ scB m.sec = true ∧ (0 ≤ m.no ∧ m.no ≤ 2147483647) ∧ (m.nd = -1 ∨ ((1 ≤ m.nd ∧ m.nd ≤ 31) ∧ 1 ≤ m.no)) :=
  ⟨(and_t (and_t h).1).1, (and_t (and_t h).1).2, (of_decide_eq_true (and_t h).2).1, (of_decide_eq_true (and_t h).2).2⟩
/-- Names grow. -/
theorem gd_lt {L : List Mb} {n : Nat} (h : gdN L n = true) : ∀ {i j : Nat}, i < j → j < n → n ≤ L.length → ltS (nmAt L i) (nmAt L j) = true := by
  intro i j
  induction j with
  | zero => intro h1; omega
  | succ j ih =>
    intro h1 h2 h3
    obtain ⟨m, hm⟩ : ∃ m, L[j + 1]? = some m := ⟨_, List.getElem?_eq_getElem (by omega)⟩
    have hg := gdN_at h h2 hm
    have hq := (and_t (and_t hg).2).1
    rw [decide_eq_false (by omega), Bool.false_or, Nat.add_sub_cancel] at hq
    rw [nmAt_at hm]
    rcases Nat.lt_or_ge i j with h4 | h4
    · exact lt_trans' (ih h4 (by omega) h3) hq
    · obtain rfl : i = j := by omega
      exact hq
/-- The member of a name. -/
theorem gd_inj {L : List Mb} {n : Nat} (h : gdN L n = true) (hn : n ≤ L.length) {i j : Nat} (hi : i < n) (hj : j < n) (e : nmAt L i = nmAt L j) : i = j := by
  rcases Nat.lt_trichotomy i j with h1 | h1 | h1
  · have := gd_lt h h1 hj hn
    rw [e, lt_irr] at this
    cases this
  · exact h1
  · have := gd_lt h h1 hi hn
    rw [e, lt_irr] at this
    cases this
theorem ok_str_lss {P : Program} {ρ : Operand → Option Value} {m : Mem} {d : Option Tmp} {t : TypeId} {pp : String} {af : Array Edge} {g : Option (Nat × Bool)} {xt yt : TypeId} {x y : Operand} {s u : ByteArray} {c : Bool} (hx : ρ x = some (.string s)) (hy : ρ y = some (.string u)) (h : ltS s u = c) : OpOK P ⟨d, .binOp .lss xt x y yt, t, pp, af, g⟩ ρ m (.bool c) m := by
  subst h
  exact ok_str rfl hx hy fun w => by simp [binOp, Op.stringOp, ltS]
theorem ok_str_geq {P : Program} {ρ : Operand → Option Value} {m : Mem} {d : Option Tmp} {t : TypeId} {pp : String} {af : Array Edge} {g : Option (Nat × Bool)} {xt yt : TypeId} {x y : Operand} {s u : ByteArray} {c : Bool} (hx : ρ x = some (.string s)) (hy : ρ y = some (.string u)) (h : ltS s u = c) : OpOK P ⟨d, .binOp .geq xt x y yt, t, pp, af, g⟩ ρ m (.bool (!c)) m := by
  subst h
  exact ok_str rfl hx hy fun w => by simp [binOp, Op.stringOp, ltS]
theorem ok_str_gtr {P : Program} {ρ : Operand → Option Value} {m : Mem} {d : Option Tmp} {t : TypeId} {pp : String} {af : Array Edge} {g : Option (Nat × Bool)} {xt yt : TypeId} {x y : Operand} {s u : ByteArray} {c : Bool} (hx : ρ x = some (.string s)) (hy : ρ y = some (.string u)) (h : (ltS s u || decide (s = u)) = c) : OpOK P ⟨d, .binOp .gtr xt x y yt, t, pp, af, g⟩ ρ m (.bool (!c)) m := by
  subst h
  exact ok_str rfl hx hy fun w => by simp [binOp, Op.stringOp, ltS, bytes_eq]
/-- Strings compared. -/
def cmS (s u : ByteArray) : Int := if ltS s u = true then -1 else if s = u then 0 else 1
theorem ac_isNaN (s : ByteArray) : ACalls Tryz.prog 109 [.string s] [] (.bool false) [] := by
  refine acalls_pure Tryz.func109 rfl rfl rfl ?_
  repeat' first | intro h1 | intro h1 | refine st (h := ok_str_neqF rfl rfl) ?_ | refine sd (h := ok_str_neqF rfl rfl) ?_ | refine st ?_ | refine stm ?_ | refine Ja ?_ | refine Jb ?_ | refine Jc ?_ | refine Jd ?_ | refine Je ?_ | refine Jf ?_ | refine Jg ?_ | refine Jh ?_ ?_ | refine Ji ?_ ?_ | refine Jj ?_ ?_ | refine run_nil ?_ | refine Jz ?_ | refine Jw ?_ | refine aw_block ?_ | refine Jq ?_ | refine Jr ?_ | refine Js ?_ | refine Jt ?_ | refine Ju ?_ ?_ | refine Jv ?_ ?_ | refine Jy ?_ | refine aw_exit ?_ | refine aw_ret ?_ | refine pp_ret ?_ | refine pp_normal ?_
  all_goals first
    | rfl
    | (exfalso; omega)
    | (simp [retOf]; done)
    | (exfalso; simp_all; done)
    | (exfalso; simp only [Bool.not_eq_true', Bool.not_eq_false', decide_eq_true_eq, decide_eq_false_iff_not, Bool.not_false, Bool.not_true] at *; omega)
set_option maxHeartbeats 1000000 in
theorem ac_cmS (s u : ByteArray) : ACalls Tryz.prog 66 [.string s, .string u] [] (.int .i64 (cmS s u)) [] := by
  have H1 := ac_isNaN s
  have H2 := ac_isNaN u
  unfold cmS
  cases h : ltS s u
  · by_cases e : s = u
    · have h2 : (ltS s u || decide (s = u)) = true := by rw [decide_eq_true e, Bool.or_true]
      rw [if_neg (by decide), if_pos e]
      refine acalls_pure Tryz.func66 rfl rfl rfl ?_
      repeat' first | intro h1 | intro h1 | refine st (h := ok_str_lss rfl rfl h) ?_ | refine sd (h := ok_str_lss rfl rfl h) ?_ | refine st (h := ok_str_gtr rfl rfl h2) ?_ | refine sd (h := ok_str_gtr rfl rfl h2) ?_ | refine st ?_ | refine st_call (H1) ?_ | refine st_call (H2) ?_ | refine sd_call (H1) ?_ | refine sd_call (H2) ?_ | refine stm ?_ | refine Ja ?_ | refine Jb ?_ | refine Jc ?_ | refine Jd ?_ | refine Je ?_ | refine Jf ?_ | refine Jg ?_ | refine Jh ?_ ?_ | refine Ji ?_ ?_ | refine Jj ?_ ?_ | refine run_nil ?_ | refine Jz ?_ | refine Jw ?_ | refine aw_block ?_ | refine Jq ?_ | refine Jr ?_ | refine Js ?_ | refine Jt ?_ | refine Ju ?_ ?_ | refine Jv ?_ ?_ | refine Jy ?_ | refine aw_exit ?_ | refine aw_ret ?_ | refine pp_ret ?_ | refine pp_normal ?_
      all_goals first
        | rfl
        | (exfalso; omega)
        | (simp [retOf]; done)
        | (exfalso; simp_all; done)
        | (exfalso; simp only [Bool.not_eq_true', Bool.not_eq_false', decide_eq_true_eq, decide_eq_false_iff_not, Bool.not_false, Bool.not_true] at *; omega)
    · have h2 : (ltS s u || decide (s = u)) = false := by rw [h, decide_eq_false e]; rfl
      rw [if_neg (by decide), if_neg e]
      refine acalls_pure Tryz.func66 rfl rfl rfl ?_
      repeat' first | intro h1 | intro h1 | refine st (h := ok_str_lss rfl rfl h) ?_ | refine sd (h := ok_str_lss rfl rfl h) ?_ | refine st (h := ok_str_gtr rfl rfl h2) ?_ | refine sd (h := ok_str_gtr rfl rfl h2) ?_ | refine st ?_ | refine st_call (H1) ?_ | refine st_call (H2) ?_ | refine sd_call (H1) ?_ | refine sd_call (H2) ?_ | refine stm ?_ | refine Ja ?_ | refine Jb ?_ | refine Jc ?_ | refine Jd ?_ | refine Je ?_ | refine Jf ?_ | refine Jg ?_ | refine Jh ?_ ?_ | refine Ji ?_ ?_ | refine Jj ?_ ?_ | refine run_nil ?_ | refine Jz ?_ | refine Jw ?_ | refine aw_block ?_ | refine Jq ?_ | refine Jr ?_ | refine Js ?_ | refine Jt ?_ | refine Ju ?_ ?_ | refine Jv ?_ ?_ | refine Jy ?_ | refine aw_exit ?_ | refine aw_ret ?_ | refine pp_ret ?_ | refine pp_normal ?_
      all_goals first
        | rfl
        | (exfalso; omega)
        | (simp [retOf]; done)
        | (exfalso; simp_all; done)
        | (exfalso; simp only [Bool.not_eq_true', Bool.not_eq_false', decide_eq_true_eq, decide_eq_false_iff_not, Bool.not_false, Bool.not_true] at *; omega)
  · rw [if_pos rfl]
    refine acalls_pure Tryz.func66 rfl rfl rfl ?_
    repeat' first | intro h1 | intro h1 | refine st (h := ok_str_lss rfl rfl h) ?_ | refine sd (h := ok_str_lss rfl rfl h) ?_ | refine st ?_ | refine st_call (H1) ?_ | refine st_call (H2) ?_ | refine sd_call (H1) ?_ | refine sd_call (H2) ?_ | refine stm ?_ | refine Ja ?_ | refine Jb ?_ | refine Jc ?_ | refine Jd ?_ | refine Je ?_ | refine Jf ?_ | refine Jg ?_ | refine Jh ?_ ?_ | refine Ji ?_ ?_ | refine Jj ?_ ?_ | refine run_nil ?_ | refine Jz ?_ | refine Jw ?_ | refine aw_block ?_ | refine Jq ?_ | refine Jr ?_ | refine Js ?_ | refine Jt ?_ | refine Ju ?_ ?_ | refine Jv ?_ ?_ | refine Jy ?_ | refine aw_exit ?_ | refine aw_ret ?_ | refine pp_ret ?_ | refine pp_normal ?_
    all_goals first
      | rfl
      | (exfalso; omega)
      | (simp [retOf]; done)
      | (exfalso; simp_all; done)
      | (exfalso; simp only [Bool.not_eq_true', Bool.not_eq_false', decide_eq_true_eq, decide_eq_false_iff_not, Bool.not_false, Bool.not_true] at *; omega)
end Go.Proofs.YtdbcbclapipgdaaGreatDoor
