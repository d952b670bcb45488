/- Join: members (plain); Join: strings compared; Join: a member that is right. -/
import Derived.Test.YtdbcbclapipgdaaGreatDoorVO
import Derived.Test.YtdbcbclapipgdaaGreatDoorJ
import Derived.Test.YtdbcbclapipgdaaGreatDoorC10
set_option linter.unusedVariables false
set_option linter.unusedSimpArgs false
namespace Go.Proofs.YtdbcbclapipgdaaGreatDoor
open Go Av
set_option maxRecDepth 20000
/-- The order of strings. -/
def ltS (s u : ByteArray) : Bool := Op.bytesLess s.toList u.toList
theorem bl_irr : ∀ x : List UInt8, Op.bytesLess x x = false
  | [] => rfl
  | a :: x => by
    have ih := bl_irr x
    simp only [Op.bytesLess]
    simp [ih]
theorem bl_trans : ∀ x y z : List UInt8, Op.bytesLess x y = true → Op.bytesLess y z = true → Op.bytesLess x z = true
  | [], [], _, h, _ => by simp [Op.bytesLess] at h
  | [], _ :: _, [], _, h => by simp [Op.bytesLess] at h
  | [], _ :: _, _ :: _, _, _ => by simp [Op.bytesLess]
  | _ :: _, [], _, h, _ => by simp [Op.bytesLess] at h
  | _ :: _, _ :: _, [], _, h => by simp [Op.bytesLess] at h
  | a :: x, b :: y, c :: z, h1, h2 => by
    have ih := bl_trans x y z
    simp only [Op.bytesLess] at h1 h2 ⊢
    simp only [Bool.or_eq_true, Bool.and_eq_true, decide_eq_true_eq, beq_iff_eq] at *
    rcases h1 with h1 | ⟨h1, h1'⟩ <;> rcases h2 with h2 | ⟨h2, h2'⟩
    · exact .inl (UInt8.lt_trans h1 h2)
    · subst h2; exact .inl h1
    · subst h1; exact .inl h2
    · subst h1 h2; exact .inr ⟨rfl, ih h1' h2'⟩
theorem lt_irr (s : ByteArray) : ltS s s = false := bl_irr _
theorem lt_trans' {s u v : ByteArray} (h : ltS s u = true) (k : ltS u v = true) : ltS s v = true := bl_trans _ _ _ h k
/-- Members. -/
structure Mb where
  nm : ByteArray
  sec : ByteArray
  nd : Int
  no : Int
def mbC (m : Mb) : List Value := [.string m.nm, .string m.sec, .int .i64 m.nd, .int .i64 m.no]
instance : RenF mbC := ⟨fun _ _ => rfl⟩
theorem mbC_len (m : Mb) : (mbC m).length = 4 := rfl
/-- One member by itself is right. -/
def mb1 (m : Mb) : Bool := (nmB m.nm && scB m.sec) && decide ((0 ≤ m.no ∧ m.no ≤ 2147483647) ∧ (m.nd = -1 ∨ ((1 ≤ m.nd ∧ m.nd ≤ 31) ∧ 1 ≤ m.no)))
def ndA (L : List Mb) (k : Nat) : Int := match L[k]? with | some m => m.nd | none => -2
def nmAt (L : List Mb) (k : Nat) : ByteArray := match L[k]? with | some m => m.nm | none => ⟨#[]⟩
/-- A number is taken by one of the first members. -/
def tkB (L : List Mb) (i : Nat) (x : Int) : Bool := (List.range i).any fun k => decide (ndA L k = x)
def gdB (L : List Mb) (i : Nat) (m : Mb) : Bool := mb1 m && ((decide (i = 0) || ltS (nmAt L (i - 1)) m.nm) && (decide (m.nd = -1) || !tkB L i m.nd))
/-- The first members are right. -/
def gdN (L : List Mb) : Nat → Bool
  | 0 => true
  | i + 1 => gdN L i && (match L[i]? with | some m => gdB L i m | none => true)
/-- A list of members is right. -/
def mmB (L : List Mb) : Bool := gdN L L.length
theorem tkB_succ (L : List Mb) (i : Nat) (x : Int) : tkB L (i + 1) x = (tkB L i x || decide (ndA L i = x)) := by
  simp [tkB, List.range_succ]
theorem tkB_true {L : List Mb} {i : Nat} {x : Int} : tkB L i x = true ↔ ∃ k, k < i ∧ ndA L k = x := by
  simp [tkB]
theorem ndA_at {L : List Mb} {k : Nat} {m : Mb} (h : L[k]? = some m) : ndA L k = m.nd := by simp [ndA, h]
theorem nmAt_at {L : List Mb} {k : Nat} {m : Mb} (h : L[k]? = some m) : nmAt L k = m.nm := by simp [nmAt, h]
theorem gdN_succ {L : List Mb} {i : Nat} {m : Mb} (h : L[i]? = some m) : gdN L (i + 1) = (gdN L i && gdB L i m) := by
  show (gdN L i && _) = _
  rw [h]
theorem gdN_le {L : List Mb} : ∀ {n i : Nat}, i ≤ n → gdN L n = true → gdN L i = true
  | 0, i, hi, h => by
    obtain rfl : i = 0 := by omega
    exact h
  | n + 1, i, hi, h => by
    have h1 : gdN L n = true := (and_t h).1
    rcases Nat.lt_or_ge i (n + 1) with h2 | h2
    · exact gdN_le (by omega) h1
    · obtain rfl : i = n + 1 := by omega
      exact h
theorem gdN_bad {L : List Mb} {i : Nat} {m : Mb} (h : L[i]? = some m) (hb : gdB L i m = false) : mmB L = false := by
  cases hm : mmB L with
  | false => rfl
  | true =>
    have hlt : i < L.length := (List.getElem?_eq_some_iff.1 h).1
    have := gdN_le (i := i + 1) (by omega) hm
    rw [gdN_succ h, hb, Bool.and_false] at this
    cases this
theorem gdN_at {L : List Mb} {n i : Nat} {m : Mb} (h : gdN L n = true) (hi : i < n) (hm : L[i]? = some m) : gdB L i m = true := by
  have := gdN_le (i := i + 1) (by omega) h
  rw [gdN_succ hm] at this
  exact (and_t this).2
theorem mb1_t {m : Mb} (h : mb1 m = true) : nmB m.nm = true ∧ scB m.sec = true ∧ (0 ≤ m.no ∧ m.no ≤ 2147483647) ∧ (m.nd = -1 ∨ ((1 ≤ m.nd ∧ m.nd ≤ 31) ∧ 1 ≤ m.no)) :=
  ⟨(and_t (and_t h).1).1, (and_t (and_t h).1).2, (of_decide_eq_true (and_t h).2).1, (of_decide_eq_true (and_t h).2).2⟩
/-- Names grow. -/
theorem gd_lt {L : List Mb} {n : Nat} (h : gdN L n = true) : ∀ {i j : Nat}, i < j → j < n → n ≤ L.length → ltS (nmAt L i) (nmAt L j) = true := by
  intro i j
  induction j with
  | zero => intro h1; omega
  | succ j ih =>
    intro h1 h2 h3
    obtain ⟨m, hm⟩ : ∃ m, L[j + 1]? = some m := ⟨_, List.getElem?_eq_getElem (by omega)⟩
    have hg := gdN_at h h2 hm
    have hq := (and_t (and_t hg).2).1
    rw [decide_eq_false (by omega), Bool.false_or, Nat.add_sub_cancel] at hq
    rw [nmAt_at hm]
    rcases Nat.lt_or_ge i j with h4 | h4
    · exact lt_trans' (ih h4 (by omega) h3) hq
    · obtain rfl : i = j := by omega
      exact hq
/-- The member of a name. -/
theorem gd_inj {L : List Mb} {n : Nat} (h : gdN L n = true) (hn : n ≤ L.length) {i j : Nat} (hi : i < n) (hj : j < n) (e : nmAt L i = nmAt L j) : i = j := by
  rcases Nat.lt_trichotomy i j with h1 | h1 | h1
  · have := gd_lt h h1 hj hn
    rw [e, lt_irr] at this
    cases this
  · exact h1
  · have := gd_lt h h1 hi hn
    rw [e, lt_irr] at this
    cases this
theorem ok_str_lss {P : Program} {ρ : Operand → Option Value} {m : Mem} {d : Option Tmp} {t : TypeId} {pp : String} {af : Array Edge} {g : Option (Nat × Bool)} {xt yt : TypeId} {x y : Operand} {s u : ByteArray} {c : Bool} (hx : ρ x = some (.string s)) (hy : ρ y = some (.string u)) (h : ltS s u = c) : OpOK P ⟨d, .binOp .lss xt x y yt, t, pp, af, g⟩ ρ m (.bool c) m := by
  subst h
  exact ok_str rfl hx hy fun w => by simp [binOp, Op.stringOp, ltS]
theorem ok_str_geq {P : Program} {ρ : Operand → Option Value} {m : Mem} {d : Option Tmp} {t : TypeId} {pp : String} {af : Array Edge} {g : Option (Nat × Bool)} {xt yt : TypeId} {x y : Operand} {s u : ByteArray} {c : Bool} (hx : ρ x = some (.string s)) (hy : ρ y = some (.string u)) (h : ltS s u = c) : OpOK P ⟨d, .binOp .geq xt x y yt, t, pp, af, g⟩ ρ m (.bool (!c)) m := by
  subst h
  exact ok_str rfl hx hy fun w => by simp [binOp, Op.stringOp, ltS]
theorem ok_str_gtr {P : Program} {ρ : Operand → Option Value} {m : Mem} {d : Option Tmp} {t : TypeId} {pp : String} {af : Array Edge} {g : Option (Nat × Bool)} {xt yt : TypeId} {x y : Operand} {s u : ByteArray} {c : Bool} (hx : ρ x = some (.string s)) (hy : ρ y = some (.string u)) (h : (ltS s u || decide (s = u)) = c) : OpOK P ⟨d, .binOp .gtr xt x y yt, t, pp, af, g⟩ ρ m (.bool (!c)) m := by
  subst h
  exact ok_str rfl hx hy fun w => by simp [binOp, Op.stringOp, ltS, bytes_eq]
/-- Strings compared. -/
def cmS (s u : ByteArray) : Int := if ltS s u = true then -1 else if s = u then 0 else 1
theorem ac_isNaN (s : ByteArray) : ACalls Tryz.prog 109 [.string s] [] (.bool false) [] := by
  refine acalls_pure Tryz.func109 rfl rfl rfl ?_
  repeat' first | refine st (h := ok_str_neqF rfl rfl) ?_ | refine st ?_ | refine run_nil ?_ | refine Jz ?_ | refine Jw ?_ | refine aw_ret ?_ | refine pp_ret ?_
  all_goals first
    | rfl
    | (exfalso; omega)
    | (simp [retOf]; done)
    | (exfalso; simp_all; done)
    | (exfalso; simp only [Bool.not_eq_true', Bool.not_eq_false', decide_eq_true_eq, decide_eq_false_iff_not, Bool.not_false, Bool.not_true] at *; omega)
set_option maxHeartbeats 1000000 in
theorem ac_cmS (s u : ByteArray) : ACalls Tryz.prog 66 [.string s, .string u] [] (.int .i64 (cmS s u)) [] := by
  have H1 := ac_isNaN s
  have H2 := ac_isNaN u
  unfold cmS
  cases h : ltS s u
  · by_cases e : s = u
    · have h2 : (ltS s u || decide (s = u)) = true := by rw [decide_eq_true e, Bool.or_true]
      rw [if_neg (by decide), if_pos e]
      refine acalls_pure Tryz.func66 rfl rfl rfl ?_
      repeat' first | refine st (h := ok_str_lss rfl rfl h) ?_ | refine st (h := ok_str_gtr rfl rfl h2) ?_ | refine st ?_ | refine st_call (H1) ?_ | refine st_call (H2) ?_ | refine run_nil ?_ | refine Jz ?_ | refine Jw ?_ | refine Jr ?_ | refine Jy ?_ | refine aw_ret ?_ | refine pp_ret ?_
      all_goals first
        | rfl
        | (exfalso; omega)
        | (simp [retOf]; done)
        | (exfalso; simp_all; done)
        | (exfalso; simp only [Bool.not_eq_true', Bool.not_eq_false', decide_eq_true_eq, decide_eq_false_iff_not, Bool.not_false, Bool.not_true] at *; omega)
    · have h2 : (ltS s u || decide (s = u)) = false := by rw [h, decide_eq_false e]; rfl
      rw [if_neg (by decide), if_neg e]
      refine acalls_pure Tryz.func66 rfl rfl rfl ?_
      repeat' first | refine st (h := ok_str_lss rfl rfl h) ?_ | refine st (h := ok_str_gtr rfl rfl h2) ?_ | refine st ?_ | refine st_call (H1) ?_ | refine st_call (H2) ?_ | refine run_nil ?_ | refine Jz ?_ | refine Jw ?_ | refine Jq ?_ | refine Jr ?_ | refine Jy ?_ | refine aw_ret ?_ | refine pp_ret ?_
      all_goals first
        | rfl
        | (exfalso; omega)
        | (simp [retOf]; done)
        | (exfalso; simp_all; done)
        | (exfalso; simp only [Bool.not_eq_true', Bool.not_eq_false', decide_eq_true_eq, decide_eq_false_iff_not, Bool.not_false, Bool.not_true] at *; omega)
  · rw [if_pos rfl]
    refine acalls_pure Tryz.func66 rfl rfl rfl ?_
    repeat' first | refine st (h := ok_str_lss rfl rfl h) ?_ | refine st ?_ | refine st_call (H1) ?_ | refine st_call (H2) ?_ | refine run_nil ?_ | refine Jz ?_ | refine Jw ?_ | refine Jq ?_ | refine Jr ?_ | refine Jy ?_ | refine aw_ret ?_ | refine pp_ret ?_
    all_goals first
      | rfl
      | (exfalso; omega)
      | (simp [retOf]; done)
      | (exfalso; simp_all; done)
      | (exfalso; simp only [Bool.not_eq_true', Bool.not_eq_false', decide_eq_true_eq, decide_eq_false_iff_not, Bool.not_false, Bool.not_true] at *; omega)
/-- Which numbers are taken. -/
def tkL (L : List Mb) (i : Nat) : List Bool := (List.range 32).map fun x : Nat => tkB L i x
theorem tkL_len (L : List Mb) (i : Nat) : (tkL L i).length = 32 := by simp [tkL]
theorem tkL_at {L : List Mb} {i : Nat} {x : Int} (h : 0 ≤ x ∧ x ≤ 31) : (tkL L i)[x.toNat]? = some (tkB L i x) := by
  have hx : x.toNat < 32 := by omega
  have e : ((x.toNat : Nat) : Int) = x := by omega
  simp [tkL, hx, e]
theorem tkL_same {L : List Mb} {i : Nat} (h : ndA L i = -1) : tkL L (i + 1) = tkL L i := by
  unfold tkL
  refine List.map_congr_left fun x _ => ?_
  rw [tkB_succ, h, decide_eq_false (by omega), Bool.or_false]
theorem tkL_set {L : List Mb} {i : Nat} {x : Int} (h : 0 ≤ x ∧ x ≤ 31) (hx : ndA L i = x) : (tkL L i).set x.toNat true = tkL L (i + 1) := by
  apply List.ext_getElem?
  intro k
  by_cases hk : k < 32
  · have e1 : (tkL L (i + 1))[k]? = some (tkB L (i + 1) k) := by simp [tkL, hk]
    have e2 : (tkL L i)[k]? = some (tkB L i k) := by simp [tkL, hk]
    rw [e1, tkB_succ, hx]
    by_cases hkx : x.toNat = k
    · subst hkx
      rw [List.getElem?_set_self (by rw [tkL_len]; exact hk), decide_eq_true (by omega), Bool.or_true]
    · rw [List.getElem?_set_ne hkx, e2, decide_eq_false (by omega), Bool.or_false]
  · rw [List.getElem?_eq_none (by rw [List.length_set, tkL_len]; omega), List.getElem?_eq_none (by rw [tkL_len]; omega)]
structure Mi where
  i : Nat
set_option maxHeartbeats 16000000 in
theorem jm_gzn {Q : Exit → Slots → Mem → Prop} (L : List Mb) (n i : Nat) (nm sec : ByteArray) (nd no : Int) (hn : L.length = n) (hb : n ≤ 1000000) (hi : i < n) (hq : L[i]? = some ⟨nm, sec, nd, no⟩) (g2 : gdN L i = true) (h0 : i = 0) (hn1 : nd = -1) (hgd : gdB L i ⟨nm, sec, nd, no⟩ = true) (hnx : gdN L (i + 1) = true) : AW Tryz.prog Tryz.f21.ntmps 1 (loopAt Tryz.f21 0) (ThenA (fun σ1 m1 => ∃ y : Mi, Fits 1 ([(0, .slice (some ⟨0, 0, none⟩) n n), (3, .pointer (some ⟨1, 0, none⟩)), (6, .slice (some ⟨0, 0, none⟩) n n), (7, .int .i64 n), (8, .int .i64 y.i)]) ([some ⟨L.flatMap mbC, false, 4⟩, some ⟨List.map Value.bool (tkL L y.i), true, 1⟩]) σ1 m1 ∧ (y.i ≤ n ∧ gdN L y.i = true) ∧ n - y.i < n - i) Q) ([(0, .slice (some ⟨0, 0, none⟩) n n), (3, .pointer (some ⟨1, 0, none⟩)), (6, .slice (some ⟨0, 0, none⟩) n n), (7, .int .i64 n), (8, .int .i64 i)]) ([some ⟨L.flatMap mbC, false, 4⟩, some ⟨List.map Value.bool (tkL L i), true, 1⟩]) := by
  obtain ⟨a, ha⟩ : ∃ a, nmB nm = a := ⟨_, rfl⟩
  obtain ⟨c, hc⟩ : ∃ c, scB sec = c := ⟨_, rfl⟩
  have HN := ac_name nm a ha
  have HS := ac_secret sec c hc
  have HW := ac_jwithin
  unfold gdB mb1 at hgd
  dsimp only at hgd
  rw [ha, hc] at hgd
  clear ha hc g2
  have hnd := ndA_at hq
  dsimp only at hnd
  obtain ⟨hg1, hg2⟩ := and_t hgd
  obtain ⟨hg3, hg4⟩ := and_t hg1
  obtain ⟨hg5, hg6⟩ := and_t hg3
  obtain ⟨hg7, hg8⟩ := and_t hg2
  subst hg5 hg6
  obtain ⟨h1, h2⟩ := of_decide_eq_true hg4
  clear hgd hg1 hg2 hg3 hg4
  clear hg7
  have htl := tkL_same (L := L) (i := i) (by rw [hnd]; exact hn1)
  clear h2 hg8
  repeat' first | intro h1 | intro h1 | refine sd (h := ok_not_dec2 rfl) ?_ | refine st (h := ok_load_rowsE (f := mbC) (cs := [.string nm, .string sec, .int .i64 nd, .int .i64 no]) i (fun _ => rfl) hq rfl rfl rfl rfl (by omega)) ?_ | refine st ?_ | refine sd_call (HN) ?_ | refine sd_call (HS) ?_ | refine sd_call (HW _ _ _) ?_ | refine stm ?_ | refine run_nil ?_ | refine sd ?_ | refine sdl ?_ | refine Jk ?_ | refine Jl ?_ | refine Jm ?_ | refine Jn ?_ ?_ | refine Jo ?_ ?_ | refine rund_nil ?_ | refine Jz ?_ | refine Jw ?_ | refine Jx (id := 5) [0,1,3,7,15,31,63,127,255,511,1023,2047,4095,8191,16383,32767,65535,131071,262143,524287,1048575,1048575,3145727,8388607,16777215,33554431,1048575,68157439,268435455,536870911,1073741823] 31 ?_ | refine aw_block ?_ | refine Jq ?_ | refine Jr ?_ | refine Js ?_ | refine Jy ?_ | refine aw_exit ?_ | refine aw_ret ?_
  all_goals first | (rw [← htl]; exact Exists.intro ⟨i + 1⟩ ⟨fitsD [0, 1], ⟨hi, hnx⟩, by dsimp only; omega⟩) | (exfalso; omega)
set_option maxHeartbeats 16000000 in
theorem jm_gzt {Q : Exit → Slots → Mem → Prop} (L : List Mb) (n i : Nat) (nm sec : ByteArray) (nd no : Int) (hn : L.length = n) (hb : n ≤ 1000000) (hi : i < n) (hq : L[i]? = some ⟨nm, sec, nd, no⟩) (g2 : gdN L i = true) (h0 : i = 0) (hn1 : nd ≠ -1) (hgd : gdB L i ⟨nm, sec, nd, no⟩ = true) (hnx : gdN L (i + 1) = true) : AW Tryz.prog Tryz.f21.ntmps 1 (loopAt Tryz.f21 0) (ThenA (fun σ1 m1 => ∃ y : Mi, Fits 1 ([(0, .slice (some ⟨0, 0, none⟩) n n), (3, .pointer (some ⟨1, 0, none⟩)), (6, .slice (some ⟨0, 0, none⟩) n n), (7, .int .i64 n), (8, .int .i64 y.i)]) ([some ⟨L.flatMap mbC, false, 4⟩, some ⟨List.map Value.bool (tkL L y.i), true, 1⟩]) σ1 m1 ∧ (y.i ≤ n ∧ gdN L y.i = true) ∧ n - y.i < n - i) Q) ([(0, .slice (some ⟨0, 0, none⟩) n n), (3, .pointer (some ⟨1, 0, none⟩)), (6, .slice (some ⟨0, 0, none⟩) n n), (7, .int .i64 n), (8, .int .i64 i)]) ([some ⟨L.flatMap mbC, false, 4⟩, some ⟨List.map Value.bool (tkL L i), true, 1⟩]) := by
  obtain ⟨a, ha⟩ : ∃ a, nmB nm = a := ⟨_, rfl⟩
  obtain ⟨c, hc⟩ : ∃ c, scB sec = c := ⟨_, rfl⟩
  have HN := ac_name nm a ha
  have HS := ac_secret sec c hc
  have HW := ac_jwithin
  unfold gdB mb1 at hgd
  dsimp only at hgd
  rw [ha, hc] at hgd
  clear ha hc g2
  have hnd := ndA_at hq
  dsimp only at hnd
  obtain ⟨hg1, hg2⟩ := and_t hgd
  obtain ⟨hg3, hg4⟩ := and_t hg1
  obtain ⟨hg5, hg6⟩ := and_t hg3
  obtain ⟨hg7, hg8⟩ := and_t hg2
  subst hg5 hg6
  obtain ⟨h1, h2⟩ := of_decide_eq_true hg4
  clear hgd hg1 hg2 hg3 hg4
  clear hg7
  have h3 : (1 ≤ nd ∧ nd ≤ 31) ∧ 1 ≤ no := by omega
  rw [decide_eq_false hn1, Bool.false_or] at hg8
  have htk0 : tkB L i nd = false := by simpa using hg8
  have htk := tkL_at (L := L) (i := i) (x := nd) (by omega)
  rw [htk0] at htk
  have hts := tkL_set (L := L) (i := i) (x := nd) (by omega) hnd
  clear h2 hg8
  repeat' first | intro h1 | intro h1 | refine st (h := ok_not_dec2 rfl) ?_ | refine sd (h := ok_not_dec2 rfl) ?_ | refine st (h := ok_load_rowsE (f := mbC) (cs := [.string nm, .string sec, .int .i64 nd, .int .i64 no]) i (fun _ => rfl) hq rfl rfl rfl rfl (by omega)) ?_ | refine st (h := ok_load_mapE (f := Value.bool) nd.toNat htk rfl rfl rfl (by omega)) ?_ | refine stm (h := ok_storeN (cs' := List.map Value.bool ((tkL L i).set nd.toNat true)) rfl rfl (ListR.refl _) rfl rfl rfl rfl (splice_map (f := Value.bool) (by omega) (by rw [tkL_len]; omega)) (by ((repeat constructor); first | done | fail)) rfl) ?_ | refine st ?_ | refine st_call (HW _ _ _) ?_ | refine sd_call (HN) ?_ | refine sd_call (HS) ?_ | refine sd_call (HW _ _ _) ?_ | refine stm ?_ | refine Ja ?_ | refine Jf ?_ | refine run_nil ?_ | refine sd ?_ | refine sdl ?_ | refine Jk ?_ | refine Jl ?_ | refine Jm ?_ | refine Jn ?_ ?_ | refine Jo ?_ ?_ | refine rund_nil ?_ | refine Jz ?_ | refine Jw ?_ | refine Jx (id := 5) [0,1,3,7,15,31,63,127,255,511,1023,2047,4095,8191,16383,32767,65535,131071,262143,524287,1048575,1048575,3145727,8388607,16777215,33554431,1048575,68157439,268435455,536870911,1073741823] 31 ?_ | refine aw_block ?_ | refine Jq ?_ | refine Jr ?_ | refine Js ?_ | refine Jt ?_ | refine Jy ?_ | refine aw_ret ?_
  all_goals first | (rw [hts]; exact Exists.intro ⟨i + 1⟩ ⟨fitsD [0, 1], ⟨hi, hnx⟩, by dsimp only; omega⟩) | (exfalso; omega)
end Go.Proofs.YtdbcbclapipgdaaGreatDoor
