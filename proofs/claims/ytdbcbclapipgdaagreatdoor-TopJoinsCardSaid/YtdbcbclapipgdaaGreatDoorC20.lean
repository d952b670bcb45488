/- Join: the list behind a request (plain); Join: free numbers (both); Join: members searched and copied; Join: requests that are refused. -/
import Derived.Test.YtdbcbclapipgdaaGreatDoorVO
import Derived.Test.YtdbcbclapipgdaaGreatDoorJ
import Derived.Test.YtdbcbclapipgdaaGreatDoorC14
set_option linter.unusedVariables false
set_option linter.unusedSimpArgs false
namespace Go.Proofs.YtdbcbclapipgdaaGreatDoor
open Go Av
set_option maxRecDepth 20000
/-- The first place of a list where q holds, or -1. -/
def fdx {α : Type} (q : α → Bool) (l : List α) : Int := if l.findIdx q < l.length then (l.findIdx q : Int) else -1
theorem fdx_at {α : Type} {q : α → Bool} {l : List α} {i : Nat} {x : α} (h : l[i]? = some x) (hq : q x = true) (h0 : ∀ j, j < i → ∀ y, l[j]? = some y → q y = false) : fdx q l = i := by
  obtain ⟨hi, hx⟩ := List.getElem?_eq_some_iff.1 h
  have : l.findIdx q = i := (List.findIdx_eq hi).2 ⟨by rw [hx]; exact hq, fun j hj => h0 j hj _ (List.getElem?_eq_getElem (by omega))⟩
  unfold fdx
  rw [this, if_pos hi]
theorem fdx_no {α : Type} {q : α → Bool} {l : List α} (h0 : ∀ j, j < l.length → ∀ y, l[j]? = some y → q y = false) : fdx q l = -1 := by
  have : l.findIdx q = l.length := List.findIdx_eq_length.2 fun x hx => by
    obtain ⟨j, hj⟩ := List.mem_iff_getElem?.1 hx
    exact h0 j (List.getElem?_eq_some_iff.1 hj).1 x hj
  unfold fdx
  rw [this, if_neg (by omega)]
theorem fdx_pos {α : Type} {q : α → Bool} {l : List α} : 0 ≤ fdx q l ↔ ∃ x ∈ l, q x = true := by
  unfold fdx
  by_cases h : l.findIdx q < l.length
  · rw [if_pos h]
    exact ⟨fun _ => ⟨_, List.getElem_mem h, List.findIdx_getElem⟩, fun _ => by omega⟩
  · rw [if_neg h]
    refine ⟨fun h => by omega, fun ⟨x, hx, hq⟩ => ?_⟩
    exact absurd (List.findIdx_lt_length_of_exists ⟨x, hx, hq⟩) h
theorem fdx_bd {α : Type} {q : α → Bool} {l : List α} : -1 ≤ fdx q l ∧ fdx q l < l.length := by
  unfold fdx
  split <;> omega
theorem fdx_get {α : Type} {q : α → Bool} {l : List α} (h : 0 ≤ fdx q l) : ∃ (i : Nat) (x : α), fdx q l = i ∧ l[i]? = some x ∧ q x = true := by
  unfold fdx at h ⊢
  by_cases h1 : l.findIdx q < l.length
  · exact ⟨l.findIdx q, _, by rw [if_pos h1], List.getElem?_eq_getElem h1, List.findIdx_getElem⟩
  · rw [if_neg h1] at h; omega
theorem fdx_step {α : Type} {q : α → Bool} {l : List α} {i : Nat} {x : α} (h0 : ∀ j, j < i → ∀ y, l[j]? = some y → q y = false) (h : l[i]? = some x) (hq : q x = false) : ∀ j, j < i + 1 → ∀ y, l[j]? = some y → q y = false := fun j hj y hy => by
  rcases Nat.lt_or_ge j i with h1 | h1
  · exact h0 j h1 y hy
  · obtain rfl : j = i := by omega
    rw [h] at hy
    cases hy
    exact hq
theorem tk_fdx (L : List Mb) (n : Nat) (hn : L.length = n) (q : Int) : decide (0 ≤ fdx (fun m : Mb => decide (m.nd = q)) L) = tkB L n q := by
  rw [Bool.eq_iff_iff, decide_eq_true_iff, fdx_pos, tkB_true]
  constructor
  · rintro ⟨m, hm, hq⟩
    obtain ⟨k, hk⟩ := List.mem_iff_getElem?.1 hm
    have := (List.getElem?_eq_some_iff.1 hk).1
    exact ⟨k, by omega, by rw [ndA_at hk]; exact of_decide_eq_true hq⟩
  · rintro ⟨k, hk, hq⟩
    obtain ⟨m, hm⟩ : ∃ m, L[k]? = some m := ⟨_, List.getElem?_eq_getElem (by omega)⟩
    exact ⟨m, List.mem_of_getElem? hm, by rw [ndA_at hm] at hq; exact decide_eq_true hq⟩
/-- The least number that no member has. -/
def frN (L : List Mb) : Int := if fdx (fun k : Nat => !tkB L L.length ((k : Int) + 1)) (List.range 31) < 0 then -1 else fdx (fun k : Nat => !tkB L L.length ((k : Int) + 1)) (List.range 31) + 1
theorem frN_at {L : List Mb} {n : Nat} (h1 : 1 ≤ n) (h : n ≤ 31) (h0 : tkB L L.length (n : Int) = false) (hb : ∀ j : Nat, 1 ≤ j → j < n → tkB L L.length (j : Int) = true) : frN L = n := by
  obtain ⟨k, rfl⟩ : ∃ k, n = k + 1 := ⟨n - 1, by omega⟩
  have e := fdx_at (q := fun k : Nat => !tkB L L.length ((k : Int) + 1)) (l := List.range 31) (i := k) (x := k) (by rw [List.getElem?_range (by omega)]) (by
    have : ((k + 1 : Nat) : Int) = (k : Int) + 1 := by omega
    rw [this] at h0
    simp [h0]) (fun j hj y hy => by
    rw [List.getElem?_range (by omega)] at hy
    cases hy
    have := hb (j + 1) (by omega) (by omega)
    rw [show ((j + 1 : Nat) : Int) = (j : Int) + 1 by omega] at this
    simp [this])
  unfold frN
  rw [e, if_neg (by omega)]
  omega
theorem frN_no {L : List Mb} (hb : ∀ j : Nat, 1 ≤ j → j < 32 → tkB L L.length (j : Int) = true) : frN L = -1 := by
  have e := fdx_no (q := fun k : Nat => !tkB L L.length ((k : Int) + 1)) (l := List.range 31) (fun j hj y hy => by
    rw [List.length_range] at hj
    rw [List.getElem?_range hj] at hy
    cases hy
    have := hb (j + 1) (by omega) (by omega)
    rw [show ((j + 1 : Nat) : Int) = (j : Int) + 1 by omega] at this
    simp [this])
  unfold frN
  rw [e, if_pos (by omega)]
theorem frN_bd (L : List Mb) : frN L = -1 ∨ (1 ≤ frN L ∧ frN L ≤ 31) := by
  have h := fdx_bd (q := fun k : Nat => !tkB L L.length ((k : Int) + 1)) (l := List.range 31)
  rw [List.length_range] at h
  unfold frN
  split <;> omega
theorem frN_new {L : List Mb} (h : 1 ≤ frN L) : tkB L L.length (frN L) = false := by
  unfold frN at h ⊢
  by_cases h1 : fdx (fun k : Nat => !tkB L L.length ((k : Int) + 1)) (List.range 31) < 0
  · rw [if_pos h1] at h; omega
  · rw [if_neg h1]
    obtain ⟨i, x, e, hx, hq⟩ := fdx_get (Int.not_lt.1 h1)
    rw [e]
    have hi : i < 31 := by have := (List.getElem?_eq_some_iff.1 hx).1; rwa [List.length_range] at this
    rw [List.getElem?_range hi] at hx
    cases hx
    simpa using hq
/-- The place of a name. -/
def ixN (L : List Mb) (nm : ByteArray) : Nat := L.findIdx fun m => decide (m.nm = nm)
theorem ix_get {L : List Mb} {nm : ByteArray} {m : Mb} (h : L[ixN L nm]? = some m) : m.nm = nm := by
  obtain ⟨hi, hx⟩ := List.getElem?_eq_some_iff.1 h
  have := List.findIdx_getElem (p := fun m : Mb => decide (m.nm = nm)) (xs := L) (w := hi)
  unfold ixN at hx
  rw [hx] at this
  exact of_decide_eq_true this
theorem ix_no {L : List Mb} {nm : ByteArray} (h : ∀ (j : Nat) (m : Mb), L[j]? = some m → m.nm ≠ nm) : L[ixN L nm]? = none := by
  cases hq : L[ixN L nm]? with
  | none => rfl
  | some m => exact absurd (ix_get hq) (h _ m hq)
theorem ix_at {L : List Mb} (g : mmB L = true) {nm : ByteArray} {i : Nat} {m : Mb} (h : L[i]? = some m) (e : m.nm = nm) : ixN L nm = i := by
  have hi := (List.getElem?_eq_some_iff.1 h).1
  have hlt : ixN L nm < L.length := List.findIdx_lt_length_of_exists ⟨m, List.mem_of_getElem? h, decide_eq_true e⟩
  obtain ⟨m', hm'⟩ : ∃ m', L[ixN L nm]? = some m' := ⟨_, List.getElem?_eq_getElem hlt⟩
  exact gd_inj g (Nat.le_refl _) hlt hi (by rw [nmAt_at hm', nmAt_at h, ix_get hm', e])
theorem sr_no {L : List Mb} (g : mmB L = true) {i : Nat} {q : ByteArray} (h1 : ∀ (j : Nat) (c : Mb), j < i → L[j]? = some c → ltS c.nm q = true) (h2 : ∀ (j : Nat) (c : Mb), i ≤ j → L[j]? = some c → ltS c.nm q = false) (hb : ∀ c, L[i]? = some c → c.nm ≠ q) : L[ixN L q]? = none := ix_no fun j c hc e => by
  have hj := (List.getElem?_eq_some_iff.1 hc).1
  rcases Nat.lt_trichotomy j i with h | h | h
  · have := h1 j c h hc
    rw [e, lt_irr] at this
    cases this
  · subst h
    exact hb c hc e
  · obtain ⟨d, hd⟩ : ∃ d, L[i]? = some d := ⟨_, List.getElem?_eq_getElem (by omega)⟩
    have k1 := gd_lt g h hj (Nat.le_refl _)
    rw [nmAt_at hd, nmAt_at hc, e, h2 i d (Nat.le_refl _) hd] at k1
    cases k1
theorem ok_eqlD {P : Program} {ρ : Operand → Option Value} {m : Mem} {dd : Option Tmp} {t : TypeId} {pp : String} {af : Array Edge} {g : Option (Nat × Bool)} {xt yt : TypeId} {x y : Operand} {k : IntKind} {a b : Int} {c : Bool} (hx : ρ x = some (.int k a)) (hy : ρ y = some (.int k b)) (h : decide (a = b) = c) : OpOK P ⟨dd, .binOp .eql xt x y yt, t, pp, af, g⟩ ρ m (.bool c) m := by
  subst h
  exact ok_eql hx hy
theorem mbC_all (L : List Mb) : (L.flatMap mbC).length = 4 * L.length := by
  induction L with
  | nil => rfl
  | cons p L ih => rw [List.flatMap_cons, List.length_append, ih, List.length_cons, mbC_len]; omega
theorem mbC_one (L : List Mb) : (L.flatMap mbC).all (·.oneCell') = true := by
  induction L with
  | nil => rfl
  | cons p S ih => rw [List.flatMap_cons, List.all_append, ih]; rfl
theorem mbC_take {L : List Mb} {n : Nat} (hn : L.length = n) : ((L.flatMap mbC).drop 0).take (n * 4) = L.flatMap mbC := by
  rw [List.drop_zero, List.take_of_length_le (by rw [mbC_all]; omega)]
structure Ki where
  i : Nat
theorem ac_fr1 (q : Int) (nm sec : ByteArray) (nd no : Int) (x : Bool) (hx : decide (nd = q) = x) : ACalls Tryz.prog 110 [.agg #[.string nm, .string sec, .int .i64 nd, .int .i64 no], .pointer (some ⟨0, 0, none⟩)] [some ⟨[.int .i64 q], false, 1⟩] (.bool x) [none] := by
  refine acalls_law Tryz.func110 rfl rfl rfl ?_
  repeat' first | refine st (h := ok_eqlD rfl rfl hx) ?_ | refine st ?_ | refine stm ?_ | refine run_nil ?_ | refine Jz ?_ | refine Jw ?_ | refine aw_ret ?_ | refine pp_ret ?_
  all_goals first
    | rfl
    | (exfalso; omega)
    | (rw [← hx]; refine congrArg Value.bool ?_; first | exact (decide_eq_true (by omega)).symm | exact (decide_eq_false (by omega)).symm | exact decide_eq_decide.2 (by omega))
    | (rw [← hx]; show Value.bool _ = Value.bool _; congr 1; first | exact (decide_eq_true (by omega)).symm | exact (decide_eq_false (by omega)).symm | exact decide_eq_decide.2 (by omega) | (rw [← decide_not]; exact decide_eq_decide.2 (by omega)))
    | (exfalso; simp only [Bool.not_eq_true', Bool.not_eq_false', decide_eq_true_eq, decide_eq_false_iff_not, Bool.not_false, Bool.not_true] at *; omega)
    | (simp [retOf]; done)
    | (exfalso; simp_all; done)
set_option maxHeartbeats 4000000 in
theorem ac_ixf (L : List Mb) (n : Nat) (hn : L.length = n) (hb : n ≤ 1000000) (q x : Int) (hx : fdx (fun m : Mb => decide (m.nd = q)) L = x) : ACalls Tryz.prog 74 [.slice (some ⟨0, 0, none⟩) n n, .func (.func 110) #[] #[.pointer (some ⟨1, 0, none⟩)]] [some ⟨L.flatMap mbC, false, 4⟩, some ⟨[.int .i64 q], false, 1⟩] (.int .i64 x) [none, none] := by
  refine acalls_law Tryz.func74 rfl rfl rfl ?_
  repeat' first | refine st ?_ | refine run_nil ?_ | refine Jz ?_ | refine Jw ?_ | refine aw_block ?_
  refine aw_loopg
    (S := fun y : Ki => [(0, .slice (some ⟨0, 0, none⟩) n n), (1, .func (.func 110) #[] #[.pointer (some ⟨1, 0, none⟩)]), (6, .slice (some ⟨0, 0, none⟩) n n), (7, .int .i64 n), (8, .int .i64 y.i)])
    (B := fun _ : Ki => [some ⟨L.flatMap mbC, false, 4⟩, some ⟨[.int .i64 q], false, 1⟩])
    (R := fun y : Ki => y.i ≤ n ∧ ∀ (j : Nat), j < y.i → ∀ m, L[j]? = some m → (fun m : Mb => decide (m.nd = q)) m = false)
    (μ := fun y : Ki => n - y.i) ⟨0⟩ (fitsD [0, 1]) ⟨Nat.zero_le _, fun j hj => absurd hj (Nat.not_lt_zero _)⟩ ?_
  rintro ⟨i⟩ ⟨g1, g2⟩
  dsimp only at *
  by_cases hi : i < n
  · obtain ⟨⟨nm, sec, nd, no⟩, hq⟩ : ∃ m, L[i]? = some m := ⟨_, List.getElem?_eq_getElem (by omega)⟩
    by_cases heq : nd = q
    · have H := ac_fr1 q nm sec nd no true (decide_eq_true heq)
      obtain rfl : x = i := by rw [← hx]; exact fdx_at (q := fun m : Mb => decide (m.nd = q)) hq (decide_eq_true heq) g2
      repeat' first | refine st (h := ok_load_rowsE (f := mbC) (cs := [.string nm, .string sec, .int .i64 nd, .int .i64 no]) i (fun _ => rfl) hq rfl rfl rfl rfl (by omega)) ?_ | refine st ?_ | refine stRW [1] H ?_ | refine run_nil ?_ | refine Jz ?_ | refine Jw ?_ | refine aw_block ?_ | refine Jq ?_ | refine Js ?_ | refine Jy ?_ | refine aw_ret ?_ | refine pp_ret ?_
      all_goals first
        | rfl
        | (exfalso; omega)
        | (simp [retOf]; done)
        | (exfalso; simp_all; done)
        | (exfalso; simp only [Bool.not_eq_true', Bool.not_eq_false', decide_eq_true_eq, decide_eq_false_iff_not, Bool.not_false, Bool.not_true] at *; omega)
    · have H := ac_fr1 q nm sec nd no false (decide_eq_false heq)
      have hst := fdx_step (q := fun m : Mb => decide (m.nd = q)) g2 hq (decide_eq_false heq)
      repeat' first | refine st (h := ok_load_rowsE (f := mbC) (cs := [.string nm, .string sec, .int .i64 nd, .int .i64 no]) i (fun _ => rfl) hq rfl rfl rfl rfl (by omega)) ?_ | refine st ?_ | refine stRW [1] H ?_ | refine run_nil ?_ | refine Jz ?_ | refine Jw ?_ | refine aw_block ?_ | refine Jr ?_ | refine Js ?_ | refine Jy ?_
      all_goals first | exact Exists.intro ⟨i + 1⟩ ⟨fitsD [0, 1], ⟨hi, hst⟩, by dsimp only; omega⟩
  · obtain rfl : i = n := by omega
    obtain rfl : x = -1 := by rw [← hx]; exact fdx_no (by rw [hn]; exact g2)
    repeat' first | refine st ?_ | refine run_nil ?_ | refine Jz ?_ | refine Jw ?_ | refine Jt ?_ | refine aw_exit ?_ | refine aw_ret ?_ | refine pp_ret ?_
    all_goals first
      | rfl
      | (exfalso; omega)
      | (simp [retOf]; done)
      | (exfalso; simp_all; done)
      | (exfalso; simp only [Bool.not_eq_true', Bool.not_eq_false', decide_eq_true_eq, decide_eq_false_iff_not, Bool.not_false, Bool.not_true] at *; omega)
set_option maxHeartbeats 4000000 in
theorem ac_cnf (L : List Mb) (n : Nat) (hn : L.length = n) (hb : n ≤ 1000000) (q : Int) (x : Bool) (hx : tkB L n q = x) : ACalls Tryz.prog 25 [.slice (some ⟨0, 0, none⟩) n n, .func (.func 110) #[] #[.pointer (some ⟨1, 0, none⟩)]] [some ⟨L.flatMap mbC, false, 4⟩, some ⟨[.int .i64 q], false, 1⟩] (.bool x) [none, none] := by
  rw [← tk_fdx L n hn q] at hx
  obtain ⟨z, hz⟩ : ∃ z, fdx (fun m : Mb => decide (m.nd = q)) L = z := ⟨_, rfl⟩
  have H := ac_ixf L n hn hb q z hz
  rw [hz] at hx
  clear hz
  refine acalls_law Tryz.func25 rfl rfl rfl ?_
  repeat' first | refine st ?_ | refine stRW [0, 1] H ?_ | refine run_nil ?_ | refine Jz ?_ | refine Jw ?_ | refine aw_ret ?_ | refine pp_ret ?_
  all_goals first
    | rfl
    | (exfalso; omega)
    | (rw [← hx]; refine congrArg Value.bool ?_; first | exact (decide_eq_true (by omega)).symm | exact (decide_eq_false (by omega)).symm | exact decide_eq_decide.2 (by omega))
    | (rw [← hx]; show Value.bool _ = Value.bool _; congr 1; first | exact (decide_eq_true (by omega)).symm | exact (decide_eq_false (by omega)).symm | exact decide_eq_decide.2 (by omega) | (rw [← decide_not]; exact decide_eq_decide.2 (by omega)))
    | (exfalso; simp only [Bool.not_eq_true', Bool.not_eq_false', decide_eq_true_eq, decide_eq_false_iff_not, Bool.not_false, Bool.not_true] at *; omega)
    | (simp [retOf]; done)
    | (exfalso; simp_all; done)
set_option maxHeartbeats 8000000 in
theorem ac_free (L : List Mb) (n : Nat) (hn : L.length = n) (hb : n ≤ 1000000) : ACalls Tryz.prog 67 [.slice (some ⟨0, 0, none⟩) n n] [some ⟨L.flatMap mbC, false, 4⟩] (.int .i64 (frN L)) [none] := by
  refine acalls_law Tryz.func67 rfl rfl rfl ?_
  repeat' first | refine st ?_ | refine stm ?_ | refine run_nil ?_ | refine Jz ?_ | refine Jw ?_ | refine aw_block ?_
  refine aw_loopg
    (S := fun y : Ki => [(0, .slice (some ⟨0, 0, none⟩) n n), (3, .pointer (some ⟨1, 0, none⟩))])
    (B := fun y : Ki => [some ⟨L.flatMap mbC, false, 4⟩, some ⟨[.int .i64 y.i], true, 1⟩])
    (R := fun y : Ki => (1 ≤ y.i ∧ y.i ≤ 32) ∧ ∀ (j : Nat), 1 ≤ j → j < y.i → tkB L n (j : Int) = true)
    (μ := fun y : Ki => 32 - y.i) ⟨1⟩ (fitsD [0, 1]) ⟨by dsimp only; omega, fun j h1 h2 => by dsimp only at h2; omega⟩ ?_
  rintro ⟨i⟩ ⟨g1, g2⟩
  dsimp only at *
  by_cases hi : i < 32
  · cases ht : tkB L n (i : Int) with
    | false =>
      have H := ac_cnf L n hn hb i false ht
      have hf : frN L = i := frN_at (by omega) (by omega) (by rw [hn]; exact ht) (by rw [hn]; exact g2)
      rw [hf]
      repeat' first | refine st ?_ | refine stRW [0, 1] H ?_ | refine st (h := ok_makeFunc (by ((repeat (apply ArgsR.cons; rfl)); exact ArgsR.nil)) (by ((repeat (apply ArgsR.cons; rfl)); exact ArgsR.nil))) ?_ | refine run_nil ?_ | refine Jz ?_ | refine Jw ?_ | refine aw_block ?_ | refine Jq ?_ | refine Js ?_ | refine Jy ?_ | refine aw_ret ?_ | refine pp_ret ?_
      all_goals first
        | rfl
        | (exfalso; omega)
        | (simp [retOf]; done)
        | (exfalso; simp_all; done)
        | (exfalso; simp only [Bool.not_eq_true', Bool.not_eq_false', decide_eq_true_eq, decide_eq_false_iff_not, Bool.not_false, Bool.not_true] at *; omega)
    | true =>
      have H := ac_cnf L n hn hb i true ht
      have hst : ∀ (j : Nat), 1 ≤ j → j < i + 1 → tkB L n (j : Int) = true := fun j h1 h2 => by
        rcases Nat.lt_or_ge j i with h3 | h3
        · exact g2 j h1 h3
        · obtain rfl : j = i := by omega
          exact ht
      clear ht g2
      repeat' first | refine st ?_ | refine stRW [0, 1] H ?_ | refine st (h := ok_makeFunc (by ((repeat (apply ArgsR.cons; rfl)); exact ArgsR.nil)) (by ((repeat (apply ArgsR.cons; rfl)); exact ArgsR.nil))) ?_ | refine stm ?_ | refine run_nil ?_ | refine Jz ?_ | refine Jw ?_ | refine aw_block ?_ | refine Jr ?_ | refine Js ?_ | refine Jy ?_
      all_goals first | exact Exists.intro ⟨i + 1⟩ ⟨fitsD [0, 2], ⟨by dsimp only; omega, hst⟩, by dsimp only; omega⟩
  · obtain rfl : i = 32 := by omega
    have hf : frN L = -1 := frN_no (by rw [hn]; exact g2)
    rw [hf]
    repeat' first | refine st ?_ | refine run_nil ?_ | refine Jz ?_ | refine Jw ?_ | refine Jr ?_ | refine aw_exit ?_ | refine aw_ret ?_ | refine pp_ret ?_
    all_goals first
      | rfl
      | (exfalso; omega)
      | (simp [retOf]; done)
      | (exfalso; simp_all; done)
      | (exfalso; simp only [Bool.not_eq_true', Bool.not_eq_false', decide_eq_true_eq, decide_eq_false_iff_not, Bool.not_false, Bool.not_true] at *; omega)
theorem ac_adc (nm sec q : ByteArray) (nd no : Int) : ACalls Tryz.prog 65 [.agg #[.string nm, .string sec, .int .i64 nd, .int .i64 no], .string q] [] (.int .i64 (cmS nm q)) [] := by
  have H := ac_cmS nm q
  obtain ⟨x, hx⟩ : ∃ x, cmS nm q = x := ⟨_, rfl⟩
  rw [hx] at H ⊢
  refine acalls_law Tryz.func65 rfl rfl rfl ?_
  repeat' first | refine st ?_ | refine st_call (H) ?_ | refine stm ?_ | refine run_nil ?_ | refine Jz ?_ | refine Jw ?_ | refine aw_ret ?_ | refine pp_ret ?_
  all_goals first
    | rfl
    | (exfalso; omega)
    | (simp [retOf]; done)
    | (exfalso; simp_all; done)
    | (exfalso; simp only [Bool.not_eq_true', Bool.not_eq_false', decide_eq_true_eq, decide_eq_false_iff_not, Bool.not_false, Bool.not_true] at *; omega)
theorem cmS_neg (s u : ByteArray) : cmS s u < 0 ↔ ltS s u = true := by
  unfold cmS
  split
  · exact ⟨fun _ => by assumption, fun _ => by omega⟩
  · rename_i h
    exact ⟨fun h2 => by split at h2 <;> omega, fun h2 => absurd h2 h⟩
theorem cmS_zero (s u : ByteArray) : cmS s u = 0 ↔ s = u := by
  unfold cmS
  split
  · rename_i h
    refine ⟨fun h2 => by omega, fun h2 => ?_⟩
    rw [h2, lt_irr] at h
    cases h
  · split
    · exact ⟨fun _ => by assumption, fun _ => rfl⟩
    · rename_i h
      exact ⟨fun h2 => by omega, fun h2 => absurd h2 h⟩
theorem sr_lt {L : List Mb} (g : mmB L = true) {i j : Nat} {a b : Mb} (hij : i ≤ j) (ha : L[i]? = some a) (hb : L[j]? = some b) {q : ByteArray} (h : ltS b.nm q = true) : ltS a.nm q = true := by
  by_cases e : i = j
  · subst e
    rw [ha] at hb
    cases hb
    exact h
  · have := gd_lt g (show i < j by omega) (List.getElem?_eq_some_iff.1 hb).1 (Nat.le_refl _)
    rw [nmAt_at ha, nmAt_at hb] at this
    exact lt_trans' this h
structure Bz where
  lo : Nat
  hi : Nat
theorem ok_shrM {P : Program} {ρ : Operand → Option Value} {m : Mem} {d : Option Tmp} {t : TypeId} {pp : String} {af : Array Edge} {g : Option (Nat × Bool)} {xt x y yt k k' a b} {c : Int} (hc : a / 2 ^ (min b.toNat k.bits) = c) (hx : ρ x = some (.int k a)) (hy : ρ y = some (.int k' b)) (h : 0 ≤ b) : OpOK P ⟨d, .binOp .shr xt x y yt, t, pp, af, g⟩ ρ m (.int k c) m := hc ▸ ok_shr hx hy h
set_option maxHeartbeats 8000000 in
theorem ac_srch (L : List Mb) (n : Nat) (hn : L.length = n) (hb : n ≤ 1000000) (q : ByteArray) (g : mmB L = true) : ∃ (i : Nat) (b : Bool), i ≤ n ∧ (∀ (j : Nat) (c : Mb), j < i → L[j]? = some c → ltS c.nm q = true) ∧ (∀ (j : Nat) (c : Mb), i ≤ j → L[j]? = some c → ltS c.nm q = false) ∧ (match L[i]? with | some c => decide (c.nm = q) | none => false) = b ∧ ACalls Tryz.prog 64 [.slice (some ⟨0, 0, none⟩) n n, .string q, .func (.func 65) #[] #[]] [some ⟨L.flatMap mbC, false, 4⟩] (.tuple #[.int .i64 i, .bool b]) [none] := by
  obtain ⟨i, hi1, hi2, hi3⟩ : ∃ i, i ≤ n ∧ (∀ (j : Nat) (c : Mb), j < i → L[j]? = some c → ltS c.nm q = true) ∧ (∀ (j : Nat) (c : Mb), i ≤ j → L[j]? = some c → ltS c.nm q = false) := by
    refine ⟨L.findIdx fun c => !ltS c.nm q, by rw [← hn]; exact List.findIdx_le_length, fun j c hj hc => ?_, fun j c hj hc => ?_⟩
    · have hl := (List.getElem?_eq_some_iff.1 hc)
      have := List.not_of_lt_findIdx hj
      rw [hl.2] at this
      simpa using this
    · obtain ⟨hl, hx⟩ := List.getElem?_eq_some_iff.1 hc
      have hlt : L.findIdx (fun c => !ltS c.nm q) < L.length := by omega
      have h1 := List.findIdx_getElem (w := hlt)
      cases h4 : ltS c.nm q with
      | false => rfl
      | true =>
        rw [sr_lt g hj (List.getElem?_eq_getElem hlt) hc h4] at h1
        cases h1
  obtain ⟨b, hb'⟩ : ∃ b, (match L[i]? with | some c => decide (c.nm = q) | none => false) = b := ⟨_, rfl⟩
  refine ⟨i, b, hi1, hi2, hi3, hb', ?_⟩
  refine acalls_law Tryz.func64 rfl rfl rfl ?_
  repeat' first | refine st ?_ | refine run_nil ?_ | refine Jz ?_ | refine Jw ?_ | refine aw_block ?_
  refine aw_loopg
    (S := fun y : Bz => [(0, .slice (some ⟨0, 0, none⟩) n n), (1, .string q), (2, .func (.func 65) #[] #[]), (8, .int .i64 n), (9, .int .i64 y.lo), (10, .int .i64 y.hi)])
    (B := fun _ : Bz => [some ⟨L.flatMap mbC, false, 4⟩])
    (R := fun y : Bz => y.lo ≤ i ∧ i ≤ y.hi ∧ y.hi ≤ n)
    (μ := fun y : Bz => y.hi - y.lo) ⟨0, n⟩ (fitsD [0]) ⟨Nat.zero_le _, hi1, Nat.le_refl _⟩ ?_
  rintro ⟨lo, hi⟩ ⟨g1, g2, g3⟩
  dsimp only at *
  by_cases hlh : lo < hi
  · obtain ⟨mid, hmid⟩ : ∃ mid, (lo + hi) / 2 = mid := ⟨_, rfl⟩
    have hsh : ((lo : Int) + hi) / 2 ^ (min (1 : Int).toNat IntKind.u64.bits) = (mid : Int) := by
      rw [show min (1 : Int).toNat IntKind.u64.bits = 1 from rfl]
      omega
    obtain ⟨⟨nm, sec, nd, no⟩, hc⟩ : ∃ c, L[mid]? = some c := ⟨_, List.getElem?_eq_getElem (by omega)⟩
    have H := ac_adc nm sec q nd no
    obtain ⟨x, hx⟩ : ∃ x, cmS nm q = x := ⟨_, rfl⟩
    have hxs := cmS_neg nm q
    rw [hx] at H hxs
    cases hs : ltS nm q with
    | true =>
      have hi4 : mid < i := by
        rcases Nat.lt_or_ge mid i with h | h
        · exact h
        · have := hi3 mid _ h hc
          dsimp only at this
          rw [hs] at this
          cases this
      have hx0 := hxs.2 hs
      clear hxs hi2 hi3 hb'
      repeat' first | refine st (h := ok_shrM hsh rfl rfl (by omega)) ?_ | refine st (h := ok_load_rowsE (f := mbC) (cs := [.string nm, .string sec, .int .i64 nd, .int .i64 no]) mid (fun _ => rfl) hc rfl rfl rfl rfl (by omega)) ?_ | refine st ?_ | refine st_call (H) ?_ | refine run_nil ?_ | refine Jz ?_ | refine Jw ?_ | refine aw_block ?_ | refine Js ?_ | refine Jy ?_
      all_goals first | exact Exists.intro ⟨mid + 1, hi⟩ ⟨fitsD [0], ⟨by dsimp only; omega, by dsimp only; omega, by dsimp only; omega⟩, by dsimp only; omega⟩
    | false =>
      have hi4 : i ≤ mid := by
        rcases Nat.lt_or_ge mid i with h | h
        · have := hi2 mid _ h hc
          dsimp only at this
          rw [hs] at this
          cases this
        · exact h
      have hx0 : ¬ x < 0 := fun h => by rw [hxs.1 h] at hs; cases hs
      clear hxs hi2 hi3 hb'
      repeat' first | refine st (h := ok_shrM hsh rfl rfl (by omega)) ?_ | refine st (h := ok_load_rowsE (f := mbC) (cs := [.string nm, .string sec, .int .i64 nd, .int .i64 no]) mid (fun _ => rfl) hc rfl rfl rfl rfl (by omega)) ?_ | refine st ?_ | refine st_call (H) ?_ | refine run_nil ?_ | refine Jz ?_ | refine Jw ?_ | refine aw_block ?_ | refine Js ?_ | refine Jt ?_ | refine Jy ?_
      all_goals first | exact Exists.intro ⟨lo, mid⟩ ⟨fitsD [0], ⟨by dsimp only; omega, by dsimp only; omega, by dsimp only; omega⟩, by dsimp only; omega⟩
  · obtain rfl : lo = i := by omega
    clear hi2 hi3
    by_cases hln : lo < n
    · obtain ⟨⟨nm, sec, nd, no⟩, hc⟩ : ∃ c, L[lo]? = some c := ⟨_, List.getElem?_eq_getElem (by omega)⟩
      have H := ac_adc nm sec q nd no
      obtain ⟨x, hx⟩ : ∃ x, cmS nm q = x := ⟨_, rfl⟩
      have hxs := cmS_zero nm q
      rw [hx] at H hxs
      rw [hc] at hb'
      dsimp only at hb'
      have hbx : decide (x = 0) = b := by rw [← hb']; exact decide_eq_decide.2 hxs
      clear hxs hb'
      repeat' first | refine st (h := ok_eqlD rfl rfl hbx) ?_ | refine st (h := ok_load_rowsE (f := mbC) (cs := [.string nm, .string sec, .int .i64 nd, .int .i64 no]) lo (fun _ => rfl) hc rfl rfl rfl rfl (by omega)) ?_ | refine st ?_ | refine st_call (H) ?_ | refine Ja ?_ | refine Jd ?_ | refine run_nil ?_ | refine Jz ?_ | refine Jw ?_ | refine Jt ?_ | refine aw_exit ?_ | refine aw_ret ?_ | refine pp_ret ?_
      all_goals first
        | rfl
        | (exfalso; omega)
        | (simp [retOf]; done)
        | (exfalso; simp_all; done)
        | (exfalso; simp only [Bool.not_eq_true', Bool.not_eq_false', decide_eq_true_eq, decide_eq_false_iff_not, Bool.not_false, Bool.not_true] at *; omega)
    · rw [List.getElem?_eq_none (by omega)] at hb'
      subst hb'
      repeat' first | refine st ?_ | refine Jb ?_ | refine Je ?_ | refine run_nil ?_ | refine Jz ?_ | refine Jw ?_ | refine Jt ?_ | refine aw_exit ?_ | refine aw_ret ?_ | refine pp_ret ?_
      all_goals first
        | rfl
        | (exfalso; omega)
        | (simp [retOf]; done)
        | (exfalso; simp_all; done)
        | (exfalso; simp only [Bool.not_eq_true', Bool.not_eq_false', decide_eq_true_eq, decide_eq_false_iff_not, Bool.not_false, Bool.not_true] at *; omega)
set_option maxHeartbeats 2000000 in
theorem ac_clM (L : List Mb) (n : Nat) (hn : L.length = n) (hb : n ≤ 1000000) (h0 : n ≠ 0) : ACalls Tryz.prog 68 [.slice (some ⟨0, 0, none⟩) n n] [some ⟨L.flatMap mbC, false, 4⟩] (.slice (some ⟨1, 0, none⟩) n n) [none, some ⟨L.flatMap mbC, true, 4⟩] := by
  refine acalls_of_aw Tryz.func68 rfl rfl ?_
  repeat' first | refine st (h := ok_slice_nilF rfl rfl (by omega)) ?_ | refine stm (h := by (apply ok_append0 (xs := L.flatMap mbC); rfl; rfl; rfl; rfl; rfl; rfl; (focus (refine Src.slc rfl Ty.eq rfl (by rw [mbC_all]; omega) (mbC_take hn) (mbC_one L) rfl)); (focus (exact Nat.zero_le _)); omega; (focus ((repeat constructor); first | done | fail)))) ?_ | refine st ?_ | refine stm ?_ | refine run_nil ?_ | refine Jz ?_ | refine Jw ?_ | refine Jr ?_ | refine Jy ?_ | refine aw_ret ?_
  all_goals first | exact pm_ret _ (renumD [0, 2]) rfl
theorem srch_hit (L : List Mb) (n : Nat) (hn : L.length = n) (hb : n ≤ 1000000) (q : ByteArray) (g : mmB L = true) (k : Nat) (hk : ixN L q = k) (m : Mb) (hm : L[k]? = some m) : ACalls Tryz.prog 64 [.slice (some ⟨0, 0, none⟩) n n, .string q, .func (.func 65) #[] #[]] [some ⟨L.flatMap mbC, false, 4⟩] (.tuple #[.int .i64 k, .bool true]) [none] := by
  obtain ⟨i, b, h1, h2, h3, h4, H⟩ := ac_srch L n hn hb q g
  subst hk
  cases hq : L[i]? with
  | none =>
    have := sr_no g h2 h3 (fun c hc => by rw [hq] at hc; cases hc)
    rw [hm] at this
    cases this
  | some c =>
    rw [hq] at h4
    dsimp only at h4
    by_cases hc : c.nm = q
    · rw [decide_eq_true hc] at h4
      subst h4
      rw [ix_at g hq hc]
      exact H
    · have := sr_no g h2 h3 (fun c' hc' => by rw [hq] at hc'; cases hc'; exact hc)
      rw [hm] at this
      cases this
theorem ok_str_neqE {P : Program} {ρ : Operand → Option Value} {m : Mem} {d : Option Tmp} {t : TypeId} {pp : String} {af : Array Edge} {g : Option (Nat × Bool)} {xt yt : TypeId} {x y : Operand} {s u : ByteArray} {c : Bool} (hx : ρ x = some (.string s)) (hy : ρ y = some (.string u)) (h : decide (s = u) = c) : OpOK P ⟨d, .binOp .neq xt x y yt, t, pp, af, g⟩ ρ m (.bool (!c)) m := by
  subst h
  simpa only [decide_not] using ok_str_neq (P := P) (m := m) (d := d) (t := t) (pp := pp) (af := af) (g := g) (xt := xt) (yt := yt) hx hy
end Go.Proofs.YtdbcbclapipgdaaGreatDoor
