/- Join: names, numbers in decimal (plain); Join: names, secrets, numbers in decimal; Join: requests and answers checked, the states of joiners; Join: codes. -/
import Derived.Test.YtdbcbclapipgdaaGreatDoorVO
import Derived.Test.YtdbcbclapipgdaaGreatDoorJ
import Derived.Test.YtdbcbclapipgdaaGreatDoorSH
import Derived.Test.YtdbcbclapipgdaaGreatDoorC3
import Derived.Test.YtdbcbclapipgdaaGreatDoorC7
set_option linter.unusedVariables false
set_option linter.unusedSimpArgs false
namespace Go.Proofs.YtdbcbclapipgdaaGreatDoor
open Go Av
set_option maxRecDepth 20000
/-- The characters of names. -/
def nmc (c : Nat) : Bool := decide (97 ≤ c ∧ c ≤ 122 ∨ 48 ≤ c ∧ c ≤ 57 ∨ c = 45)
/-- All bytes of a string are characters of names. -/
def nmA (s : ByteArray) : Bool := decide (∀ i, i < s.size → nmc (byteAt s i).toNat = true)
/-- Names. -/
def nmB (s : ByteArray) : Bool := decide (1 ≤ s.size ∧ s.size ≤ 32 ∧ 97 ≤ (byteAt s 0).toNat ∧ (byteAt s 0).toNat ≤ 122) && nmA s
/-- Secrets. -/
def scB (s : ByteArray) : Bool := decide (1 ≤ s.size ∧ s.size ≤ 32)
theorem byteAt_lt (s : ByteArray) (i : Nat) (h : i < s.size) : byteAt s i = s[i] := by
  have h' : i < s.data.size := h
  show s.data.toList.getD i 0 = s.data[i]
  simp [List.getD, getElem?_pos s.data i h']
theorem idx_name (s : ByteArray) : ∀ (f pos : Nat), s.size ≤ pos + f → (0 ≤ Lib.idxFuncFrom (fun c => !nmc c) true s f pos ↔ ∃ i, pos ≤ i ∧ i < s.size ∧ nmc (byteAt s i).toNat = false)
  | 0, pos, h => by
    refine ⟨fun h1 => ?_, fun ⟨i, h1, h2, _⟩ => by omega⟩
    have e : Lib.idxFuncFrom (fun c => !nmc c) true s 0 pos = -1 := rfl
    rw [e] at h1
    omega
  | f + 1, pos, h => by
    unfold Lib.idxFuncFrom
    by_cases hp : pos < s.size
    · rw [if_pos hp]
      have hb := byteAt_lt s pos hp
      by_cases ha : (s[pos]'hp).toNat < 128
      · rw [decode_ascii s pos hp ha]
        dsimp only
        cases hn : nmc (s[pos]'hp).toNat with
        | false => exact ⟨fun _ => ⟨pos, Nat.le_refl _, hp, by rw [hb]; exact hn⟩, fun _ => by rw [if_pos (by rfl)]; omega⟩
        | true =>
          rw [if_neg (by simp), idx_name s f (pos + 1) (by omega)]
          refine ⟨fun ⟨i, h1, h2, h3⟩ => ⟨i, by omega, h2, h3⟩, fun ⟨i, h1, h2, h3⟩ => ⟨i, ?_, h2, h3⟩⟩
          rcases Nat.lt_or_ge pos i with h4 | h4
          · omega
          · obtain rfl : i = pos := by omega
            rw [hb, hn] at h3
            cases h3
      · have h1 := (decode_high s pos hp (by omega)).1
        have e : ∀ c, 128 ≤ c → nmc c = false := fun c hc => decide_eq_false (by omega)
        rw [if_pos (by rw [e _ h1]; rfl)]
        exact ⟨fun _ => ⟨pos, Nat.le_refl _, hp, by rw [hb]; exact e _ (by omega)⟩, fun _ => by omega⟩
    · rw [if_neg hp]
      exact ⟨fun h => by omega, fun ⟨i, h1, h2, _⟩ => by omega⟩
theorem idx_nmA (s : ByteArray) : decide (0 ≤ Lib.idxFunc (fun c => !nmc c) true s) = !nmA s := by
  have h := idx_name s s.size 0 (by omega)
  unfold Lib.idxFunc
  cases hA : nmA s with
  | true =>
    refine decide_eq_false fun h1 => ?_
    obtain ⟨i, _, h2, h3⟩ := h.1 h1
    rw [of_decide_eq_true hA i h2] at h3
    cases h3
  | false =>
    refine decide_eq_true (h.2 ?_)
    have hA := of_decide_eq_false hA
    apply Classical.byContradiction
    intro hn
    refine hA fun i hi => ?_
    cases hc : nmc (byteAt s i).toNat with
    | true => rfl
    | false => exact absurd ⟨i, Nat.zero_le _, hi, hc⟩ hn
/-- Numbers in decimal. -/
def decS (n : Int) : ByteArray := ⟨(Lib.itoa n).toArray⟩
theorem nDig_le : ∀ (k u : Nat), u < 10 ^ (k + 1) → (Lib.decDigits u).length ≤ k + 1
  | 0, u, h => by rw [Lib.decDigits, dif_pos (by simpa using h)]; simp
  | k + 1, u, h => by
    rw [Lib.decDigits]
    split
    · simp
    · have := nDig_le k (u / 10) (by rw [Nat.pow_succ] at h; omega)
      simp; omega
theorem decS_size {n : Int} (h0 : 0 ≤ n) (h : n ≤ 9223372036854775807) : (decS n).size ≤ 19 := by
  show (Lib.itoa n).toArray.size ≤ 19
  unfold Lib.itoa
  rw [if_neg (by omega)]
  simpa using nDig_le 18 n.toNat (by omega)
theorem ok_str_addD {P : Program} {ρ : Operand → Option Value} {m : Mem} {d : Option Tmp} {t : TypeId} {pp : String} {af : Array Edge} {g : Option (Nat × Bool)} {xt yt : TypeId} {x y : Operand} {s u T : ByteArray} (hx : ρ x = some (.string s)) (hy : ρ y = some (.string u)) (e : s ++ u = T) (h : T.size ≤ 9223372036854775807) : OpOK P ⟨d, .binOp .add xt x y yt, t, pp, af, g⟩ ρ m (.string T) m := by
  subst e
  exact ok_str_add hx hy (by rw [← ByteArray.size_append]; exact h)
theorem Amb.below {w W : World} (h : Amb (fun k => w.heap.size ≤ k) w) (hb : RowKit.Below w.heap.size w W) : Amb (fun k => W.heap.size ≤ k) W :=
  h.mono (fun k hk => Nat.le_trans hb.size hk) fun k hk => hb.block k (Nat.lt_of_not_le hk)
/-- A contract of plain values, over the model's own worlds. -/
theorem calls_pure {P : Program} {f : FuncId} {args : List Value} {r : Value} {W : World} (h : ACalls P f args [] r []) (hp : args.all (plain 6) = true) (hr : plain 6 r = true) (hA : Amb (fun k => W.heap.size ≤ k) W) : Calls P f args.toArray W fun e w' => e = .returned r ∧ RowKit.Below W.heap.size W w' := by
  refine calls_of (μ := fun _ => none) h hr (fun _ _ => rfl) (repM_ro (fun id B hB => by simp [live] at hB) hA) (by simp) fun i x y hx hy => ?_
  have e : y = x := by
    rw [List.getElem?_toArray] at hy
    rw [hx] at hy
    exact (Option.some.inj hy).symm
  rw [e]
  exact plain_refl _ 6 x (List.all_eq_true.1 hp x (List.mem_of_getElem? hx))
set_option maxHeartbeats 1000000 in
theorem ac_nmc (c : Nat) : ACalls Tryz.prog 112 [.int .i32 c] [] (.bool (!nmc c)) [] := by
  obtain ⟨x, hx⟩ : ∃ x, (!nmc c) = x := ⟨_, rfl⟩
  rw [hx]
  unfold nmc at hx
  rw [← decide_not] at hx
  refine acalls_pure Tryz.func112 rfl rfl rfl ?_
  repeat' first | intro h1 | intro h1 | refine st (h := ok_not_dec2 rfl) ?_ | refine st ?_ | refine Ja ?_ | refine Jb ?_ | refine Jc ?_ | refine Jd ?_ | refine Jf ?_ | refine Jh ?_ ?_ | refine Ji ?_ ?_ | refine run_nil ?_ | refine Jz ?_ | refine Jw ?_ | refine aw_ret ?_ | refine pp_ret ?_
  all_goals first
    | rfl
    | (exfalso; omega)
    | (rw [← hx]; refine congrArg Value.bool ?_; first | exact (decide_eq_true (by omega)).symm | exact (decide_eq_false (by omega)).symm | exact decide_eq_decide.2 (by omega))
    | (rw [← hx]; show Value.bool _ = Value.bool _; congr 1; first | exact (decide_eq_true (by omega)).symm | exact (decide_eq_false (by omega)).symm | exact decide_eq_decide.2 (by omega) | (rw [← decide_not]; exact decide_eq_decide.2 (by omega)))
    | (exfalso; simp only [Bool.not_eq_true', Bool.not_eq_false', decide_eq_true_eq, decide_eq_false_iff_not, Bool.not_false, Bool.not_true] at *; omega)
    | (simp [retOf]; done)
    | (exfalso; simp_all; done)
theorem ac_ContainsN (s : ByteArray) : ACalls Tryz.prog 111 [.string s, .func (.func 112) #[] #[]] [] (.bool (!nmA s)) [] := by
  constructor
  intro F w0 μ w ys hd hm hl hv
  have e : ys = #[.string s, .func (.func 112) #[] #[]] := by
    apply Array.ext (by simpa using hl)
    intro i h1 h2
    have hx : [Value.string s, .func (.func 112) #[] #[]][i]? = some ([Value.string s, .func (.func 112) #[] #[]][i]'(by simpa using h2)) := List.getElem?_eq_getElem (by simpa using h2)
    have hq := hv i _ _ hx (Array.getElem?_eq_getElem h1)
    have hi : i = 0 ∨ i = 1 := by simp at h2; omega
    rcases hi with rfl | rfl
    · exact (plain_eq 6 (.string s) _ rfl hq)
    · have hq : VR μ (.func (.func 112) #[] #[]) ys[1] := hq
      generalize ys[1] = y at hq
      cases hq with
      | func h1 h2 h3 h4 =>
        rename_i xs us
        have e1 : xs = #[] := Array.eq_empty_of_size_eq_zero (by simpa using h1.symm)
        have e2 : us = #[] := Array.eq_empty_of_size_eq_zero (by simpa using h3.symm)
        rw [e1, e2]
        rfl
  subst e
  have hp : PredGrows Tryz.prog 112 #[] (fun c => !nmc c) w := fun W c _ hb => by
    have := calls_pure (W := W) (ac_nmc c) rfl rfl (Amb.below hm.here hb)
    exact this
  refine (Tryz.strings_ContainsFunc_grows 112 #[] (enters_of Tryz.func112 (by kernel_rfl) rfl) (fun c => !nmc c) s w hp).mono fun e w' ⟨he, hb⟩ => ⟨μ, .bool (!nmA s), ?_, Ext.refl _ _, hd, hm.keep hb.os hb.tape hb.output hb.size fun k hk => hb.block k hk, .bool _⟩
  rw [he, idx_nmA]
theorem ok_str_indexD {P : Program} {ρ : Operand → Option Value} {m : Mem} {d : Option Tmp} {t : TypeId} {pp : String} {af : Array Edge} {g : Option (Nat × Bool)} {xt : TypeId} {x y : Operand} {s : ByteArray} {k : IntKind} {i : Int} {c : Nat} [Ty P xt .string] (hx : ρ x = some (.string s)) (hy : ρ y = some (.int k i)) (h : 0 ≤ i ∧ i < s.size) (e : (byteAt s i.toNat).toNat = c) : OpOK P ⟨d, .index xt x y, t, pp, af, g⟩ ρ m (.int .u8 c) m := by
  subst e
  exact ok_str_index hx hy h
set_option maxHeartbeats 1000000 in
theorem ac_name (s : ByteArray) (x : Bool) (hx : nmB s = x) : ACalls Tryz.prog 71 [.string s] [] (.bool x) [] := by
  have H := ac_ContainsN s
  unfold nmB at hx
  obtain ⟨c0, hc0⟩ : ∃ c, (byteAt s 0).toNat = c := ⟨_, rfl⟩
  rw [hc0] at hx
  cases hA : nmA s
  · rw [hA] at H hx
    rw [Bool.and_false] at hx
    subst hx
    refine acalls_pure Tryz.func71 rfl rfl rfl ?_
    repeat' first | intro h1 | intro h1 | refine st (h := ok_str_indexD rfl rfl (by omega) hc0) ?_ | refine st ?_ | refine st_call (H) ?_ | refine Ja ?_ | refine Jb ?_ | refine Ji ?_ ?_ | refine run_nil ?_ | refine Jz ?_ | refine Jw ?_ | refine Jq ?_ | refine Ju ?_ ?_ | refine Jy ?_ | refine aw_ret ?_ | refine pp_ret ?_
    all_goals first
      | rfl
      | (exfalso; omega)
      | (rw [← hx]; refine congrArg Value.bool ?_; first | exact (decide_eq_true (by omega)).symm | exact (decide_eq_false (by omega)).symm | exact decide_eq_decide.2 (by omega))
      | (rw [← hx]; show Value.bool _ = Value.bool _; congr 1; first | exact (decide_eq_true (by omega)).symm | exact (decide_eq_false (by omega)).symm | exact decide_eq_decide.2 (by omega) | (rw [← decide_not]; exact decide_eq_decide.2 (by omega)))
      | (exfalso; simp only [Bool.not_eq_true', Bool.not_eq_false', decide_eq_true_eq, decide_eq_false_iff_not, Bool.not_false, Bool.not_true] at *; omega)
      | (simp [retOf]; done)
      | (exfalso; simp_all; done)
  · rw [hA] at H hx
    rw [Bool.and_true] at hx
    refine acalls_pure Tryz.func71 rfl rfl rfl ?_
    repeat' first | intro h1 | intro h1 | refine st (h := ok_str_indexD rfl rfl (by omega) hc0) ?_ | refine st ?_ | refine st_call (H) ?_ | refine Ja ?_ | refine Jb ?_ | refine Ji ?_ ?_ | refine run_nil ?_ | refine Jz ?_ | refine Jw ?_ | refine Jq ?_ | refine Ju ?_ ?_ | refine Jy ?_ | refine aw_ret ?_ | refine pp_ret ?_
    all_goals first
      | rfl
      | (exfalso; omega)
      | (rw [← hx]; refine congrArg Value.bool ?_; first | exact (decide_eq_true (by omega)).symm | exact (decide_eq_false (by omega)).symm | exact decide_eq_decide.2 (by omega))
      | (rw [← hx]; show Value.bool _ = Value.bool _; congr 1; first | exact (decide_eq_true (by omega)).symm | exact (decide_eq_false (by omega)).symm | exact decide_eq_decide.2 (by omega) | (rw [← decide_not]; exact decide_eq_decide.2 (by omega)))
      | (exfalso; simp only [Bool.not_eq_true', Bool.not_eq_false', decide_eq_true_eq, decide_eq_false_iff_not, Bool.not_false, Bool.not_true] at *; omega)
      | (simp [retOf]; done)
      | (exfalso; simp_all; done)
theorem ac_secret (s : ByteArray) (x : Bool) (hx : scB s = x) : ACalls Tryz.prog 72 [.string s] [] (.bool x) [] := by
  unfold scB at hx
  refine acalls_pure Tryz.func72 rfl rfl rfl ?_
  repeat' first | intro h1 | intro h1 | refine st ?_ | refine Ja ?_ | refine Jb ?_ | refine Jh ?_ ?_ | refine run_nil ?_ | refine Jz ?_ | refine Jw ?_ | refine aw_ret ?_ | refine pp_ret ?_
  all_goals first
    | rfl
    | (exfalso; omega)
    | (rw [← hx]; refine congrArg Value.bool ?_; first | exact (decide_eq_true (by omega)).symm | exact (decide_eq_false (by omega)).symm | exact decide_eq_decide.2 (by omega))
    | (rw [← hx]; show Value.bool _ = Value.bool _; congr 1; first | exact (decide_eq_true (by omega)).symm | exact (decide_eq_false (by omega)).symm | exact decide_eq_decide.2 (by omega) | (rw [← decide_not]; exact decide_eq_decide.2 (by omega)))
    | (exfalso; simp only [Bool.not_eq_true', Bool.not_eq_false', decide_eq_true_eq, decide_eq_false_iff_not, Bool.not_false, Bool.not_true] at *; omega)
    | (simp [retOf]; done)
    | (exfalso; simp_all; done)
theorem ac_jwithin (n a b : Int) : ACalls Tryz.prog 57 [.int .i64 n, .int .i64 a, .int .i64 b] [] (.bool (decide (a ≤ n ∧ n ≤ b))) [] := by
  obtain ⟨x, hx⟩ : ∃ x, decide (a ≤ n ∧ n ≤ b) = x := ⟨_, rfl⟩
  rw [hx]
  refine acalls_pure Tryz.func57 rfl rfl rfl ?_
  repeat' first | intro h1 | intro h1 | refine st ?_ | refine Ja ?_ | refine Jb ?_ | refine Jh ?_ ?_ | refine run_nil ?_ | refine Jz ?_ | refine Jw ?_ | refine aw_ret ?_ | refine pp_ret ?_
  all_goals first
    | rfl
    | (exfalso; omega)
    | (rw [← hx]; refine congrArg Value.bool ?_; first | exact (decide_eq_true (by omega)).symm | exact (decide_eq_false (by omega)).symm | exact decide_eq_decide.2 (by omega))
    | (rw [← hx]; show Value.bool _ = Value.bool _; congr 1; first | exact (decide_eq_true (by omega)).symm | exact (decide_eq_false (by omega)).symm | exact decide_eq_decide.2 (by omega) | (rw [← decide_not]; exact decide_eq_decide.2 (by omega)))
    | (exfalso; simp only [Bool.not_eq_true', Bool.not_eq_false', decide_eq_true_eq, decide_eq_false_iff_not, Bool.not_false, Bool.not_true] at *; omega)
    | (simp [retOf]; done)
    | (exfalso; simp_all; done)
theorem below_gd (w : World) (k : Nat) (os : Array Obj) : RowKit.Below w.heap.size w (Sort.grow (w.drewN k) os) :=
  ⟨rfl, rfl, rfl, by show w.heap.size ≤ (w.heap ++ os).size; simp, fun i hi => by show (w.heap ++ os)[i]? = w.heap[i]?; rw [Array.getElem?_append_left hi]⟩
theorem amb_tab {w : World} (h : Amb (fun k => w.heap.size ≤ k) w) : Lib.TabIs Tryz.prog w "internal/strconv.uint64pow10" .u64 Lib.pow10Tab := by
  obtain ⟨_, c, e, q, h2, h3⟩ := h.tab _ (List.mem_singleton.2 rfl)
  have hg : Tryz.prog.globalNamed "internal/strconv.uint64pow10" = some 0 := by kernel_rfl
  unfold Lib.TabIs World.var?
  rw [hg]
  show (match w.heap[0]? with | some (.cells cs _ _) => some cs | _ => none) = _
  rw [h2]
  show some c = _
  congr 1
  apply Array.ext'
  rw [h3]
  rfl
theorem ac_itoa (n : Int) (h0 : -9223372036854775808 ≤ n) (h1 : n ≤ 9223372036854775807) : ACalls Tryz.prog 107 [.int .i64 n] [] (.string (decS n)) [] := by
  refine acalls_ofT rfl rfl fun w hA => ?_
  refine (Tryz.strconv_Itoa n h0 h1 w (amb_tab hA)).mono fun e w' ⟨he, k, os, hw⟩ => ⟨he, ?_⟩
  subst hw
  exact below_gd w k os
/-- A request has its form, an answer has its form. -/
def akB (nm : ByteArray) (no : Int) (cd : ByteArray) : Bool := nmB nm && decide ((1 ≤ no ∧ no ≤ 2147483647) ∧ cd.size = 8)
def anB (nm : ByteArray) (no nd : Int) (cd : ByteArray) : Bool := akB nm no cd && decide (1 ≤ nd ∧ nd ≤ 31)
/-- A joiner's numbers are right for its state. -/
def stB (sj pa ep nd no tr si : Int) : Bool :=
  if sj = 0 then decide (pa = -1 ∧ nd = -1 ∧ tr = 0 ∧ ep = 0 ∧ si = 0) else if sj = 1 then decide ((0 ≤ pa ∧ pa ≤ 31) ∧ nd = -1 ∧ tr < 4) else if sj = 2 then decide ((0 ≤ pa ∧ pa ≤ 31) ∧ nd = -1 ∧ 1 ≤ tr ∧ 1 ≤ no) else if sj = 3 then decide ((0 ≤ pa ∧ pa ≤ 31) ∧ (1 ≤ nd ∧ nd ≤ 31) ∧ 1 ≤ no) else false
/-- A joiner is right. -/
def chJ (nm sec : ByteArray) (sj pa ep nd no tr si : Int) : Bool := (nmB nm && scB sec) && (decide ((0 ≤ ep ∧ ep ≤ 65535) ∧ (0 ≤ no ∧ no ≤ 2147483647) ∧ (0 ≤ si ∧ si ≤ 109951162) ∧ 0 ≤ tr ∧ tr ≤ 4) && stB sj pa ep nd no tr si)
theorem and_t {a b : Bool} (h : (a && b) = true) : a = true ∧ b = true := by cases a <;> cases b <;> simp_all
theorem chJ_t {nm sec : ByteArray} {sj pa ep nd no tr si : Int} (h : chJ nm sec sj pa ep nd no tr si = true) : nmB nm = true ∧ scB sec = true ∧ ((0 ≤ ep ∧ ep ≤ 65535) ∧ (0 ≤ no ∧ no ≤ 2147483647) ∧ (0 ≤ si ∧ si ≤ 109951162) ∧ 0 ≤ tr ∧ tr ≤ 4) ∧ stB sj pa ep nd no tr si = true :=
  ⟨(and_t (and_t h).1).1, (and_t (and_t h).1).2, of_decide_eq_true (and_t (and_t h).2).1, (and_t (and_t h).2).2⟩
theorem scB_t {s : ByteArray} (h : scB s = true) : 1 ≤ s.size ∧ s.size ≤ 32 := of_decide_eq_true h
theorem nmB_t {s : ByteArray} (h : nmB s = true) : 1 ≤ s.size ∧ s.size ≤ 32 := by
  have := of_decide_eq_true (and_t h).1
  omega
theorem akB_t {nm cd : ByteArray} {no : Int} (h : akB nm no cd = true) : nmB nm = true ∧ (1 ≤ no ∧ no ≤ 2147483647) ∧ cd.size = 8 := ⟨(and_t h).1, of_decide_eq_true (and_t h).2⟩
theorem anB_t {nm cd : ByteArray} {no nd : Int} (h : anB nm no nd cd = true) : akB nm no cd = true ∧ 1 ≤ nd ∧ nd ≤ 31 := ⟨(and_t h).1, of_decide_eq_true (and_t h).2⟩
set_option maxHeartbeats 1000000 in
theorem ac_asks (nm : ByteArray) (no : Int) (cd : ByteArray) (x : Bool) (hx : akB nm no cd = x) : ACalls Tryz.prog 63 [.agg #[.string nm, .int .i64 no, .string cd]] [] (.bool x) [] := by
  unfold akB at hx
  obtain ⟨a, ha⟩ : ∃ a, nmB nm = a := ⟨_, rfl⟩
  have H := ac_name nm a ha
  have HW := ac_jwithin
  rw [ha] at hx
  clear ha
  cases a
  · rw [Bool.false_and] at hx
    subst hx
    refine acalls_law Tryz.func63 rfl rfl rfl ?_
    repeat' first | refine st ?_ | refine st_call (H) ?_ | refine stm ?_ | refine Jb ?_ | refine run_nil ?_ | refine Jz ?_ | refine Jw ?_ | refine aw_ret ?_ | refine pp_ret ?_
    all_goals first
      | rfl
      | (exfalso; omega)
      | (rw [← hx]; refine congrArg Value.bool ?_; first | exact (decide_eq_true (by omega)).symm | exact (decide_eq_false (by omega)).symm | exact decide_eq_decide.2 (by omega))
      | (rw [← hx]; show Value.bool _ = Value.bool _; congr 1; first | exact (decide_eq_true (by omega)).symm | exact (decide_eq_false (by omega)).symm | exact decide_eq_decide.2 (by omega) | (rw [← decide_not]; exact decide_eq_decide.2 (by omega)))
      | (exfalso; simp only [Bool.not_eq_true', Bool.not_eq_false', decide_eq_true_eq, decide_eq_false_iff_not, Bool.not_false, Bool.not_true] at *; omega)
      | (simp [retOf]; done)
      | (exfalso; simp_all; done)
  · rw [Bool.true_and] at hx
    refine acalls_law Tryz.func63 rfl rfl rfl ?_
    repeat' first | intro h1 | intro h1 | refine st ?_ | refine st_call (H) ?_ | refine st_call (HW _ _ _) ?_ | refine stm ?_ | refine Ja ?_ | refine Jb ?_ | refine Jh ?_ ?_ | refine run_nil ?_ | refine Jz ?_ | refine Jw ?_ | refine aw_ret ?_ | refine pp_ret ?_
    all_goals first
      | rfl
      | (exfalso; omega)
      | (rw [← hx]; refine congrArg Value.bool ?_; first | exact (decide_eq_true (by omega)).symm | exact (decide_eq_false (by omega)).symm | exact decide_eq_decide.2 (by omega))
      | (rw [← hx]; show Value.bool _ = Value.bool _; congr 1; first | exact (decide_eq_true (by omega)).symm | exact (decide_eq_false (by omega)).symm | exact decide_eq_decide.2 (by omega) | (rw [← decide_not]; exact decide_eq_decide.2 (by omega)))
      | (exfalso; simp only [Bool.not_eq_true', Bool.not_eq_false', decide_eq_true_eq, decide_eq_false_iff_not, Bool.not_false, Bool.not_true] at *; omega)
      | (simp [retOf]; done)
      | (exfalso; simp_all; done)
set_option maxHeartbeats 1000000 in
theorem ac_ansF (nm : ByteArray) (no nd : Int) (cd : ByteArray) (x : Bool) (hx : anB nm no nd cd = x) : ACalls Tryz.prog 60 [.agg #[.string nm, .int .i64 no, .int .i64 nd, .string cd]] [] (.bool x) [] := by
  unfold anB at hx
  obtain ⟨a, ha⟩ : ∃ a, akB nm no cd = a := ⟨_, rfl⟩
  have H := ac_asks nm no cd a ha
  have HW := ac_jwithin nd 1 31
  rw [ha] at hx
  clear ha
  cases a
  · rw [Bool.false_and] at hx
    subst hx
    refine acalls_law Tryz.func60 rfl rfl rfl ?_
    repeat' first | refine st ?_ | refine st_call (H) ?_ | refine stm ?_ | refine Jb ?_ | refine run_nil ?_ | refine Jz ?_ | refine Jw ?_ | refine aw_ret ?_ | refine pp_ret ?_
    all_goals first
      | rfl
      | (exfalso; omega)
      | (rw [← hx]; refine congrArg Value.bool ?_; first | exact (decide_eq_true (by omega)).symm | exact (decide_eq_false (by omega)).symm | exact decide_eq_decide.2 (by omega))
      | (rw [← hx]; show Value.bool _ = Value.bool _; congr 1; first | exact (decide_eq_true (by omega)).symm | exact (decide_eq_false (by omega)).symm | exact decide_eq_decide.2 (by omega) | (rw [← decide_not]; exact decide_eq_decide.2 (by omega)))
      | (exfalso; simp only [Bool.not_eq_true', Bool.not_eq_false', decide_eq_true_eq, decide_eq_false_iff_not, Bool.not_false, Bool.not_true] at *; omega)
      | (simp [retOf]; done)
      | (exfalso; simp_all; done)
  · rw [Bool.true_and] at hx
    rw [hx] at HW
    refine acalls_law Tryz.func60 rfl rfl rfl ?_
    repeat' first | refine st ?_ | refine st_call (H) ?_ | refine st_call (HW) ?_ | refine stm ?_ | refine Ja ?_ | refine run_nil ?_ | refine Jz ?_ | refine Jw ?_ | refine aw_ret ?_ | refine pp_ret ?_
    all_goals first
      | rfl
      | (exfalso; omega)
      | (rw [← hx]; refine congrArg Value.bool ?_; first | exact (decide_eq_true (by omega)).symm | exact (decide_eq_false (by omega)).symm | exact decide_eq_decide.2 (by omega))
      | (rw [← hx]; show Value.bool _ = Value.bool _; congr 1; first | exact (decide_eq_true (by omega)).symm | exact (decide_eq_false (by omega)).symm | exact decide_eq_decide.2 (by omega) | (rw [← decide_not]; exact decide_eq_decide.2 (by omega)))
      | (exfalso; simp only [Bool.not_eq_true', Bool.not_eq_false', decide_eq_true_eq, decide_eq_false_iff_not, Bool.not_false, Bool.not_true] at *; omega)
      | (simp [retOf]; done)
      | (exfalso; simp_all; done)
set_option maxHeartbeats 1000000 in
theorem ac_chk1 (nm sec : ByteArray) (sj pa ep nd no tr si : Int)  (x : Bool) (hx : decide (pa = -1 ∧ nd = -1 ∧ tr = 0 ∧ ep = 0 ∧ si = 0) = x) : ACalls Tryz.prog 84 [.pointer (some ⟨0, 0, none⟩)] [some ⟨[.string nm, .string sec, .int .i64 sj, .int .i64 pa, .int .i64 ep, .int .i64 nd, .int .i64 no, .int .i64 tr, .int .i64 si], false, 1⟩] (.bool x) [none] := by
  refine acalls_law Tryz.func84 rfl rfl rfl ?_
  repeat' first | intro h1 | intro h1 | refine st ?_ | refine Ja ?_ | refine Jb ?_ | refine Jh ?_ ?_ | refine run_nil ?_ | refine Jz ?_ | refine Jw ?_ | refine aw_ret ?_ | refine pp_ret ?_
  all_goals first
    | rfl
    | (exfalso; omega)
    | (rw [← hx]; refine congrArg Value.bool ?_; first | exact (decide_eq_true (by omega)).symm | exact (decide_eq_false (by omega)).symm | exact decide_eq_decide.2 (by omega))
    | (rw [← hx]; show Value.bool _ = Value.bool _; congr 1; first | exact (decide_eq_true (by omega)).symm | exact (decide_eq_false (by omega)).symm | exact decide_eq_decide.2 (by omega) | (rw [← decide_not]; exact decide_eq_decide.2 (by omega)))
    | (exfalso; simp only [Bool.not_eq_true', Bool.not_eq_false', decide_eq_true_eq, decide_eq_false_iff_not, Bool.not_false, Bool.not_true] at *; omega)
    | (simp [retOf]; done)
    | (exfalso; simp_all; done)
set_option maxHeartbeats 1000000 in
theorem ac_chk2 (nm sec : ByteArray) (sj pa ep nd no tr si : Int) (q : Bool) (x : Bool) (hx : decide (q = true ∧ nd = -1 ∧ tr < 4) = x) : ACalls Tryz.prog 85 [.pointer (some ⟨0, 0, none⟩), .pointer (some ⟨1, 0, none⟩)] [some ⟨[.bool q], false, 1⟩, some ⟨[.string nm, .string sec, .int .i64 sj, .int .i64 pa, .int .i64 ep, .int .i64 nd, .int .i64 no, .int .i64 tr, .int .i64 si], false, 1⟩] (.bool x) [none, none] := by
  have HW := ac_jwithin nd 1 31
  cases q
  · obtain rfl : x = false := by rw [← hx]; exact decide_eq_false (by simp)
    clear hx
    refine acalls_law Tryz.func85 rfl rfl rfl ?_
    repeat' first | refine st ?_ | refine Jb ?_ | refine run_nil ?_ | refine Jz ?_ | refine Jw ?_ | refine aw_ret ?_ | refine pp_ret ?_
    all_goals first
      | rfl
      | (exfalso; omega)
      | (simp [retOf]; done)
      | (exfalso; simp_all; done)
      | (exfalso; simp only [Bool.not_eq_true', Bool.not_eq_false', decide_eq_true_eq, decide_eq_false_iff_not, Bool.not_false, Bool.not_true] at *; omega)
  simp only [true_and] at hx
  refine acalls_law Tryz.func85 rfl rfl rfl ?_
  repeat' first | intro h1 | intro h1 | refine st ?_ | refine Ja ?_ | refine Jb ?_ | refine Jh ?_ ?_ | refine run_nil ?_ | refine Jz ?_ | refine Jw ?_ | refine aw_ret ?_ | refine pp_ret ?_
  all_goals first
    | rfl
    | (exfalso; omega)
    | (rw [← hx]; refine congrArg Value.bool ?_; first | exact (decide_eq_true (by omega)).symm | exact (decide_eq_false (by omega)).symm | exact decide_eq_decide.2 (by omega))
    | (rw [← hx]; show Value.bool _ = Value.bool _; congr 1; first | exact (decide_eq_true (by omega)).symm | exact (decide_eq_false (by omega)).symm | exact decide_eq_decide.2 (by omega) | (rw [← decide_not]; exact decide_eq_decide.2 (by omega)))
    | (exfalso; simp only [Bool.not_eq_true', Bool.not_eq_false', decide_eq_true_eq, decide_eq_false_iff_not, Bool.not_false, Bool.not_true] at *; omega)
    | (simp [retOf]; done)
    | (exfalso; simp_all; done)
set_option maxHeartbeats 1000000 in
theorem ac_chk3 (nm sec : ByteArray) (sj pa ep nd no tr si : Int) (q : Bool) (x : Bool) (hx : decide (q = true ∧ nd = -1 ∧ 1 ≤ tr ∧ 1 ≤ no) = x) : ACalls Tryz.prog 86 [.pointer (some ⟨0, 0, none⟩), .pointer (some ⟨1, 0, none⟩)] [some ⟨[.bool q], false, 1⟩, some ⟨[.string nm, .string sec, .int .i64 sj, .int .i64 pa, .int .i64 ep, .int .i64 nd, .int .i64 no, .int .i64 tr, .int .i64 si], false, 1⟩] (.bool x) [none, none] := by
  have HW := ac_jwithin nd 1 31
  cases q
  · obtain rfl : x = false := by rw [← hx]; exact decide_eq_false (by simp)
    clear hx
    refine acalls_law Tryz.func86 rfl rfl rfl ?_
    repeat' first | refine st ?_ | refine Jb ?_ | refine run_nil ?_ | refine Jz ?_ | refine Jw ?_ | refine aw_ret ?_ | refine pp_ret ?_
    all_goals first
      | rfl
      | (exfalso; omega)
      | (simp [retOf]; done)
      | (exfalso; simp_all; done)
      | (exfalso; simp only [Bool.not_eq_true', Bool.not_eq_false', decide_eq_true_eq, decide_eq_false_iff_not, Bool.not_false, Bool.not_true] at *; omega)
  simp only [true_and] at hx
  refine acalls_law Tryz.func86 rfl rfl rfl ?_
  repeat' first | intro h1 | intro h1 | refine st ?_ | refine Ja ?_ | refine Jb ?_ | refine Jh ?_ ?_ | refine run_nil ?_ | refine Jz ?_ | refine Jw ?_ | refine aw_ret ?_ | refine pp_ret ?_
  all_goals first
    | rfl
    | (exfalso; omega)
    | (rw [← hx]; refine congrArg Value.bool ?_; first | exact (decide_eq_true (by omega)).symm | exact (decide_eq_false (by omega)).symm | exact decide_eq_decide.2 (by omega))
    | (rw [← hx]; show Value.bool _ = Value.bool _; congr 1; first | exact (decide_eq_true (by omega)).symm | exact (decide_eq_false (by omega)).symm | exact decide_eq_decide.2 (by omega) | (rw [← decide_not]; exact decide_eq_decide.2 (by omega)))
    | (exfalso; simp only [Bool.not_eq_true', Bool.not_eq_false', decide_eq_true_eq, decide_eq_false_iff_not, Bool.not_false, Bool.not_true] at *; omega)
    | (simp [retOf]; done)
    | (exfalso; simp_all; done)
set_option maxHeartbeats 1000000 in
theorem ac_chk4 (nm sec : ByteArray) (sj pa ep nd no tr si : Int) (q : Bool) (x : Bool) (hx : decide (q = true ∧ (1 ≤ nd ∧ nd ≤ 31) ∧ 1 ≤ no) = x) : ACalls Tryz.prog 87 [.pointer (some ⟨0, 0, none⟩), .pointer (some ⟨1, 0, none⟩)] [some ⟨[.bool q], false, 1⟩, some ⟨[.string nm, .string sec, .int .i64 sj, .int .i64 pa, .int .i64 ep, .int .i64 nd, .int .i64 no, .int .i64 tr, .int .i64 si], false, 1⟩] (.bool x) [none, none] := by
  have HW := ac_jwithin nd 1 31
  cases q
  · obtain rfl : x = false := by rw [← hx]; exact decide_eq_false (by simp)
    clear hx
    refine acalls_law Tryz.func87 rfl rfl rfl ?_
    repeat' first | refine st ?_ | refine Jb ?_ | refine run_nil ?_ | refine Jz ?_ | refine Jw ?_ | refine aw_ret ?_ | refine pp_ret ?_
    all_goals first
      | rfl
      | (exfalso; omega)
      | (simp [retOf]; done)
      | (exfalso; simp_all; done)
      | (exfalso; simp only [Bool.not_eq_true', Bool.not_eq_false', decide_eq_true_eq, decide_eq_false_iff_not, Bool.not_false, Bool.not_true] at *; omega)
  simp only [true_and] at hx
  refine acalls_law Tryz.func87 rfl rfl rfl ?_
  repeat' first | intro h1 | intro h1 | refine st ?_ | refine st_call (HW) ?_ | refine Ja ?_ | refine Jb ?_ | refine Jh ?_ ?_ | refine run_nil ?_ | refine Jz ?_ | refine Jw ?_ | refine aw_ret ?_ | refine pp_ret ?_
  all_goals first
    | rfl
    | (exfalso; omega)
    | (rw [← hx]; refine congrArg Value.bool ?_; first | exact (decide_eq_true (by omega)).symm | exact (decide_eq_false (by omega)).symm | exact decide_eq_decide.2 (by omega))
    | (rw [← hx]; show Value.bool _ = Value.bool _; congr 1; first | exact (decide_eq_true (by omega)).symm | exact (decide_eq_false (by omega)).symm | exact decide_eq_decide.2 (by omega) | (rw [← decide_not]; exact decide_eq_decide.2 (by omega)))
    | (exfalso; simp only [Bool.not_eq_true', Bool.not_eq_false', decide_eq_true_eq, decide_eq_false_iff_not, Bool.not_false, Bool.not_true] at *; omega)
    | (simp [retOf]; done)
    | (exfalso; simp_all; done)
/-- The digest of a text with a key, and the code. -/
def kyS (k d : ByteArray) : ByteArray := dig (k.size : Int) (kx k.data.toList d.data.toList)
theorem kyS_size (k d : ByteArray) : (kyS k d).size = 32 := by
  show (outB _ 8).toArray.size = 32
  simp [outB]
def cdS (k d : ByteArray) : ByteArray := (kyS k d).extract 0 8
theorem cdS_size (k d : ByteArray) : (cdS k d).size = 8 := by
  unfold cdS
  rw [ByteArray.size_extract, kyS_size]
  rfl
/-- The text of a request, of an answer. -/
def tx1 (w nm : ByteArray) (n : Int) : ByteArray := w ++ ⟨#[32]⟩ ++ nm ++ (⟨#[32]⟩ ++ decS n)
def tx2 (w nm : ByteArray) (n m : Int) : ByteArray := tx1 w nm n ++ (⟨#[32]⟩ ++ decS m)
def askW : ByteArray := ⟨#[97, 115, 107]⟩
def ansW : ByteArray := ⟨#[97, 110, 115, 119, 101, 114]⟩
/-- The code of a request, of an answer. -/
def acS (sec nm : ByteArray) (n : Int) : ByteArray := cdS sec (tx1 askW nm n)
def nsS (sec nm : ByteArray) (n m : Int) : ByteArray := cdS sec (tx2 ansW nm n m)
theorem acS_size (sec nm : ByteArray) (n : Int) : (acS sec nm n).size = 8 := cdS_size _ _
theorem nsS_size (sec nm : ByteArray) (n m : Int) : (nsS sec nm n m).size = 8 := cdS_size _ _
end Go.Proofs.YtdbcbclapipgdaaGreatDoor
