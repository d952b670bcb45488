/- Transfer: small stores, short lists, Hear of a wrong update. -/
import Derived.Test.YtjofcjogbopkjaaGreatVL
import Derived.Test.YtjofcjogbopkjaaGreatV2h
import Derived.Test.YtjofcjogbopkjaaGreatVAh
set_option linter.unusedVariables false
set_option linter.unusedSimpArgs false
namespace Go.Proofs.YtjofcjogbopkjaaGreat
open Go Av
set_option maxRecDepth 20000
theorem ac_fewA (v sz pg pk : Int) (L : List ByteArray) (n : Nat) (hn : L.length = n) (x : Bool) (hx : fewM L = x) : ACalls Tryz.prog 25 [.agg #[.int .i64 v, .int .i64 sz, .int .i64 pg, .int .i64 pk, .slice (some ⟨0, 0, none⟩) n n]] [some ⟨List.map Value.string L, false, 1⟩] (.bool x) [none] := by
  by_cases hb : n ≤ 9000000000000000000
  · exact ac_few v sz pg pk L n hn hb x hx
  · obtain rfl : x = false := by rw [← hx]; exact decide_eq_false (by omega)
    refine acalls_law Tryz.func25 rfl rfl rfl ?_
    repeat' first | refine st ?_ | refine stm ?_ | refine run_nil ?_ | refine Jz ?_ | refine Jw ?_ | refine Js ?_ | refine aw_ret ?_ | refine pp_ret ?_
    all_goals first
      | rfl
      | (exfalso; omega)
      | (exfalso; simp only [Bool.not_eq_true', Bool.not_eq_false', decide_eq_true_eq, decide_eq_false_iff_not, Bool.not_false, Bool.not_true] at *; omega)
      | (exfalso; simp_all; first | done | omega)
/-- A store is small. -/
def fewS (s : Sto) : Bool := decide (fewM s.L = true ∧ s.id.size ≤ 100 ∧ s.data.size ≤ 1000 ∧ s.P.length ≤ 70 ∧ fidx (fun q : ByteArray => decide (100 < q.size)) s.P = -1)
theorem fewS_spec {s : Sto} (h : fewS s = true) : s.L.length ≤ 70 ∧ (∀ q ∈ s.L, q.size ≤ 100) ∧ s.id.size ≤ 100 ∧ s.data.size ≤ 1000 ∧ s.P.length ≤ 70 ∧ ∀ q ∈ s.P, q.size ≤ 100 := by
  obtain ⟨h1, h2, h3, h4, h5⟩ := of_decide_eq_true h
  obtain ⟨f1, f2⟩ := fewM_spec h1
  exact ⟨f1, f2, h2, h3, h4, fun q hq => by have := all_of h5 q hq; simpa using this⟩
structure Wi where
  i : Nat
set_option maxHeartbeats 4000000 in
theorem ac_FewS (s : Sto) (n p : Nat) (hn : s.L.length = n) (hp : s.P.length = p) (x : Bool) (hx : fewS s = x) : ACalls Tryz.prog 6 [.agg #[.int .i64 s.ver, .string s.id, .bool s.kn, .int .i64 s.mv, .int .i64 s.ms, .int .i64 s.mg, .int .i64 s.mq, .slice (some ⟨0, 0, none⟩) n n, .string s.data, .int .u64 s.bits, .slice (some ⟨1, 0, none⟩) p p]] [some ⟨List.map Value.string s.L, false, 1⟩, some ⟨List.map Value.string s.P, false, 1⟩] (.bool x) [none, none] := by
  obtain ⟨w, hw⟩ : ∃ w, fewM s.L = w := ⟨_, rfl⟩
  have H := ac_fewA s.mv s.ms s.mg s.mq s.L n hn w hw
  unfold fewS at hx
  rw [hp, hw] at hx
  clear hw
  obtain ⟨ver, id, kn, mv, ms, mg, mq, L, data, bits, P⟩ := s
  dsimp only at *
  cases w
  · obtain rfl : x = false := by rw [← hx]; exact decide_eq_false (fun h => absurd h.1 (by decide))
    refine acalls_law Tryz.func6 rfl rfl rfl ?_
    repeat' first | refine st ?_ | refine stRW [0] H ?_ | refine stm ?_ | refine Jb ?_ | refine run_nil ?_ | refine Jz ?_ | refine Jw ?_ | refine Jq ?_ | refine aw_ret ?_ | refine pp_ret ?_
    all_goals first
      | rfl
      | (exfalso; omega)
      | (exfalso; simp only [Bool.not_eq_true', Bool.not_eq_false', decide_eq_true_eq, decide_eq_false_iff_not, Bool.not_false, Bool.not_true] at *; omega)
      | (exfalso; simp_all; first | done | omega)
  · by_cases h1 : id.size ≤ 100
    case neg =>
      obtain rfl : x = false := by rw [← hx]; exact decide_eq_false (fun h => absurd h.2.1 h1)
      clear hx
      refine acalls_law Tryz.func6 rfl rfl rfl ?_
      repeat' first | intro h1 | intro h1 | refine st ?_ | refine stRW [0] H ?_ | refine stm ?_ | refine Ja ?_ | refine Jb ?_ | refine Jf ?_ | refine Ji ?_ ?_ | refine run_nil ?_ | refine Jz ?_ | refine Jw ?_ | refine Jq ?_ | refine Js ?_ | refine aw_ret ?_ | refine pp_ret ?_
      all_goals first
        | rfl
        | (exfalso; omega)
        | (exfalso; simp only [Bool.not_eq_true', Bool.not_eq_false', decide_eq_true_eq, decide_eq_false_iff_not, Bool.not_false, Bool.not_true] at *; omega)
        | (exfalso; simp_all; first | done | omega)
    by_cases h2 : data.size ≤ 1000
    case neg =>
      obtain rfl : x = false := by rw [← hx]; exact decide_eq_false (fun h => absurd h.2.2.1 h2)
      clear hx
      refine acalls_law Tryz.func6 rfl rfl rfl ?_
      repeat' first | intro h1 | intro h1 | refine st ?_ | refine stRW [0] H ?_ | refine stm ?_ | refine Ja ?_ | refine Jb ?_ | refine Jf ?_ | refine Ji ?_ ?_ | refine run_nil ?_ | refine Jz ?_ | refine Jw ?_ | refine Jq ?_ | refine Js ?_ | refine aw_ret ?_ | refine pp_ret ?_
      all_goals first
        | rfl
        | (exfalso; omega)
        | (exfalso; simp only [Bool.not_eq_true', Bool.not_eq_false', decide_eq_true_eq, decide_eq_false_iff_not, Bool.not_false, Bool.not_true] at *; omega)
        | (exfalso; simp_all; first | done | omega)
    by_cases h3 : p ≤ 70
    case neg =>
      obtain rfl : x = false := by rw [← hx]; exact decide_eq_false (fun h => absurd h.2.2.2.1 h3)
      clear hx
      refine acalls_law Tryz.func6 rfl rfl rfl ?_
      repeat' first | refine st ?_ | refine stRW [0] H ?_ | refine stm ?_ | refine Ja ?_ | refine Jf ?_ | refine run_nil ?_ | refine Jz ?_ | refine Jw ?_ | refine Js ?_ | refine aw_ret ?_ | refine pp_ret ?_
      all_goals first
        | rfl
        | (exfalso; omega)
        | (exfalso; simp only [Bool.not_eq_true', Bool.not_eq_false', decide_eq_true_eq, decide_eq_false_iff_not, Bool.not_false, Bool.not_true] at *; omega)
        | (exfalso; simp_all; first | done | omega)
    have hx2 : decide (fidx (fun q : ByteArray => decide (100 < q.size)) P = -1) = x := by rw [← hx]; exact decide_eq_decide.2 ⟨fun h => ⟨rfl, h1, h2, h3, h⟩, fun h => h.2.2.2.2⟩
    clear hx
    have hx := hx2
    clear hx2
    refine acalls_law Tryz.func6 rfl rfl rfl ?_
    repeat' first | refine st ?_ | refine stRW [0] H ?_ | refine stm ?_ | refine Ja ?_ | refine Jf ?_ | refine run_nil ?_ | refine Jz ?_ | refine Jw ?_ | refine aw_block ?_ | refine Jt ?_ | refine Jy ?_
    all_goals try (exfalso; omega)
    refine aw_loopg
      (S := fun y : Wi => [(1, .pointer (some ⟨2, 0, none⟩)), (3, .int .i64 y.i)])
      (B := fun _ : Wi => [some ⟨List.map Value.string L, false, 1⟩, some ⟨List.map Value.string P, false, 1⟩, some ⟨[.int .i64 ver, .string id, .bool kn, .int .i64 mv, .int .i64 ms, .int .i64 mg, .int .i64 mq, .slice (some ⟨0, 0, none⟩) n n, .string data, .int .u64 bits, .slice (some ⟨1, 0, none⟩) p p], true, 1⟩])
      (R := fun y : Wi => y.i ≤ p ∧ ∀ (j : Nat), j < y.i → ∀ q, P[j]? = some q → (fun q : ByteArray => decide (100 < q.size)) q = false)
      (μ := fun y : Wi => p - y.i) ⟨0⟩ (fitsD [0, 1, 2]) ⟨Nat.zero_le _, fun j hj => absurd hj (Nat.not_lt_zero _)⟩ ?_
    rintro ⟨i⟩ ⟨g1, g2⟩
    dsimp only at *
    by_cases hi : i < p
    · obtain ⟨q, hq⟩ : ∃ q, P[i]? = some q := ⟨_, List.getElem?_eq_getElem (by omega)⟩
      by_cases heq : 100 < q.size
      · obtain rfl : x = false := by rw [← hx]; exact decide_eq_false fun h => fidx_ne (q := fun q : ByteArray => decide (100 < q.size)) hq (decide_eq_true heq) h
        repeat' first | refine st (h := ok_load_mapE (f := Value.string) i hq rfl rfl rfl (by omega)) ?_ | refine st ?_ | refine run_nil ?_ | refine Jz ?_ | refine Jw ?_ | refine aw_block ?_ | refine Js ?_ | refine Jy ?_ | refine aw_ret ?_ | refine pp_ret ?_
        all_goals first
          | rfl
          | (exfalso; omega)
          | (exfalso; simp only [Bool.not_eq_true', Bool.not_eq_false', decide_eq_true_eq, decide_eq_false_iff_not, Bool.not_false, Bool.not_true] at *; omega)
          | (exfalso; simp_all; first | done | omega)
      · have hst := no_step (q := fun q : ByteArray => decide (100 < q.size)) g2 hq (decide_eq_false heq)
        clear hx
        repeat' first | refine st (h := ok_load_mapE (f := Value.string) i hq rfl rfl rfl (by omega)) ?_ | refine st ?_ | refine run_nil ?_ | refine Jz ?_ | refine Jw ?_ | refine aw_block ?_ | refine Js ?_ | refine Jt ?_ | refine Jy ?_
        all_goals first | exact Exists.intro ⟨i + 1⟩ ⟨fitsD [0, 1, 2], ⟨hi, hst⟩, by dsimp only; omega⟩
    · obtain rfl : i = p := by omega
      obtain rfl : x = true := by rw [← hx]; exact decide_eq_true (fidx_no (by rw [hp]; exact g2))
      clear hx
      repeat' first | refine st ?_ | refine run_nil ?_ | refine Jz ?_ | refine Jw ?_ | refine Jt ?_ | refine aw_exit ?_ | refine aw_ret ?_ | refine pp_ret ?_
      all_goals first
        | rfl
        | (exfalso; omega)
        | (exfalso; simp only [Bool.not_eq_true', Bool.not_eq_false', decide_eq_true_eq, decide_eq_false_iff_not, Bool.not_false, Bool.not_true] at *; omega)
        | (exfalso; simp_all; first | done | omega)
/-- Updates are at most so many, and small. -/
def shB (U : List Upd) (k : Nat) : Bool := decide (U.length ≤ k ∧ fidx (fun q : Upd => decide (100 < q.id.size ∨ 4200 < q.data.size)) U = -1)
theorem shB_spec {U : List Upd} {k : Nat} (h : shB U k = true) : U.length ≤ k ∧ ∀ u ∈ U, u.id.size ≤ 100 ∧ u.data.size ≤ 4200 := by
  obtain ⟨h1, h2⟩ := of_decide_eq_true h
  exact ⟨h1, fun u hu => by have := all_of h2 u hu; have := of_decide_eq_false this; omega⟩
set_option maxHeartbeats 4000000 in
theorem ac_Short (U : List Upd) (m : Nat) (hm : U.length = m) (k : Nat) (hk : k ≤ 1000) (x : Bool) (hx : shB U k = x) : ACalls Tryz.prog 7 [.slice (some ⟨0, 0, none⟩) m m, .int .i64 k] [some ⟨U.flatMap updC, false, 7⟩] (.bool x) [none] := by
  unfold shB at hx
  rw [hm] at hx
  by_cases h1 : m ≤ k
  case neg =>
    obtain rfl : x = false := by rw [← hx]; exact decide_eq_false (fun h => absurd h.1 h1)
    clear hx
    refine acalls_law Tryz.func7 rfl rfl rfl ?_
    repeat' first | refine st ?_ | refine run_nil ?_ | refine Jz ?_ | refine Jw ?_ | refine Js ?_ | refine aw_ret ?_ | refine pp_ret ?_
    all_goals first
      | rfl
      | (exfalso; omega)
      | (exfalso; simp only [Bool.not_eq_true', Bool.not_eq_false', decide_eq_true_eq, decide_eq_false_iff_not, Bool.not_false, Bool.not_true] at *; omega)
      | (exfalso; simp_all; first | done | omega)
  have hx2 : decide (fidx (fun q : Upd => decide (100 < q.id.size ∨ 4200 < q.data.size)) U = -1) = x := by rw [← hx]; exact decide_eq_decide.2 ⟨fun h => ⟨h1, h⟩, fun h => h.2⟩
  clear hx
  have hx := hx2
  clear hx2
  refine acalls_law Tryz.func7 rfl rfl rfl ?_
  repeat' first | refine st ?_ | refine run_nil ?_ | refine Jz ?_ | refine Jw ?_ | refine aw_block ?_ | refine Jt ?_ | refine Jy ?_
  all_goals try (exfalso; omega)
  refine aw_loopg
    (S := fun y : Wi => [(0, .slice (some ⟨0, 0, none⟩) m m), (5, .int .i64 y.i)])
    (B := fun _ : Wi => [some ⟨U.flatMap updC, false, 7⟩])
    (R := fun y : Wi => y.i ≤ m ∧ ∀ (j : Nat), j < y.i → ∀ q, U[j]? = some q → (fun q : Upd => decide (100 < q.id.size ∨ 4200 < q.data.size)) q = false)
    (μ := fun y : Wi => m - y.i) ⟨0⟩ (fitsD [0]) ⟨Nat.zero_le _, fun j hj => absurd hj (Nat.not_lt_zero _)⟩ ?_
  rintro ⟨i⟩ ⟨g1, g2⟩
  dsimp only at *
  by_cases hi : i < m
  · obtain ⟨⟨uk, uv, ui, up, ut, ub, ud⟩, hq⟩ : ∃ q, U[i]? = some q := ⟨_, List.getElem?_eq_getElem (by omega)⟩
    by_cases e1 : 100 < ui.size
    · obtain rfl : x = false := by rw [← hx]; exact decide_eq_false fun h => fidx_ne (q := (fun q : Upd => decide (100 < q.id.size ∨ 4200 < q.data.size))) hq (decide_eq_true (.inl e1)) h
      clear hx
      repeat' first | intro h1 | intro h1 | refine st (v := .string ui) (h := ok_load_rowcellE (f := updC) (n := 7) i 2 (fun _ => rfl) hq rfl (by omega) rfl rfl rfl (by omega)) ?_ | refine st ?_ | refine Ja ?_ | refine Jb ?_ | refine Ji ?_ ?_ | refine run_nil ?_ | refine Jz ?_ | refine Jw ?_ | refine aw_block ?_ | refine Jq ?_ | refine Js ?_ | refine Jy ?_ | refine aw_ret ?_ | refine pp_ret ?_
      all_goals first
        | rfl
        | (exfalso; omega)
        | (exfalso; simp only [Bool.not_eq_true', Bool.not_eq_false', decide_eq_true_eq, decide_eq_false_iff_not, Bool.not_false, Bool.not_true] at *; omega)
        | (exfalso; simp_all; first | done | omega)
    by_cases e2 : 4200 < ud.size
    · obtain rfl : x = false := by rw [← hx]; exact decide_eq_false fun h => fidx_ne (q := (fun q : Upd => decide (100 < q.id.size ∨ 4200 < q.data.size))) hq (decide_eq_true (.inr e2)) h
      clear hx
      repeat' first | refine st (v := .string ui) (h := ok_load_rowcellE (f := updC) (n := 7) i 2 (fun _ => rfl) hq rfl (by omega) rfl rfl rfl (by omega)) ?_ | refine st (v := .string ud) (h := ok_load_rowcellE (f := updC) (n := 7) i 6 (fun _ => rfl) hq rfl (by omega) rfl rfl rfl (by omega)) ?_ | refine st ?_ | refine Ja ?_ | refine Jf ?_ | refine run_nil ?_ | refine Jz ?_ | refine Jw ?_ | refine aw_block ?_ | refine Js ?_ | refine Jy ?_ | refine aw_ret ?_ | refine pp_ret ?_
      all_goals first
        | rfl
        | (exfalso; omega)
        | (exfalso; simp only [Bool.not_eq_true', Bool.not_eq_false', decide_eq_true_eq, decide_eq_false_iff_not, Bool.not_false, Bool.not_true] at *; omega)
        | (exfalso; simp_all; first | done | omega)
    have hst := no_step (q := (fun q : Upd => decide (100 < q.id.size ∨ 4200 < q.data.size))) g2 hq (decide_eq_false (by dsimp only; omega))
    clear hx
    repeat' first | refine st (v := .string ui) (h := ok_load_rowcellE (f := updC) (n := 7) i 2 (fun _ => rfl) hq rfl (by omega) rfl rfl rfl (by omega)) ?_ | refine st (v := .string ud) (h := ok_load_rowcellE (f := updC) (n := 7) i 6 (fun _ => rfl) hq rfl (by omega) rfl rfl rfl (by omega)) ?_ | refine st ?_ | refine Ja ?_ | refine Jf ?_ | refine run_nil ?_ | refine Jz ?_ | refine Jw ?_ | refine aw_block ?_ | refine Js ?_ | refine Jt ?_ | refine Jy ?_
    all_goals first | exact Exists.intro ⟨i + 1⟩ ⟨fitsD [0], ⟨hi, hst⟩, by dsimp only; omega⟩
  · obtain rfl : i = m := by omega
    obtain rfl : x = true := by rw [← hx]; exact decide_eq_true (fidx_no (by rw [hm]; exact g2))
    clear hx
    repeat' first | refine st ?_ | refine run_nil ?_ | refine Jz ?_ | refine Jw ?_ | refine Jt ?_ | refine aw_exit ?_ | refine aw_ret ?_ | refine pp_ret ?_
    all_goals first
      | rfl
      | (exfalso; omega)
      | (exfalso; simp only [Bool.not_eq_true', Bool.not_eq_false', decide_eq_true_eq, decide_eq_false_iff_not, Bool.not_false, Bool.not_true] at *; omega)
      | (exfalso; simp_all; first | done | omega)
/-- Hear, of a wrong update. -/
theorem ac_HearX (s : Sto) (n p : Nat) (hn : s.L.length = n) (hp : s.P.length = p) (hb : n ≤ 1000000 ∧ p ≤ 1000000) (hbits : s.bits < 18446744073709551616) (hd : s.data.size ≤ 1000000) (hc : chS s = true) (uk uv : Int) (ui : ByteArray) (up ut : Int) (ub : Nat) (ud : ByteArray) (hu : valU uk uv ui up ut ub ud = false) : ACalls Tryz.prog 9 [.agg #[.int .i64 s.ver, .string s.id, .bool s.kn, .int .i64 s.mv, .int .i64 s.ms, .int .i64 s.mg, .int .i64 s.mq, .slice (some ⟨0, 0, none⟩) n n, .string s.data, .int .u64 s.bits, .slice (some ⟨1, 0, none⟩) p p], .agg #[.int .i64 uk, .int .i64 uv, .string ui, .int .i64 up, .int .i64 ut, .int .u64 ub, .string ud]] [some ⟨List.map Value.string s.L, false, 1⟩, some ⟨List.map Value.string s.P, false, 1⟩] (.tuple #[.agg #[.int .i64 0, .string ⟨#[]⟩, .bool false, .int .i64 0, .int .i64 0, .int .i64 0, .int .i64 0, .slice none 0 0, .string ⟨#[]⟩, .int .u64 0, .slice none 0 0], .bool false, .int .i64 1]) [none, none] := by
  have H0 := ac_check s n p hn hp hb hbits hd _ hc
  have H1 := ac_valid uk uv ui up ut ub ud _ hu
  clear hc hu hbits
  obtain ⟨ver, id, kn, mv, ms, mg, mq, L, data, bits, P⟩ := s
  dsimp only at *
  refine acalls_law Tryz.func9 rfl rfl rfl ?_
  repeat' first | refine st ?_ | refine stRW [0, 1] H0 ?_ | refine st_call (H1) ?_ | refine stm ?_ | refine Ja ?_ | refine run_nil ?_ | refine Jz ?_ | refine Jw ?_ | refine Jq ?_ | refine aw_ret ?_ | refine pp_ret ?_
  all_goals first
    | rfl
    | (exfalso; omega)
    | (simp [retOf]; done)
    | (exfalso; simp_all; done)
theorem chS_bd {s : Sto} (h : chS s = true) : s.L.length ≤ 64 ∧ s.P.length ≤ 64 ∧ s.data.size ≤ 65536 ∧ s.bits < 18446744073709551616 := by
  have hno : ∀ {mv ms mg mq : Int} {n : Nat}, noM mv ms mg mq n = true → n = 0 := fun h => (of_decide_eq_true h).2.2.2.2
  rcases chS_spec h with h | ⟨_, _, h1, h2⟩
  · obtain ⟨_, _, _, h4, h5, h6, h7⟩ := of_decide_eq_true h
    have := hno h4
    omega
  · cases hk : s.kn with
    | false =>
      obtain ⟨h4, h5, h6, h7⟩ := of_decide_eq_true (h2 hk)
      have := hno h4
      omega
    | true =>
      obtain ⟨r1, r2, r3, r4, k, r5, r6, r7, r8, r9, r10, r11, r12, r13⟩ := knB_spec rfl rfl (h1 hk)
      rcases Nat.lt_or_ge k s.L.length with hl | hl
      · obtain ⟨_, ho⟩ := r9 hl
        obtain ⟨o1, o2, _⟩ := of_decide_eq_true ho
        obtain ⟨K, k1, k2, k3, _⟩ := page_fc (i := k) rfl r1 hl
        have hle : 2 ^ s.P.length ≤ 2 ^ 64 := Nat.pow_le_pow_right (by decide) (by omega)
        have e64 : (2 : Nat) ^ 64 = 18446744073709551616 := by decide
        omega
      · have := r8 (by omega)
        omega
end Go.Proofs.YtjofcjogbopkjaaGreat
