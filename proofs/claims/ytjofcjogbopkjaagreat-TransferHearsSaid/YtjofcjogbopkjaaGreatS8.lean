/- Image: bytes of manifests, identifiers. Image: pages verified. -/
import Derived.Test.YtjofcjogbopkjaaGreatVL
import Derived.Test.YtjofcjogbopkjaaGreatS5
set_option linter.unusedVariables false
set_option linter.unusedSimpArgs false
namespace Go.Proofs.YtjofcjogbopkjaaGreat
open Go Av
set_option maxRecDepth 20000
/-- The bytes of a manifest. -/
def encS (v sz pg pk : Int) (L : List ByteArray) : ByteArray := numS [(2, v), (4, sz), (2, pg), (1, pk)] ++ joinS L
def enE (c : Int) (s : ByteArray) : ByteArray := if c ≠ 0 then ⟨#[]⟩ else s
theorem numS_size4 (a b c d : Int) : (numS [(2, a), (4, b), (2, c), (1, d)]).size = 9 := by show (numL [(2, a), (4, b), (2, c), (1, d)]).toArray.size = 9; simp [numL, beL_len]
theorem num4_ref (v sz pg pk : Int) : beS 2 v ++ beS 4 sz ++ beS 2 pg ++ beS 1 pk = numS [(2, v), (4, sz), (2, pg), (1, pk)] := by
  apply ByteArray.ext
  simp [ByteArray.data_append, beS, numS, numL]
theorem join_succ {L : List ByteArray} {i : Nat} {q : ByteArray} (h : L[i]? = some q) : joinS (L.take (i + 1)) = joinS (L.take i) ++ q := by
  apply ByteArray.ext
  rw [List.take_add_one, h]
  simp [ByteArray.data_append, joinS]
theorem join_size (L : List ByteArray) : (joinS L).size = (L.flatMap fun s => s.data.toList).length := by
  show (L.flatMap fun s => s.data.toList).toArray.size = _; simp
theorem flat_32 : ∀ L : List ByteArray, (∀ s ∈ L, s.size = 32) → (L.flatMap fun s => s.data.toList).length = 32 * L.length
  | [], _ => rfl
  | s :: L, h => by
    have h1 : s.data.toList.length = 32 := by have := h s (by simp); rw [Array.length_toList]; exact this
    have h2 := flat_32 L fun t ht => h t (by simp [ht])
    rw [List.flatMap_cons, List.length_append, h1, h2, List.length_cons]
    omega
theorem encS_size {v sz pg pk : Int} {L : List ByteArray} (h : ∀ s ∈ L, s.size = 32) : (encS v sz pg pk L).size = 9 + 32 * L.length := by
  unfold encS
  rw [ByteArray.size_append, numS_size4, join_size, flat_32 L h]
theorem ac_encode (v sz pg pk : Int) (L : List ByteArray) (n : Nat) (hn : L.length = n) (hb : n ≤ 1000) (h32 : ∀ s ∈ L, s.size = 32) (S : ByteArray) (hS : encS v sz pg pk L = S) : ACalls Tryz.prog 63 [.agg #[.int .i64 v, .int .i64 sz, .int .i64 pg, .int .i64 pk, .slice (some ⟨0, 0, none⟩) n n]] [some ⟨List.map Value.string L, false, 1⟩] (.string S) [none] := by
  have hj := flat_32 L h32
  have H1 := ac_number4 v sz pg pk
  have H2 := ac_join L n hn (by omega) (by omega)
  have hs1 := numS_size4 v sz pg pk
  have hs2 := join_size L
  rw [hj, hn] at hs2
  unfold encS at hS
  generalize numS [(2, v), (4, sz), (2, pg), (1, pk)] = q at H1 hS hs1
  generalize joinS L = j at H2 hS hs2
  subst hS
  refine acalls_law Tryz.func63 rfl rfl rfl ?_
  repeat' first | refine sd (h := ok_str_add rfl rfl (by omega)) ?_ | refine st ?_ | refine sdRW [0] H2 ?_ | refine sdRW [2] H1 ?_ | refine stm ?_ | refine run_nil ?_ | refine sd ?_ | refine sdl ?_ | refine sdm (n := 1) ?_ | refine rund_nil ?_ | refine Jz ?_ | refine Jw ?_ | refine Jx (id := 1) [0,1,0,4,0,16,0,64,255,511,0,1024,4095,8191,16383] 15 ?_ | refine aw_ret ?_ | refine pp_ret ?_
  all_goals first
    | rfl
    | (exfalso; omega)
    | (exfalso; simp only [Bool.not_eq_true', Bool.not_eq_false', decide_eq_true_eq, decide_eq_false_iff_not, Bool.not_false, Bool.not_true] at *; omega)
    | (exfalso; simp_all; first | done | omega)
theorem ac_Encode (v sz pg pk : Int) (L : List ByteArray) (n : Nat) (hn : L.length = n) (hb : n ≤ 9000000000000000000) (c : Int) (hc : chkM v sz pg pk L = c) (S : ByteArray) (hS : enE c (encS v sz pg pk L) = S) : ACalls Tryz.prog 53 [.agg #[.int .i64 v, .int .i64 sz, .int .i64 pg, .int .i64 pk, .slice (some ⟨0, 0, none⟩) n n]] [some ⟨List.map Value.string L, false, 1⟩] (.tuple #[.string S, .int .i64 c]) [none] := by
  have H1 := ac_mcheck v sz pg pk L n hn hb c hc
  unfold enE at hS
  by_cases h1 : c ≠ 0
  · rw [if_pos h1] at hS
    subst hS
    clear hc
    refine acalls_law Tryz.func53 rfl rfl rfl ?_
    repeat' first | refine st ?_ | refine stRW [0] H1 ?_ | refine stm ?_ | refine run_nil ?_ | refine Jz ?_ | refine Jw ?_ | refine Js ?_ | refine aw_ret ?_ | refine pp_ret ?_
    all_goals first
      | rfl
      | (exfalso; omega)
      | (exfalso; simp only [Bool.not_eq_true', Bool.not_eq_false', decide_eq_true_eq, decide_eq_false_iff_not, Bool.not_false, Bool.not_true] at *; omega)
      | (exfalso; simp_all; first | done | omega)
  · obtain rfl : c = 0 := Decidable.not_not.1 h1
    rw [if_neg h1] at hS
    obtain ⟨q1, q2, q3, q4, q5⟩ := chk_ok hc
    have H2 := ac_encode v sz pg pk L n hn (by omega) q5 S hS
    clear hc hS q4 q5 q1
    refine acalls_law Tryz.func53 rfl rfl rfl ?_
    repeat' first | refine st ?_ | refine stRW [0] H1 ?_ | refine stRW [0] H2 ?_ | refine stm ?_ | refine run_nil ?_ | refine Jz ?_ | refine Jw ?_ | refine Jr ?_ | refine Jy ?_ | refine aw_ret ?_ | refine pp_ret ?_
    all_goals first
      | rfl
      | (exfalso; omega)
      | (exfalso; simp only [Bool.not_eq_true', Bool.not_eq_false', decide_eq_true_eq, decide_eq_false_iff_not, Bool.not_false, Bool.not_true] at *; omega)
      | (exfalso; simp_all; first | done | omega)
structure Eg where
  i : Nat
  S : ByteArray
set_option maxHeartbeats 4000000 in
theorem ac_rEncode (v sz pg pk : Int) (L : List ByteArray) (n : Nat) (hn : L.length = n) (hb : n ≤ 9000000000000000000) (c : Int) (hc : chkM v sz pg pk L = c) (S : ByteArray) (hS : enE c (encS v sz pg pk L) = S) : ACalls Tryz.prog 68 [.agg #[.int .i64 v, .int .i64 sz, .int .i64 pg, .int .i64 pk, .slice (some ⟨0, 0, none⟩) n n]] [some ⟨List.map Value.string L, false, 1⟩] (.tuple #[.string S, .int .i64 c]) [none] := by
  have H1 := ac_rmcheck v sz pg pk L n hn hb c hc
  unfold enE at hS
  by_cases h1 : c ≠ 0
  · rw [if_pos h1] at hS
    subst hS
    obtain rfl : c = 1 := (chk_01 v sz pg pk L).elim (fun h => absurd (hc.symm.trans h) h1) fun h => hc.symm.trans h
    clear hc
    refine acalls_law Tryz.func68 rfl rfl rfl ?_
    repeat' first | refine st ?_ | refine stRW [0] H1 ?_ | refine stm ?_ | refine run_nil ?_ | refine Jz ?_ | refine Jw ?_ | refine Jq ?_ | refine aw_ret ?_ | refine pp_ret ?_
    all_goals first
      | rfl
      | (exfalso; omega)
      | (exfalso; simp only [Bool.not_eq_true', Bool.not_eq_false', decide_eq_true_eq, decide_eq_false_iff_not, Bool.not_false, Bool.not_true] at *; omega)
      | (exfalso; simp_all; first | done | omega)
  · obtain rfl : c = 0 := Decidable.not_not.1 h1
    rw [if_neg h1] at hS
    obtain ⟨q1, q2, q3, q4, q5⟩ := chk_ok hc
    have H2 := ac_bytes 2 (by omega) v
    have H3 := ac_bytes 4 (by omega) sz
    have H4 := ac_bytes 2 (by omega) pg
    have H5 := ac_bytes 1 (by omega) pk
    have s2 := beS_size 2 v
    have s3 := beS_size 4 sz
    have s4 := beS_size 2 pg
    have s5 := beS_size 1 pk
    unfold encS at hS
    have hs1 := numS_size4 v sz pg pk
    rw [← num4_ref] at hS hs1
    generalize beS 2 v = w2 at H2 s2 hS hs1
    generalize beS 4 sz = w3 at H3 s3 hS hs1
    generalize beS 2 pg = w4 at H4 s4 hS hs1
    generalize beS 1 pk = w5 at H5 s5 hS hs1
    clear hc q4 q1
    refine acalls_law Tryz.func68 rfl rfl rfl ?_
    repeat' first | refine sd (h := ok_str_add rfl rfl (by first | omega | (simp only [ByteArray.size_append]; omega))) ?_ | refine st ?_ | refine stRW [0] H1 ?_ | refine sd_call (H2) ?_ | refine sd_call (H3) ?_ | refine sd_call (H4) ?_ | refine sd_call (H5) ?_ | refine stm ?_ | refine run_nil ?_ | refine sd ?_ | refine sdl ?_ | refine rund_nil ?_ | refine Jz ?_ | refine Jw ?_ | refine Jx (id := 3) [0,1,3,0,8,31,63,0,128,447,1023,0,2048,7103,16383,32767] 16 ?_ | refine aw_block ?_ | refine Jr ?_ | refine Jy ?_
    clear H1 H2 H3 H4 H5
    generalize hw : w2 ++ w3 ++ w4 ++ w5 = W at hS hs1
    refine aw_loopg
      (S := fun y : Eg => [(1, .pointer (some ⟨1, 0, none⟩)), (4, .string y.S), (5, .int .i64 y.i)])
      (B := fun _ : Eg => [some ⟨List.map Value.string L, false, 1⟩, some ⟨[.int .i64 v, .int .i64 sz, .int .i64 pg, .int .i64 pk, .slice (some ⟨0, 0, none⟩) n n], true, 1⟩])
      (R := fun y : Eg => y.i ≤ n ∧ y.S = W ++ joinS (L.take y.i))
      (μ := fun y : Eg => n - y.i) ⟨0, W⟩ (by rw [← hw]; exact fitsD [0, 1]) ⟨Nat.zero_le _, by dsimp only; apply ByteArray.ext; simp [joinS, ByteArray.data_append]⟩ ?_
    rintro ⟨i, T⟩ ⟨g1, g2⟩
    dsimp only at *
    by_cases hi : i < n
    · obtain ⟨q, hq⟩ : ∃ q, L[i]? = some q := ⟨_, List.getElem?_eq_getElem (by omega)⟩
      have hq32 := q5 q (List.mem_of_getElem? hq)
      have hT : T.size = 9 + 32 * i := by
        rw [g2, ByteArray.size_append, hs1, join_size, flat_32 (L.take i) fun s hs => q5 s (List.mem_of_mem_take hs), List.length_take]
        omega
      repeat' first | refine st (h := ok_load_mapE (f := Value.string) i hq rfl rfl rfl (by omega)) ?_ | refine st (h := ok_str_add rfl rfl (by omega)) ?_ | refine st ?_ | refine run_nil ?_ | refine Jz ?_ | refine Jw ?_ | refine aw_block ?_ | refine Js ?_ | refine Jy ?_
      all_goals first | exact Exists.intro ⟨i + 1, _⟩ ⟨fitsD [0, 1], ⟨hi, by dsimp only; rw [g2, join_succ hq, ByteArray.append_assoc]⟩, by dsimp only; omega⟩
    · obtain rfl : i = n := by omega
      rw [List.take_of_length_le (by omega), hS] at g2
      subst g2
      repeat' first | refine st ?_ | refine run_nil ?_ | refine Jz ?_ | refine Jw ?_ | refine Jt ?_ | refine aw_exit ?_ | refine aw_ret ?_ | refine pp_ret ?_
      all_goals first
        | rfl
        | (exfalso; omega)
        | (exfalso; simp only [Bool.not_eq_true', Bool.not_eq_false', decide_eq_true_eq, decide_eq_false_iff_not, Bool.not_false, Bool.not_true] at *; omega)
        | (exfalso; simp_all; first | done | omega)
/-- The identifier of a manifest. -/
def idB (s : ByteArray) : ByteArray := ⟨#[105, 109, 97, 103, 101]⟩ ++ s
def idS (c : Int) (s : ByteArray) : ByteArray := if c ≠ 0 then ⟨#[]⟩ else dig 0 (idB s).data.toList
theorem idB_size (s : ByteArray) : (idB s).size = 5 + s.size := by unfold idB; rw [ByteArray.size_append]; rfl
theorem ac_ID (v sz pg pk : Int) (L : List ByteArray) (n : Nat) (hn : L.length = n) (hb : n ≤ 9000000000000000000) (c : Int) (hc : chkM v sz pg pk L = c) (S : ByteArray) (hS : idS c (encS v sz pg pk L) = S) : ACalls Tryz.prog 33 [.agg #[.int .i64 v, .int .i64 sz, .int .i64 pg, .int .i64 pk, .slice (some ⟨0, 0, none⟩) n n]] [some ⟨List.map Value.string L, false, 1⟩] (.tuple #[.string S, .int .i64 c]) [none] := by
  have H1 := ac_mcheck v sz pg pk L n hn hb c hc
  unfold idS at hS
  by_cases h1 : c ≠ 0
  · rw [if_pos h1] at hS
    subst hS
    clear hc
    refine acalls_law Tryz.func33 rfl rfl rfl ?_
    repeat' first | refine st ?_ | refine stRW [0] H1 ?_ | refine stm ?_ | refine run_nil ?_ | refine Jz ?_ | refine Jw ?_ | refine Js ?_ | refine aw_ret ?_ | refine pp_ret ?_
    all_goals first
      | rfl
      | (exfalso; omega)
      | (exfalso; simp only [Bool.not_eq_true', Bool.not_eq_false', decide_eq_true_eq, decide_eq_false_iff_not, Bool.not_false, Bool.not_true] at *; omega)
      | (exfalso; simp_all; first | done | omega)
  · obtain rfl : c = 0 := Decidable.not_not.1 h1
    rw [if_neg h1] at hS
    obtain ⟨q1, q2, q3, q4, q5⟩ := chk_ok hc
    have hs := encS_size (v := v) (sz := sz) (pg := pg) (pk := pk) q5
    have H2 := ac_encode v sz pg pk L n hn (by omega) q5 _ rfl
    generalize encS v sz pg pk L = w at H2 hS hs
    have hs2 := idB_size w
    have H3 := ac_Sum (idB w) (by omega)
    rw [hS] at H3
    unfold idB at H3
    clear hc hS q4 q5 q1
    refine acalls_law Tryz.func33 rfl rfl rfl ?_
    repeat' first | refine st (h := ok_str_add rfl rfl (by show 5 + w.size ≤ _; omega)) ?_ | refine st ?_ | refine stRW [0] H1 ?_ | refine stRW [0] H2 ?_ | refine st_call (H3) ?_ | refine stm ?_ | refine run_nil ?_ | refine Jz ?_ | refine Jw ?_ | refine Jr ?_ | refine Jy ?_ | refine aw_ret ?_ | refine pp_ret ?_
    all_goals first
      | rfl
      | (exfalso; omega)
      | (exfalso; simp only [Bool.not_eq_true', Bool.not_eq_false', decide_eq_true_eq, decide_eq_false_iff_not, Bool.not_false, Bool.not_true] at *; omega)
      | (exfalso; simp_all; first | done | omega)
theorem ac_rID (v sz pg pk : Int) (L : List ByteArray) (n : Nat) (hn : L.length = n) (hb : n ≤ 9000000000000000000) (c : Int) (hc : chkM v sz pg pk L = c) (S : ByteArray) (hS : idS c (encS v sz pg pk L) = S) : ACalls Tryz.prog 38 [.agg #[.int .i64 v, .int .i64 sz, .int .i64 pg, .int .i64 pk, .slice (some ⟨0, 0, none⟩) n n]] [some ⟨List.map Value.string L, false, 1⟩] (.tuple #[.string S, .int .i64 c]) [none] := by
  have H1 := ac_rEncode v sz pg pk L n hn hb c hc _ rfl
  unfold idS at hS
  unfold enE at H1
  by_cases h1 : c ≠ 0
  · rw [if_pos h1] at hS H1
    subst hS
    clear hc
    refine acalls_law Tryz.func38 rfl rfl rfl ?_
    repeat' first | refine st ?_ | refine stRW [0] H1 ?_ | refine stm ?_ | refine run_nil ?_ | refine Jz ?_ | refine Jw ?_ | refine Js ?_ | refine aw_ret ?_ | refine pp_ret ?_
    all_goals first
      | rfl
      | (exfalso; omega)
      | (exfalso; simp only [Bool.not_eq_true', Bool.not_eq_false', decide_eq_true_eq, decide_eq_false_iff_not, Bool.not_false, Bool.not_true] at *; omega)
      | (exfalso; simp_all; first | done | omega)
  · obtain rfl : c = 0 := Decidable.not_not.1 h1
    rw [if_neg h1] at hS H1
    obtain ⟨q1, q2, q3, q4, q5⟩ := chk_ok hc
    have hs := encS_size (v := v) (sz := sz) (pg := pg) (pk := pk) q5
    generalize encS v sz pg pk L = w at H1 hS hs
    have hs2 := idB_size w
    have H3 := ac_rSum (idB w) (by omega)
    rw [hS] at H3
    unfold idB at H3
    clear hc hS q4 q5 q1
    refine acalls_law Tryz.func38 rfl rfl rfl ?_
    repeat' first | refine st (h := ok_str_add rfl rfl (by show 5 + w.size ≤ _; omega)) ?_ | refine st ?_ | refine stRW [0] H1 ?_ | refine st_call (H3) ?_ | refine stm ?_ | refine run_nil ?_ | refine Jz ?_ | refine Jw ?_ | refine Jr ?_ | refine Jy ?_ | refine aw_ret ?_ | refine pp_ret ?_
    all_goals first
      | rfl
      | (exfalso; omega)
      | (exfalso; simp only [Bool.not_eq_true', Bool.not_eq_false', decide_eq_true_eq, decide_eq_false_iff_not, Bool.not_false, Bool.not_true] at *; omega)
      | (exfalso; simp_all; first | done | omega)
end Go.Proofs.YtjofcjogbopkjaaGreat
namespace Go.Proofs.YtjofcjogbopkjaaGreat
open Go Av
set_option maxRecDepth 20000
/-- The error of the data of a page. -/
def vfE (v sz pg e i : Int) (L : List ByteArray) (d : ByteArray) : Int := if e ≠ 0 then e else if (d.size : Int) ≠ lenM sz pg i then 11 else if some (dgS v i d) ≠ L[i.toNat]? then 20 else 0
set_option maxHeartbeats 8000000 in
theorem ac_verify (v sz pg pk i : Int) (L : List ByteArray) (n : Nat) (hn : L.length = n) (hb : n ≤ 9000000000000000000) (d : ByteArray) (hd : d.size ≤ 9000000000000000000) (c : Int) (hc : chkM v sz pg pk L = c) (e : Int) (he : pgE c n i = e) (y : Int) (hy : vfE v sz pg e i L d = y) : ACalls Tryz.prog 65 [.agg #[.int .i64 v, .int .i64 sz, .int .i64 pg, .int .i64 pk, .slice (some ⟨0, 0, none⟩) n n], .int .i64 i, .string d] [some ⟨List.map Value.string L, false, 1⟩] (.int .i64 y) [none] := by
  have H1 := ac_page v sz pg pk i L n hn hb c hc e he
  unfold vfE at hy
  by_cases h1 : e ≠ 0
  · rw [if_pos h1] at hy
    subst hy
    clear hc he
    refine acalls_law Tryz.func65 rfl rfl rfl ?_
    repeat' first | refine st ?_ | refine stRW [0] H1 ?_ | refine stm ?_ | refine run_nil ?_ | refine Jz ?_ | refine Jw ?_ | refine Js ?_ | refine aw_ret ?_ | refine pp_ret ?_
    all_goals first
      | rfl
      | (exfalso; omega)
      | (exfalso; simp only [Bool.not_eq_true', Bool.not_eq_false', decide_eq_true_eq, decide_eq_false_iff_not, Bool.not_false, Bool.not_true] at *; omega)
      | (exfalso; simp_all; first | done | omega)
  · rw [if_neg h1] at hy
    obtain rfl : e = 0 := Decidable.not_not.1 h1
    have h2 : c = 0 ∧ 0 ≤ i ∧ i < n := by
      unfold pgE at he
      split at he
      · omega
      · split at he
        · omega
        · omega
    obtain ⟨rfl, h3, h4⟩ := h2
    obtain ⟨k1, k2, k3, k4, k5⟩ := page_bd hc h3 (by rw [hn]; exact h4)
    obtain ⟨q1, q2, q3, q4, q5⟩ := chk_ok hc
    have q6 := siz_bd q1
    obtain ⟨l, hl⟩ : ∃ l, lenM sz pg i = l := ⟨_, rfl⟩
    have H2 := ac_size v sz pg pk i n L (by omega) (by omega) (by omega) l hl
    rw [hl] at hy k3 k4 k5
    obtain ⟨j, rfl⟩ : ∃ j : Nat, i = j := ⟨i.toNat, by omega⟩
    by_cases h5 : (d.size : Int) ≠ l
    · rw [if_pos h5] at hy
      subst hy
      clear hc he hl
      refine acalls_law Tryz.func65 rfl rfl rfl ?_
      repeat' first | refine st ?_ | refine stRW [0] H1 ?_ | refine stRW [0] H2 ?_ | refine stm ?_ | refine run_nil ?_ | refine Jz ?_ | refine Jw ?_ | refine aw_block ?_ | refine Jr ?_ | refine Js ?_ | refine Jy ?_ | refine aw_ret ?_ | refine pp_ret ?_
      all_goals first
        | rfl
        | (exfalso; omega)
        | (exfalso; simp only [Bool.not_eq_true', Bool.not_eq_false', decide_eq_true_eq, decide_eq_false_iff_not, Bool.not_false, Bool.not_true] at *; omega)
        | (exfalso; simp_all; first | done | omega)
    · rw [if_neg h5] at hy
      obtain ⟨q, hq⟩ : ∃ q, L[j]? = some q := ⟨_, List.getElem?_eq_getElem (by omega)⟩
      rw [show ((j : Int)).toNat = j from Int.toNat_natCast j, hq] at hy
      obtain ⟨S, hS⟩ : ∃ S, dgS v j d = S := ⟨_, rfl⟩
      have H3 := ac_isum v j d (by omega) S hS
      rw [hS] at hy
      clear hS hc he hl
      by_cases h6 : S = q
      · subst h6
        rw [if_neg (by simp)] at hy
        subst hy
        refine acalls_law Tryz.func65 rfl rfl rfl ?_
        repeat' first | refine sdl (h := ok_load_mapE (f := Value.string) j hq rfl rfl rfl (by omega)) ?_ | refine sd (h := ok_str_neqF rfl rfl) ?_ | refine st ?_ | refine stRW [0] H1 ?_ | refine stRW [0] H2 ?_ | refine sd_call (H3) ?_ | refine stm ?_ | refine run_nil ?_ | refine sd ?_ | refine sdl ?_ | refine rund_nil ?_ | refine Jz ?_ | refine Jw ?_ | refine Jx (id := 6) [0,1,0,0,15,0,32,0,224,480,1023,2047] 12 ?_ | refine aw_block ?_ | refine Jr ?_ | refine Jt ?_ | refine Jy ?_ | refine aw_ret ?_ | refine pp_ret ?_
        all_goals first
          | rfl
          | (exfalso; omega)
          | (exfalso; simp only [Bool.not_eq_true', Bool.not_eq_false', decide_eq_true_eq, decide_eq_false_iff_not, Bool.not_false, Bool.not_true] at *; omega)
          | (exfalso; simp_all; first | done | omega)
      · rw [if_pos (by simpa using h6)] at hy
        subst hy
        refine acalls_law Tryz.func65 rfl rfl rfl ?_
        repeat' first | refine sdl (h := ok_load_mapE (f := Value.string) j hq rfl rfl rfl (by omega)) ?_ | refine sd (h := ok_str_neq rfl rfl) ?_ | refine st ?_ | refine stRW [0] H1 ?_ | refine stRW [0] H2 ?_ | refine sd_call (H3) ?_ | refine stm ?_ | refine run_nil ?_ | refine sd ?_ | refine sdl ?_ | refine rund_nil ?_ | refine Jz ?_ | refine Jw ?_ | refine Jx (id := 6) [0,1,0,0,15,0,32,0,224,480,1023,2047] 12 ?_ | refine aw_block ?_ | refine Jr ?_ | refine Js ?_ | refine Jt ?_ | refine Jy ?_ | refine aw_ret ?_ | refine pp_ret ?_
        all_goals first
          | rfl
          | (exfalso; omega)
          | (exfalso; simp only [Bool.not_eq_true', Bool.not_eq_false', decide_eq_true_eq, decide_eq_false_iff_not, Bool.not_false, Bool.not_true] at *; omega)
          | (exfalso; simp_all; first | done | omega)
set_option maxHeartbeats 8000000 in
theorem ac_rverify (v sz pg pk i : Int) (L : List ByteArray) (n : Nat) (hn : L.length = n) (hb : n ≤ 9000000000000000000) (d : ByteArray) (hd : d.size ≤ 9000000000000000000) (c : Int) (hc : chkM v sz pg pk L = c) (e : Int) (he : pgE c n i = e) (y : Int) (hy : vfE v sz pg e i L d = y) : ACalls Tryz.prog 46 [.agg #[.int .i64 v, .int .i64 sz, .int .i64 pg, .int .i64 pk, .slice (some ⟨0, 0, none⟩) n n], .int .i64 i, .string d] [some ⟨List.map Value.string L, false, 1⟩] (.int .i64 y) [none] := by
  have H1 := ac_rpackets v sz pg pk i L n hn hb c hc e he _ rfl
  generalize pkM sz pg pk i e = pp at H1
  unfold vfE at hy
  by_cases h1 : e ≠ 0
  · rw [if_pos h1] at hy
    subst hy
    clear hc he
    refine acalls_law Tryz.func46 rfl rfl rfl ?_
    repeat' first | refine st ?_ | refine stRW [0] H1 ?_ | refine stm ?_ | refine run_nil ?_ | refine Jz ?_ | refine Jw ?_ | refine aw_block ?_ | refine Js ?_ | refine aw_ret ?_ | refine pp_ret ?_
    all_goals first
      | rfl
      | (exfalso; omega)
      | (exfalso; simp only [Bool.not_eq_true', Bool.not_eq_false', decide_eq_true_eq, decide_eq_false_iff_not, Bool.not_false, Bool.not_true] at *; omega)
      | (exfalso; simp_all; first | done | omega)
  · rw [if_neg h1] at hy
    obtain rfl : e = 0 := Decidable.not_not.1 h1
    have h2 : c = 0 ∧ 0 ≤ i ∧ i < n := by
      unfold pgE at he
      split at he
      · omega
      · split at he
        · omega
        · omega
    obtain ⟨rfl, h3, h4⟩ := h2
    obtain ⟨k1, k2, k3, k4, k5⟩ := page_bd hc h3 (by rw [hn]; exact h4)
    obtain ⟨q1, q2, q3, q4, q5⟩ := chk_ok hc
    have q6 := siz_bd q1
    obtain ⟨l, hl⟩ : ∃ l, lenM sz pg i = l := ⟨_, rfl⟩
    have H2 := ac_length v sz pg pk i n L (by omega) (by omega) (by omega) l hl
    rw [hl] at hy k3 k4 k5
    obtain ⟨j, rfl⟩ : ∃ j : Nat, i = j := ⟨i.toNat, by omega⟩
    by_cases h5 : (d.size : Int) ≠ l
    · rw [if_pos h5] at hy
      subst hy
      clear hc he hl
      refine acalls_law Tryz.func46 rfl rfl rfl ?_
      repeat' first | refine st ?_ | refine stRW [0] H1 ?_ | refine stRW [0] H2 ?_ | refine stm ?_ | refine run_nil ?_ | refine Jz ?_ | refine Jw ?_ | refine aw_block ?_ | refine Jr ?_ | refine Js ?_ | refine aw_ret ?_ | refine pp_ret ?_
      all_goals first
        | rfl
        | (exfalso; omega)
        | (exfalso; simp only [Bool.not_eq_true', Bool.not_eq_false', decide_eq_true_eq, decide_eq_false_iff_not, Bool.not_false, Bool.not_true] at *; omega)
        | (exfalso; simp_all; first | done | omega)
    · rw [if_neg h5] at hy
      obtain ⟨q, hq⟩ : ∃ q, L[j]? = some q := ⟨_, List.getElem?_eq_getElem (by omega)⟩
      rw [show ((j : Int)).toNat = j from Int.toNat_natCast j, hq] at hy
      obtain ⟨S, hS⟩ : ∃ S, dgS v j d = S := ⟨_, rfl⟩
      have H3 := ac_rdigest v j d (by omega) S hS
      rw [hS] at hy
      clear hS hc he hl
      by_cases h6 : S = q
      · subst h6
        rw [if_neg (by simp)] at hy
        subst hy
        refine acalls_law Tryz.func46 rfl rfl rfl ?_
        repeat' first | refine sdl (h := ok_load_mapE (f := Value.string) j hq rfl rfl rfl (by omega)) ?_ | refine sd (h := ok_str_neqF rfl rfl) ?_ | refine st ?_ | refine stRW [0] H1 ?_ | refine stRW [0] H2 ?_ | refine sd_call (H3) ?_ | refine stm ?_ | refine run_nil ?_ | refine sd ?_ | refine sdl ?_ | refine rund_nil ?_ | refine Jz ?_ | refine Jw ?_ | refine Jx (id := 6) [0,1,0,0,15,0,32,0,224,480,1023,2047] 12 ?_ | refine aw_block ?_ | refine Jr ?_ | refine Jt ?_ | refine Jy ?_ | refine aw_ret ?_ | refine pp_ret ?_
        all_goals first
          | rfl
          | (exfalso; omega)
          | (exfalso; simp only [Bool.not_eq_true', Bool.not_eq_false', decide_eq_true_eq, decide_eq_false_iff_not, Bool.not_false, Bool.not_true] at *; omega)
          | (exfalso; simp_all; first | done | omega)
      · rw [if_pos (by simpa using h6)] at hy
        subst hy
        refine acalls_law Tryz.func46 rfl rfl rfl ?_
        repeat' first | refine sdl (h := ok_load_mapE (f := Value.string) j hq rfl rfl rfl (by omega)) ?_ | refine sd (h := ok_str_neq rfl rfl) ?_ | refine st ?_ | refine stRW [0] H1 ?_ | refine stRW [0] H2 ?_ | refine sd_call (H3) ?_ | refine stm ?_ | refine run_nil ?_ | refine sd ?_ | refine sdl ?_ | refine rund_nil ?_ | refine Jz ?_ | refine Jw ?_ | refine Jx (id := 6) [0,1,0,0,15,0,32,0,224,480,1023,2047] 12 ?_ | refine aw_block ?_ | refine Jr ?_ | refine Js ?_ | refine Jt ?_ | refine aw_ret ?_ | refine pp_ret ?_
        all_goals first
          | rfl
          | (exfalso; omega)
          | (exfalso; simp only [Bool.not_eq_true', Bool.not_eq_false', decide_eq_true_eq, decide_eq_false_iff_not, Bool.not_false, Bool.not_true] at *; omega)
          | (exfalso; simp_all; first | done | omega)
end Go.Proofs.YtjofcjogbopkjaaGreat
