/- Transfer: answers. Transfer: Serve, the manifest. Transfer: Serve, packets. -/
import Derived.Test.YtjofcjogbopkjaaGreatVL
import Derived.Test.YtjofcjogbopkjaaGreatU4
import Derived.Test.YtjofcjogbopkjaaGreatK3
import Derived.Test.YtjofcjogbopkjaaGreatU9
set_option linter.unusedVariables false
set_option linter.unusedSimpArgs false
namespace Go.Proofs.YtjofcjogbopkjaaGreat
open Go Av
set_option maxRecDepth 20000
def updC (u : Upd) : List Value := [.int .i64 u.kind, .int .i64 u.ver, .string u.id, .int .i64 u.page, .int .i64 u.pkt, .int .u64 u.bits, .string u.data]
instance : RenF updC := ⟨fun _ _ => rfl⟩
theorem updC_len (u : Upd) : (updC u).length = 7 := rfl
theorem flat_set {α : Type} {f : α → List Value} {n c : Nat} {v : Value} {r : α} (hf : ∀ a, (f a).length = n) (hc : c < n) : ∀ (l : List α) (j : Nat) (h : j < l.length), (f l[j]).set c v = f r → (l.flatMap f).set (j * n + c) v = (l.set j r).flatMap f
  | [], j, h, _ => by simp at h
  | a :: l, 0, h, h1 => by
    rw [List.flatMap_cons, List.set_cons_zero, List.flatMap_cons, Nat.zero_mul, Nat.zero_add, List.set_append_left _ _ (by rw [hf]; exact hc)]
    rw [show (f a).set c v = f r from h1]
  | a :: l, j + 1, h, h1 => by
    rw [List.flatMap_cons, List.set_cons_succ, List.flatMap_cons, List.set_append_right _ _ (by rw [hf, Nat.succ_mul]; omega), hf, show (j + 1) * n + c - n = j * n + c by rw [Nat.succ_mul]; omega]
    rw [flat_set hf hc l j (by simpa using h) (by simpa using h1)]
theorem splice_one {l : List Value} {o : Nat} {v : Value} (h : o < l.length) : SpliceR l o [v] (l.set o v) := by
  have h1 := SpliceR.of (l := l) (o := o) (vs := [v]) (by simp only [List.length_cons, List.length_nil]; omega)
  have e : l.take o ++ [v] ++ l.drop (o + [v].length) = l.set o v := by
    rw [List.set_eq_take_append_cons_drop, if_pos h]
    simp
  rwa [e] at h1
/-- One cell of a row. -/
theorem splice_cell {α : Type} {f : α → List Value} {l : List α} {n o j c : Nat} {v : Value} {r : α} (hf : ∀ a, (f a).length = n) (hc : c < n) (h : j < l.length) (ho : o = j * n + c) (h1 : (f l[j]).set c v = f r) : SpliceR (l.flatMap f) o [v] ((l.set j r).flatMap f) := by
  subst ho
  rw [← flat_set hf hc l j h h1]
  refine splice_one ?_
  have : (l.flatMap f).length = l.length * n := flat_len l (c := n) fun a _ => hf a
  rw [this]
  have := Nat.mul_le_mul_right n h
  rw [Nat.succ_mul] at this
  omega
/-- The first updates have the store's version and identifier. -/
def ansU (ver : Int) (id : ByteArray) (u : Upd) : Upd := { u with ver := ver, id := id }
def ansI (ver : Int) (id : ByteArray) (U : List Upd) (i : Nat) : List Upd := (U.take i).map (ansU ver id) ++ U.drop i
theorem ansI_len (ver : Int) (id : ByteArray) (U : List Upd) (i : Nat) : (ansI ver id U i).length = U.length := by
  simp [ansI]; omega
theorem ansI_at {ver : Int} {id : ByteArray} {U : List Upd} {i : Nat} (h : i < U.length) : (ansI ver id U i)[i]'(by rw [ansI_len]; exact h) = U[i] := by
  simp only [ansI]
  rw [List.getElem_append_right (by rw [List.length_map, List.length_take]; omega)]
  simp [Nat.min_eq_left (Nat.le_of_lt h)]
theorem ansI_step {ver : Int} {id : ByteArray} {U : List Upd} {i : Nat} (h : i < U.length) : (ansI ver id U i).set i (ansU ver id U[i]) = ansI ver id U (i + 1) := by
  simp only [ansI]
  rw [List.set_append_right _ _ (by rw [List.length_map, List.length_take]; omega), List.length_map, List.length_take, Nat.min_eq_left (Nat.le_of_lt h), Nat.sub_self, List.drop_eq_getElem_cons h, List.set_cons_zero, List.take_succ_eq_append_getElem h, List.map_append]
  simp only [List.map_cons, List.map_nil, List.append_assoc, List.cons_append, List.nil_append]
theorem ansI_all (ver : Int) (id : ByteArray) (U : List Upd) : ansI ver id U U.length = U.map (ansU ver id) := by simp [ansI]
structure Ag where
  i : Nat
set_option maxHeartbeats 8000000 in
theorem ac_answers (s : Sto) (n p : Nat) (hn : s.L.length = n) (hp : s.P.length = p) (hb : n ≤ 1000000 ∧ p ≤ 1000000) (U : List Upd) (m : Nat) (hm : U.length = m) (hmb : m ≤ 1000000) : ACalls Tryz.prog 54 [.agg #[.int .i64 s.ver, .string s.id, .bool s.kn, .int .i64 s.mv, .int .i64 s.ms, .int .i64 s.mg, .int .i64 s.mq, .slice (some ⟨0, 0, none⟩) n n, .string s.data, .int .u64 s.bits, .slice (some ⟨1, 0, none⟩) p p], .slice (some ⟨2, 0, none⟩) m m] [some ⟨List.map Value.string s.L, false, 1⟩, some ⟨List.map Value.string s.P, false, 1⟩, some ⟨U.flatMap updC, true, 7⟩] (.slice (some ⟨2, 0, none⟩) m m) [none, none, some ⟨(U.map (ansU s.ver s.id)).flatMap updC, true, 7⟩] := by
  obtain ⟨ver, id, kn, mv, ms, mg, mq, L, data, bits, P⟩ := s
  dsimp only at *
  refine acalls_of_aw Tryz.func54 rfl rfl ?_
  repeat' first | refine st ?_ | refine stm ?_ | refine run_nil ?_ | refine Jz ?_ | refine Jw ?_ | refine aw_block ?_
  refine aw_loopg
    (S := fun y : Ag => [(1, .slice (some ⟨2, 0, none⟩) m m), (2, .pointer (some ⟨3, 0, none⟩)), (7, .int .i64 m), (8, .int .i64 y.i)])
    (B := fun y : Ag => [some ⟨List.map Value.string L, false, 1⟩, some ⟨List.map Value.string P, false, 1⟩, some ⟨(ansI ver id U y.i).flatMap updC, true, 7⟩, some ⟨[.int .i64 ver, .string id, .bool kn, .int .i64 mv, .int .i64 ms, .int .i64 mg, .int .i64 mq, .slice (some ⟨0, 0, none⟩) n n, .string data, .int .u64 bits, .slice (some ⟨1, 0, none⟩) p p], true, 1⟩])
    (R := fun y : Ag => y.i ≤ m)
    (μ := fun y : Ag => m - y.i) ⟨0⟩ (fitsD [0, 1, 2, 3]) (Nat.zero_le _) ?_
  rintro ⟨i⟩ g1
  dsimp only at g1 ⊢
  by_cases hi : i < m
  · obtain ⟨Z, hZ⟩ : ∃ Z, ansI ver id U i = Z := ⟨_, rfl⟩
    have hZl : Z.length = m := by rw [← hZ, ansI_len, hm]
    have hil : i < Z.length := by omega
    obtain ⟨u, hu⟩ : ∃ u, Z[i] = u := ⟨_, rfl⟩
    have hst : (Z.set i { u with ver := ver }).set i { u with ver := ver, id := id } = ansI ver id U (i + 1) := by
      rw [List.set_set, ← ansI_step (by omega), hZ]
      congr 1
      have := ansI_at (ver := ver) (id := id) (U := U) (i := i) (by omega)
      have e : U[i]'(by omega) = u := by rw [← hu, ← this]; congr 1
      unfold ansU
      rw [e]
    have s1 : (updC Z[i]).set 1 (.int .i64 ver) = updC { u with ver := ver } := by rw [hu]; rfl
    obtain ⟨Y, hY⟩ : ∃ Y, Z.set i { u with ver := ver } = Y := ⟨_, rfl⟩
    have hYl : i < Y.length := by rw [← hY, List.length_set]; exact hil
    have s2 : (updC Y[i]).set 2 (.string id) = updC { u with ver := ver, id := id } := by
      have : Y[i] = { u with ver := ver } := by subst hY; simp
      rw [this]; rfl
    rw [hY] at hst
    obtain ⟨V, hV⟩ : ∃ V, ansI ver id U (i + 1) = V := ⟨_, rfl⟩
    rw [hV] at hst
    rw [hZ]
    repeat' first | refine Own.sow (h := ok_storeN (cs' := Y.flatMap updC) rfl rfl (ListR.refl _) rfl rfl rfl rfl (by (rw [← hY]; exact splice_cell updC_len (by decide) hil (by simp only [Nat.zero_add]; omega) s1)) (by ((repeat constructor); first | done | fail)) rfl) ?_ | refine Own.sob (h := ok_storeN (cs' := V.flatMap updC) rfl rfl (ListR.refl _) rfl rfl rfl rfl (by (rw [← hst]; exact splice_cell updC_len (by decide) hYl (by simp only [Nat.zero_add]; omega) s2)) (by ((repeat constructor); first | done | fail)) rfl) ?_ | refine st ?_ | refine run_nil ?_ | refine Own.so ?_ | refine Own.sol ?_ | refine Own.runo_nil ?_ | refine Jz ?_ | refine Jw ?_ | refine aw_region_oC (id := 4) [0, 0, 0, 0, 0, 16, 0, 64, 51, 307, 819, 2047, 4095, 8191] 11 [[], [], [], [], [], [], [], [], [], [], [2], [], [], []] (by (repeat constructor)) (by kernel_rfl) (by kernel_rfl) (by kernel_rfl) (by rfl) (by rfl) ?_ | refine aw_block ?_ | refine Js ?_ | refine Jy ?_
    all_goals first | exact Exists.intro ⟨i + 1⟩ ⟨by (dsimp only; rw [hV]; exact fitsD [0, 1, 2, 3]), by dsimp only; omega, by dsimp only; omega⟩
  · obtain rfl : i = m := by omega
    rw [show ansI ver id U i = U.map (ansU ver id) by rw [← hm]; exact ansI_all ver id U]
    repeat' first | refine st ?_ | refine run_nil ?_ | refine Jz ?_ | refine Jw ?_ | refine Jt ?_ | refine aw_exit ?_ | refine aw_ret ?_
    all_goals first | exact pm_ret _ (renumD [0, 1, 2]) rfl
end Go.Proofs.YtjofcjogbopkjaaGreat
namespace Go.Proofs.YtjofcjogbopkjaaGreat
open Go Av
set_option maxRecDepth 20000
/-- The packets that are asked for, ahead of the store's version. -/
def preU (ms mg mq : Int) (data : ByteArray) (up : Int) (i : Nat) : Upd := ⟨4, 0, ⟨#[]⟩, up, i, 0, data.extract (spF mg mq up i 0).toNat (spT ms mg mq up i 0).toNat⟩
def preL (ms mg mq : Int) (data : ByteArray) (up : Int) (ub : Nat) (j : Nat) : List Upd := ((List.range j).filter ub.testBit).map (preU ms mg mq data up)
theorem preL_step (ms mg mq : Int) (data : ByteArray) (up : Int) (ub j : Nat) : preL ms mg mq data up ub (j + 1) = preL ms mg mq data up ub j ++ (if ub.testBit j then [preU ms mg mq data up j] else []) := by
  unfold preL
  rw [List.range_succ, List.filter_append, List.map_append]
  congr 1
  cases h : ub.testBit j <;> simp [h]
theorem preL_len (ms mg mq : Int) (data : ByteArray) (up : Int) (ub j : Nat) : (preL ms mg mq data up ub j).length ≤ j := by
  unfold preL
  rw [List.length_map]
  have := List.length_filter_le ub.testBit (List.range j)
  simpa using this
/-- What Serve answers. -/
def srvL (s : Sto) (up : Int) (ub : Nat) : List Upd :=
  if up < 0 then [⟨3, s.ver, s.id, 0, 0, 0, encS s.mv s.ms s.mg s.mq s.L⟩]
  else if up < dnN s.ms s.mg s.L.length s.data.size then (preL s.ms s.mg s.mq s.data up ub (pkC s.ms s.mg s.mq up).toNat).map (ansU s.ver s.id) else []
set_option maxHeartbeats 8000000 in
/-- The manifest is asked for. -/
theorem ac_ServeM (s : Sto) (n p : Nat) (hn : s.L.length = n) (hp : s.P.length = p) (hb : n ≤ 1000000 ∧ p ≤ 1000000) (hbits : s.bits < 18446744073709551616) (hd : s.data.size ≤ 100000) (hc : chS s = true) (hkn : s.kn = true) (uv : Int) (ui : ByteArray) (up : Int) (ub : Nat) (hu : valU 2 uv ui up 0 ub ⟨#[]⟩ = true) (hv : uv = s.ver) (hi : ui = s.id) (hup : up < 0) : ACalls Tryz.prog 24 [.agg #[.int .i64 s.ver, .string s.id, .bool s.kn, .int .i64 s.mv, .int .i64 s.ms, .int .i64 s.mg, .int .i64 s.mq, .slice (some ⟨0, 0, none⟩) n n, .string s.data, .int .u64 s.bits, .slice (some ⟨1, 0, none⟩) p p], .agg #[.int .i64 2, .int .i64 uv, .string ui, .int .i64 up, .int .i64 0, .int .u64 ub, .string ⟨#[]⟩]] [some ⟨List.map Value.string s.L, false, 1⟩, some ⟨List.map Value.string s.P, false, 1⟩] (.tuple #[.slice (some ⟨2, 0, none⟩) 1 1, .int .i64 0]) [none, none, some ⟨(srvL s up ub).flatMap updC, true, 7⟩] := by
  have H0 := ac_check s n p hn hp hb hbits (by omega) _ hc
  have H1 := ac_valid 2 uv ui up 0 ub ⟨#[]⟩ _ hu
  have hkb : knB s = true := by
    rcases chS_spec hc with h | ⟨_, _, h, _⟩
    · exact absurd (of_decide_eq_true h).2.2.1 (by rw [hkn]; decide)
    · exact h hkn
  obtain ⟨r1, _⟩ := knB_spec hn hp hkb
  have H2 := ac_Encode s.mv s.ms s.mg s.mq s.L n hn (by omega) 0 r1 _ (if_neg (by decide))
  obtain ⟨E, hE⟩ : ∃ E, encS s.mv s.ms s.mg s.mq s.L = E := ⟨_, rfl⟩
  rw [hE] at H2
  have H3 := ac_answers s n p hn hp hb [⟨3, 0, ⟨#[]⟩, 0, 0, 0, E⟩] 1 rfl (by decide)
  unfold srvL
  rw [if_pos hup, hE]
  clear hc hu hkb r1 hE hbits
  obtain ⟨ver, id, kn, mv, ms, mg, mq, L, data, bits, P⟩ := s
  dsimp only at *
  subst hv hi hkn
  refine acalls_of_aw Tryz.func24 rfl rfl ?_
  repeat' first | refine st (h := ok_str_neqF rfl rfl) ?_ | refine st ?_ | refine stRW [0, 1] H0 ?_ | refine stRW [0] H2 ?_ | refine st_call (H1) ?_ | refine stMW [0, 1, 4] H3 ?_ | refine stm ?_ | refine Ja ?_ | refine Jf ?_ | refine run_nil ?_ | refine Jz ?_ | refine Jw ?_ | refine Jr ?_ | refine Js ?_ | refine Jy ?_ | refine aw_ret ?_
  all_goals first | exact pm_ret _ (renumD [0, 1, 4]) rfl
end Go.Proofs.YtjofcjogbopkjaaGreat
namespace Go.Proofs.YtjofcjogbopkjaaGreat
open Go Av
set_option maxRecDepth 20000
set_option maxHeartbeats 16000000 in
/-- Packets of a page are asked for. -/
theorem ac_ServeP (s : Sto) (n p : Nat) (hn : s.L.length = n) (hp : s.P.length = p) (hb : n ≤ 1000000 ∧ p ≤ 1000000) (hbits : s.bits < 18446744073709551616) (hd : s.data.size ≤ 100000) (hc : chS s = true) (hkn : s.kn = true) (uv : Int) (ui : ByteArray) (up : Int) (ub : Nat) (hub : ub < 18446744073709551616) (hu : valU 2 uv ui up 0 ub ⟨#[]⟩ = true) (hv : uv = s.ver) (hi : ui = s.id) (i : Nat) (hup : up = i) (k : Nat) (hk : dnN s.ms s.mg n s.data.size = k) (hik : i < k) (m : Nat) (hm : (srvL s up ub).length = m) : ACalls Tryz.prog 24 [.agg #[.int .i64 s.ver, .string s.id, .bool s.kn, .int .i64 s.mv, .int .i64 s.ms, .int .i64 s.mg, .int .i64 s.mq, .slice (some ⟨0, 0, none⟩) n n, .string s.data, .int .u64 s.bits, .slice (some ⟨1, 0, none⟩) p p], .agg #[.int .i64 2, .int .i64 uv, .string ui, .int .i64 up, .int .i64 0, .int .u64 ub, .string ⟨#[]⟩]] [some ⟨List.map Value.string s.L, false, 1⟩, some ⟨List.map Value.string s.P, false, 1⟩] (.tuple #[.slice (some ⟨2, 0, none⟩) m m, .int .i64 0]) [none, none, some ⟨(srvL s up ub).flatMap updC, true, 7⟩] := by
  have H0 := ac_check s n p hn hp hb hbits (by omega) _ hc
  have H1 := ac_valid 2 uv ui up 0 ub ⟨#[]⟩ _ hu
  have hkb : knB s = true := by
    rcases chS_spec hc with h | ⟨_, _, h, _⟩
    · exact absurd (of_decide_eq_true h).2.2.1 (by rw [hkn]; decide)
    · exact h hkn
  obtain ⟨r1, r2, r3, r4, k', r5, r6, r7, r8, r9, r10, r11, r12, r13⟩ := knB_spec hn hp hkb
  obtain rfl : k = k' := by omega
  obtain ⟨K, k1, k2, k3, k4, k5, k6, k7⟩ := page_fc (i := i) hn r1 (by omega)
  have HD := ac_done s n p hn hp hb (.inr r11) (by omega) k hk true r4
  have HP := ac_packets s.mv s.ms s.mg s.mq i s.L n hn (by omega) 0 r1 0 k4 K k5
  have HS := fun (j : Nat) (hj : spE 0 K j = 0) (fr to : Int) (hfr : spF s.mg s.mq i j 0 = fr) (hto : spT s.ms s.mg s.mq i j 0 = to) => ac_span s.mv s.ms s.mg s.mq i j s.L n hn (by omega) 0 r1 0 k4 K k5 0 hj fr to hfr hto
  have hend : (i : Int) * s.mg + lenM s.ms s.mg i ≤ s.data.size := by
    obtain ⟨dk, dk1, f1, f2, f3, f4, f5, f6, f7, f8, f9⟩ := dn_fc hn r1 r4
    rw [hk] at dk1
    obtain rfl : k = dk := by omega
    by_cases he : (s.data.size : Int) = s.ms
    · omega
    · have h1 := f3 (by rcases Nat.lt_or_ge k n with h | h; exact h; exact absurd (f9.1 (by omega)) he)
      have h2 : ((i : Int) + 1) * s.mg ≤ k * s.mg := Int.mul_le_mul_of_nonneg_right (by omega) (by omega)
      rw [Int.add_mul, Int.one_mul] at h2
      unfold lenM
      omega
  have hs : srvL s up ub = (preL s.ms s.mg s.mq s.data up ub K).map (ansU s.ver s.id) := by
    unfold srvL
    rw [if_neg (by omega), hn, hk, if_pos (by omega), hup, k1, Int.toNat_natCast]
  rw [hs, List.length_map] at hm
  rw [hs]
  have H3 := ac_answers s n p hn hp hb (preL s.ms s.mg s.mq s.data up ub K) m hm (by have := preL_len s.ms s.mg s.mq s.data up ub K; omega)
  clear hc hu hkb r1 r2 r3 r4 r5 r7 r8 r9 hs hbits
  obtain ⟨ver, id, kn, mv, ms, mg, mq, L, data, bits, P⟩ := s
  dsimp only at *
  subst hv hi hkn hup
  refine acalls_of_aw Tryz.func24 rfl rfl ?_
  refine aw_ghost 7 rfl ?_
  repeat' first | refine st (h := ok_str_neqF rfl rfl) ?_ | refine st ?_ | refine stRW [0, 1] H0 ?_ | refine stRW [0, 1] HD ?_ | refine stRW [0] HP ?_ | refine st_call (H1) ?_ | refine stm ?_ | refine Ja ?_ | refine Jf ?_ | refine run_nil ?_ | refine Jz ?_ | refine Jw ?_ | refine aw_block ?_ | refine Jr ?_ | refine Js ?_ | refine Jy ?_
  all_goals try (exfalso; omega)
  refine aw_loopg
    (S := fun y : Ag => [(2, .pointer (some ⟨2, 0, none⟩)), (3, .pointer (some ⟨3, 0, none⟩)), (8, .slice (some ⟨4, 0, none⟩) (preL ms mg mq data i ub y.i).length (preL ms mg mq data i ub y.i).length), (78, .int .i64 K), (79, .int .i64 y.i)])
    (B := fun y : Ag => [some ⟨List.map Value.string L, false, 1⟩, some ⟨List.map Value.string P, false, 1⟩, some ⟨[.int .i64 uv, .string ui, .bool true, .int .i64 mv, .int .i64 ms, .int .i64 mg, .int .i64 mq, .slice (some ⟨0, 0, none⟩) n n, .string data, .int .u64 bits, .slice (some ⟨1, 0, none⟩) p p], true, 1⟩, some ⟨[.int .i64 2, .int .i64 uv, .string ui, .int .i64 i, .int .i64 0, .int .u64 ub, .string ⟨#[]⟩], true, 1⟩, some ⟨(preL ms mg mq data i ub y.i).flatMap updC, true, 7⟩])
    (R := fun y : Ag => y.i ≤ K)
    (μ := fun y : Ag => K - y.i) ⟨0⟩ (fitsD [0, 1, 3, 4, 2]) (Nat.zero_le _) ?_
  rintro ⟨j⟩ g1
  dsimp only at g1 ⊢
  by_cases hj : j < K
  · obtain ⟨t1, t2, t3, t4⟩ := k7 j hj
    obtain ⟨fr, hfr⟩ : ∃ fr, spF mg mq i j 0 = fr := ⟨_, rfl⟩
    obtain ⟨to, hto⟩ : ∃ to, spT ms mg mq i j 0 = to := ⟨_, rfl⟩
    have H4 := HS j t1 fr to hfr hto
    have hw := bit_and ub j hub (by omega)
    have hst := preL_step ms mg mq data i ub j
    have hle := preL_len ms mg mq data i ub j
    obtain ⟨Z, hZ⟩ : ∃ Z, preL ms mg mq data i ub j = Z := ⟨_, rfl⟩
    rw [hZ] at hst hle ⊢
    have hcell : preU ms mg mq data i j = ⟨4, 0, ⟨#[]⟩, i, j, 0, data.extract fr.toNat to.toNat⟩ := by unfold preU; rw [hfr, hto]
    have hfl := flat_len Z (f := updC) (c := 7) fun a _ => rfl
    rw [hfr] at t2 t3
    rw [hto] at t3 t4
    by_cases hbt : ub.testBit j = true
    · rw [if_pos hbt] at hw hst
      rw [hcell] at hst
      have hcs : Z.flatMap updC ++ [.int .i64 4, .int .i64 0, .string ByteArray.empty, .int .i64 i, .int .i64 j, .int .u64 0, .string (data.extract fr.toNat to.toNat)] = (preL ms mg mq data i ub (j + 1)).flatMap updC := by
        rw [hst, List.flatMap_append]
        rfl
      have hln : (preL ms mg mq data i ub (j + 1)).length = Z.length + 1 := by rw [hst, List.length_append]; rfl
      clear hfr hto k7 HS hst hcell H3
      repeat' first | refine st (h := ok_andD rfl rfl hw) ?_ | refine sdb (n := 1) (h := by (apply ok_append (cs := (preL ms mg mq data i ub (j + 1)).flatMap updC) (olds := Z.flatMap updC); rfl; rfl; rfl; rfl; rfl; rfl; (focus first | (apply Src.slc; rfl; exact Ty.eq; rfl; exact Nat.le_of_ble_eq_true rfl; exact TakeR.eq (by ((repeat constructor); first | done | fail)); rfl; rfl; first | done | fail)); (focus (rw [hfl]; omega)); (focus (apply take_full; rw [hfl])); (focus exact hcs); omega; (focus ((repeat constructor); first | done | fail)))) ?_ | refine st ?_ | refine stRW [0] H4 ?_ | refine run_nil ?_ | refine sd ?_ | refine sdl ?_ | refine sdm (n := 1) ?_ | refine rund_nil ?_ | refine Jz ?_ | refine Jw ?_ | refine Jx (id := 17) [0,0,2,0,0,16,0,0,240,510,1022,2047,4095] 11 ?_ | refine aw_block ?_ | refine Jq ?_ | refine Js ?_ | refine Jy ?_
      all_goals first | exact Exists.intro ⟨j + 1⟩ ⟨by (dsimp only; rw [hln]; exact fitsD [0, 1, 2, 3, 6]), by dsimp only; omega, by dsimp only; omega⟩
    · rw [if_neg hbt] at hw
      rw [if_neg hbt, List.append_nil] at hst
      clear hfr hto k7 HS hcell H3
      repeat' first | refine st (h := ok_andD rfl rfl hw) ?_ | refine st ?_ | refine stRW [0] H4 ?_ | refine run_nil ?_ | refine Jz ?_ | refine Jw ?_ | refine aw_block ?_ | refine Jr ?_ | refine Js ?_ | refine Jy ?_
      all_goals first | exact Exists.intro ⟨j + 1⟩ ⟨by (dsimp only; rw [hst]; exact fitsD [0, 1, 2, 3, 4]), by dsimp only; omega, by dsimp only; omega⟩
  · obtain rfl : j = K := by omega
    rw [hm]
    repeat' first | refine st ?_ | refine stMW [0, 1, 4] H3 ?_ | refine run_nil ?_ | refine Jz ?_ | refine Jw ?_ | refine Jt ?_ | refine aw_exit ?_ | refine aw_ret ?_
    all_goals first | exact pm_ret _ (renumD [0, 1, 4]) rfl
end Go.Proofs.YtjofcjogbopkjaaGreat
