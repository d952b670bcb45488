/- Transfer: what a node lacks of an image; each packet brings it on; rounds (plain). -/
import Derived.Test.YtekkdoaakilafaaY4
import Derived.Test.YtekkdoaakilafaaY2
import Derived.Test.YtekkdoaakilafaaK3
import Derived.Test.YtekkdoaakilafaaVAh
set_option linter.unusedVariables false
set_option linter.unusedSimpArgs false
namespace Go.Proofs.Ytekkdoaakilafaa
open Go Av
set_option maxRecDepth 20000
/-! What a node lacks of an image. -/
section
variable (v sz pg pk : Int) (L : List ByteArray) (d : ByteArray)
/-- A packet of the image. -/
def pkt (i j : Nat) : ByteArray := d.extract (spF pg pk i j 0).toNat (spT sz pg pk i j 0).toNat
/-- A node on the way to the image. -/
def gdS (s : Sto) : Prop := s.ver = v ∧ s.id = dig 0 (idB (encS v sz pg pk L)).data.toList ∧ chS s = true ∧ (s.kn = true → s.mv = v ∧ s.ms = sz ∧ s.mg = pg ∧ s.mq = pk ∧ s.L = L ∧ s.data = d.extract 0 s.data.size ∧ ∀ k : Nat, dnN sz pg L.length s.data.size = k → ∀ j : Nat, j < s.P.length → s.bits.testBit j = true → s.P.getD j ⟨#[]⟩ = pkt sz pg pk d k j)
/-- Packets of the pages behind the first n - m ones. -/
def totP (n : Nat) : Nat → Nat
  | 0 => 0
  | m + 1 => totP n m + (pkC sz pg pk ((n - 1 - m : Nat) : Int)).toNat
/-- Packets of the first pages. -/
def ascP : Nat → Nat
  | 0 => 0
  | m + 1 => ascP m + (pkC sz pg pk (m : Int)).toNat
/-- Bits that are not set. -/
def lkN (B K : Nat) : Nat := ((List.range K).filter fun j => !B.testBit j).length
def lefS (s : Sto) : Nat := if s.kn then (if dnN sz pg L.length s.data.size = L.length then 0 else lkN s.bits s.P.length + totP sz pg pk L.length (L.length - (dnN sz pg L.length s.data.size).toNat - 1)) else 1 + totP sz pg pk L.length L.length
end
theorem asc_tot {sz pg pk : Int} {n : Nat} : ∀ m : Nat, m ≤ n → ascP sz pg pk m + totP sz pg pk n (n - m) = totP sz pg pk n n
  | 0, _ => by simp [ascP]
  | m + 1, h => by
    have ih := asc_tot (sz := sz) (pg := pg) (pk := pk) (n := n) m (by omega)
    have e : n - m = (n - (m + 1)) + 1 := by omega
    have e4 : totP sz pg pk n (n - (m + 1) + 1) = totP sz pg pk n (n - (m + 1)) + (pkC sz pg pk ((n - 1 - (n - (m + 1)) : Nat) : Int)).toNat := rfl
    have e2 : n - 1 - (n - (m + 1)) = m := by omega
    rw [e2] at e4
    rw [e, e4] at ih
    show ascP sz pg pk m + (pkC sz pg pk m).toNat + totP sz pg pk n (n - (m + 1)) = _
    omega
theorem lk_zero (K : Nat) : lkN 0 K = K := by
  unfold lkN
  rw [List.filter_eq_self.2 (by intro j _; simp [Nat.zero_testBit]), List.length_range]
theorem lk_succ (B K : Nat) : lkN B (K + 1) = lkN B K + if B.testBit K then 0 else 1 := by
  unfold lkN
  rw [List.range_succ, List.filter_append, List.length_append]
  congr 1
  cases h : B.testBit K <;> simp [h]
theorem lk_same {B C K : Nat} (h : ∀ j : Nat, j < K → B.testBit j = C.testBit j) : lkN B K = lkN C K := by
  unfold lkN
  congr 1
  refine List.filter_congr fun j hj => ?_
  rw [h j (List.mem_range.1 hj)]
theorem lk_set {B j : Nat} (hb : B.testBit j = false) : ∀ K : Nat, j < K → lkN (B ||| 2 ^ j) K + 1 = lkN B K
  | 0, h => absurd h (Nat.not_lt_zero _)
  | K + 1, h => by
    rw [lk_succ, lk_succ]
    by_cases hj : j = K
    · subst hj
      have h1 : (B ||| 2 ^ j).testBit j = true := by rw [Nat.testBit_or, Nat.testBit_two_pow_self, Bool.or_true]
      rw [h1, hb, if_pos rfl, if_neg (by decide), lk_same (B := B ||| 2 ^ j) (C := B) fun i hi => ?_]
      rw [Nat.testBit_or, Nat.testBit_two_pow_of_ne (by omega), Bool.or_false]
    · have ih := lk_set hb K (by omega)
      have h1 : (B ||| 2 ^ j).testBit K = B.testBit K := by rw [Nat.testBit_or, Nat.testBit_two_pow_of_ne hj, Bool.or_false]
      rw [h1]
      omega
theorem lk_none {B K : Nat} (h : lkN B K = 0) : ∀ j : Nat, j < K → B.testBit j = true := fun j hj => by
  unfold lkN at h
  have h1 := List.eq_nil_of_length_eq_zero h
  have h2 := List.filter_eq_nil_iff.1 h1 j (List.mem_range.2 hj)
  simpa using h2
theorem ext_join {d : ByteArray} {a b c : Nat} (h1 : a ≤ b) (h2 : b ≤ c) (h3 : c ≤ d.size) : d.extract a b ++ d.extract b c = d.extract a c := by
  apply ByteArray.ext
  rw [ByteArray.data_append, ByteArray.data_extract, ByteArray.data_extract, ByteArray.data_extract, Array.extract_append_extract]
  congr 1 <;> omega
/-- All packets of a page are the page. -/
theorem pk_join {v sz pg pk : Int} {L : List ByteArray} {d : ByteArray} {n i K : Nat} {P : List ByteArray} (hn : L.length = n) (hc : chkM v sz pg pk L = 0) (hi : i < n) (hd : (d.size : Int) = sz) (hK : pkC sz pg pk i = K) (hP : P.length = K) (h : ∀ j : Nat, j < K → P.getD j ⟨#[]⟩ = pkt sz pg pk d i j) : joinS P = pgS d pg i := by
  obtain ⟨K', k1, k2, k3, k4, k5, k6, k7⟩ := page_fc hn hc hi
  obtain rfl : K = K' := by omega
  obtain ⟨q1, q2, q3, q4, q5⟩ := chk_ok hc
  have hbd := siz_bd q1
  have hpw : ∀ j : Nat, 0 ≤ (j : Int) * pk ∧ (((j + 1 : Nat) : Int)) * pk = j * pk + pk := fun j => ⟨Int.mul_nonneg (by omega) (by omega), by rw [Int.natCast_add, Int.add_mul]; simp⟩
  have hpar := fun j : Int => parts_lt (sz := lenM sz pg i) (pg := pk) (i := j) (by omega)
  unfold pkC at hK
  have key : ∀ j : Nat, j ≤ K → joinS (P.take j) = d.extract ((i : Int) * pg).toNat (min ((i : Int) * pg + j * pk) ((i : Int) * pg + lenM sz pg i)).toNat := by
    intro j
    induction j with
    | zero =>
      intro _
      rw [List.take_zero]
      have : (min ((i : Int) * pg + ((0 : Nat) : Int) * pk) ((i : Int) * pg + lenM sz pg i)).toNat = ((i : Int) * pg).toNat := by
        congr 1
        have : ((0 : Nat) : Int) * pk = 0 := by simp
        have hl : 0 ≤ lenM sz pg i := by
          unfold lenM
          omega
        omega
      rw [this]
      apply ByteArray.ext
      rw [ByteArray.data_extract]
      simp [joinS]
      exact Nat.min_le_left _ _
    | succ j ih =>
      intro hj
      have hq : P[j]? = some (pkt sz pg pk d i j) := by
        rw [← h j (by omega), List.getD_eq_getElem?_getD, List.getElem?_eq_getElem (by omega)]
        rfl
      rw [join_succ hq, ih (by omega)]
      obtain ⟨t1, t2, t3, t4⟩ := k7 j (by omega)
      unfold pkt
      unfold spF at t2 t3
      unfold spT at t3 t4
      unfold spF spT
      rw [if_neg (by decide)] at t2 t3 ⊢
      rw [if_neg (by decide)] at t3 t4 ⊢
      obtain ⟨w1, w2⟩ := hpw j
      have e1 : min ((i : Int) * pg + j * pk) ((i : Int) * pg + lenM sz pg i) = (i : Int) * pg + j * pk := by omega
      have e2 : min ((i : Int) * pg + ((j + 1 : Nat) : Int) * pk) ((i : Int) * pg + lenM sz pg i) = min ((i : Int) * pg + j * pk + pk) ((i : Int) * pg + lenM sz pg i) := by omega
      rw [e1, e2]
      exact ext_join (by omega) (by omega) (by omega)
  have hk := key K (Nat.le_refl _)
  rw [List.take_of_length_le (by omega)] at hk
  rw [hk]
  have h1 : lenM sz pg i ≤ K * pk := by
    have := hpar K
    rw [hK] at this
    omega
  unfold pgS lenM at *
  congr 2
  rw [hd, Int.add_mul, Int.one_mul]
  omega
/-- What is fixed: an image, its manifest, its store. -/
structure Img where
  v : Int
  sz : Int
  pg : Int
  pk : Int
  L : List ByteArray
  d : ByteArray
  hc : chkM v sz pg pk L = 0
  hy : inE 0 v sz pg L d = 0
def Img.D (F : Img) : ByteArray := dig 0 (idB (encS F.v F.sz F.pg F.pk F.L)).data.toList
def Img.st (F : Img) : Sto := ⟨F.v, F.D, true, F.v, F.sz, F.pg, F.pk, F.L, F.d, 0, []⟩
def Img.g (F : Img) (s : Sto) : Prop := gdS F.v F.sz F.pg F.pk F.L F.d s
def Img.l (F : Img) (s : Sto) : Nat := lefS F.sz F.pg F.pk F.L s
theorem Img.ok (F : Img) : chS F.st = true ∧ (F.d.size : Int) = F.sz ∧ (∀ i : Nat, i < F.L.length → vfE F.v F.sz F.pg 0 i F.L (pgS F.d F.pg i) = 0) := full_ok F.hc F.hy
theorem Img.bd (F : Img) : (1 ≤ F.v ∧ F.v ≤ 65535) ∧ (1 ≤ F.pk ∧ F.pk ≤ 96) ∧ F.pk ≤ F.pg ∧ F.pg ≤ 4096 ∧ (1 ≤ F.sz ∧ F.sz ≤ 65536) ∧ F.L.length ≤ 64 ∧ 1 ≤ F.L.length ∧ (F.L.length : Int) = (F.sz + F.pg - 1) / F.pg ∧ F.D.size = 32 := by
  obtain ⟨q1, q2, q3, q4, q5⟩ := chk_ok F.hc
  have hb := siz_bd q1
  have h0 := (parts_lt (sz := F.sz) (pg := F.pg) (i := 0) (by omega)).2 (by omega)
  exact ⟨by omega, by omega, by omega, by omega, q2, q3, by omega, q4, dg_size _ _⟩
theorem Img.dnF (F : Img) : dnN F.sz F.pg F.L.length F.d.size = F.L.length := if_pos F.ok.2.1
/-- A right store with a manifest that is not complete. -/
theorem open_fc {s : Sto} (hc : chS s = true) (hk : s.kn = true) : (1 ≤ s.ver ∧ s.ver ≤ 65535 ∧ s.id.size = 32) ∧ chkM s.mv s.ms s.mg s.mq s.L = 0 ∧ dnB s.ms s.mg s.data.size = true ∧ ∃ k : Nat, dnN s.ms s.mg s.L.length s.data.size = k ∧ k ≤ s.L.length ∧ (k = s.L.length ↔ (s.data.size : Int) = s.ms) ∧ (k < s.L.length → (s.data.size : Int) = k * s.mg ∧ ∃ K : Nat, pkC s.ms s.mg s.mq k = K ∧ 1 ≤ K ∧ K ≤ 64 ∧ s.P.length = K ∧ s.bits < 2 ^ K ∧ s.bits ≠ 2 ^ K - 1) := by
  obtain ⟨hv, hkb⟩ : (1 ≤ s.ver ∧ s.ver ≤ 65535 ∧ s.id.size = 32) ∧ knB s = true := by
    rcases chS_spec hc with h | ⟨_, h1, h2, _⟩
    · exact absurd (of_decide_eq_true h).2.2.1 (by rw [hk]; decide)
    · exact ⟨h1, h2 hk⟩
  obtain ⟨r1, r2, r3, r4, k, r5, r6, r7, r8, r9, r10, r11, r12, r13⟩ := knB_spec rfl rfl hkb
  obtain ⟨dk, dk1, f1, f2, f3, f4, f5, f6, f7, f8, f9⟩ := dn_fc rfl r1 r4
  obtain rfl : k = dk := by omega
  refine ⟨hv, r1, r4, k, r5, r6, f9, fun h => ⟨f3 h, ?_⟩⟩
  obtain ⟨o1, o2, o3, _⟩ := of_decide_eq_true (r9 h).2
  obtain ⟨K, k1, k2, k3, _⟩ := page_fc (i := k) rfl r1 h
  obtain rfl : s.P.length = K := by omega
  exact ⟨_, k1, k2, k3, rfl, o2, o3⟩
theorem pkt_size (F : Img) {i K : Nat} (hi : i < F.L.length) (hK : pkC F.sz F.pg F.pk i = K) {j : Nat} (hj : j < K) : ((pkt F.sz F.pg F.pk F.d i j).size : Int) = pkL F.sz F.pg F.pk i j ∧ 1 ≤ (pkt F.sz F.pg F.pk F.d i j).size ∧ (pkt F.sz F.pg F.pk F.d i j).size ≤ 96 := by
  obtain ⟨K', k1, k2, k3, k4, k5, k6, k7⟩ := page_fc rfl F.hc hi
  obtain rfl : K = K' := by omega
  obtain ⟨t1, t2, t3, t4⟩ := k7 j hj
  have hd := F.ok.2.1
  obtain ⟨b1, b2, _⟩ := F.bd
  have hm : 0 ≤ (j : Int) * F.pk := Int.mul_nonneg (by omega) (by omega)
  have hle : spT F.sz F.pg F.pk i j 0 - spF F.pg F.pk i j 0 ≤ F.pk := by
    unfold spT spF
    rw [if_neg (by decide), if_neg (by decide)]
    omega
  unfold pkL pkt
  rw [ByteArray.size_extract]
  omega
/-- A packet of the next page. -/
theorem put_good (F : Img) {s : Sto} (hg : F.g s) (hk : s.kn = true) {k : Nat} (hdn : dnN F.sz F.pg F.L.length s.data.size = k) (hlt : k < F.L.length) {j : Nat} (hj : j < s.P.length) (hb : s.bits.testBit j = false) :
    F.g (heS s ⟨4, F.v, F.D, k, j, 0, pkt F.sz F.pg F.pk F.d k j⟩) ∧ F.l (heS s ⟨4, F.v, F.D, k, j, 0, pkt F.sz F.pg F.pk F.d k j⟩) + 1 = F.l s ∧ (heS s ⟨4, F.v, F.D, k, j, 0, pkt F.sz F.pg F.pk F.d k j⟩).kn = true ∧
    (lkN s.bits s.P.length ≠ 1 → (heS s ⟨4, F.v, F.D, k, j, 0, pkt F.sz F.pg F.pk F.d k j⟩).data = s.data ∧ (heS s ⟨4, F.v, F.D, k, j, 0, pkt F.sz F.pg F.pk F.d k j⟩).P.length = s.P.length ∧ (heS s ⟨4, F.v, F.D, k, j, 0, pkt F.sz F.pg F.pk F.d k j⟩).bits = s.bits ||| 2 ^ j) := by
  obtain ⟨g1, g2, g3, g4⟩ := hg
  obtain ⟨e1, e2, e3, e4, e5, e6, e7⟩ := g4 hk
  obtain ⟨hv, r1, r2, k', r3, r4, r5, r6⟩ := open_fc g3 hk
  rw [e2, e3, e5, hdn] at r3
  obtain rfl : k = k' := by omega
  obtain ⟨r6, K, k1, k2, k3, k4, k5, k6⟩ := r6 (by rw [e5]; exact hlt)
  have hcc : cpB s = false := by
    unfold cpB
    rw [hk, decide_eq_false (fun h => by have := r5.2 h; rw [e5] at this; omega)]
    rfl
  have hjK : j < K := by omega
  rw [e2, e3, e4] at k1
  obtain ⟨p1, p2, p3⟩ := pkt_size F hlt k1 hjK
  have hch := ch_put (u := ⟨4, F.v, F.D, k, j, 0, pkt F.sz F.pg F.pk F.d k j⟩) g3 hk hcc (by show 0 ≤ (j : Int) ∧ (j : Int) < 64; omega)
  have hhe : heS s ⟨4, F.v, F.D, k, j, 0, pkt F.sz F.pg F.pk F.d k j⟩ = puS s ⟨4, F.v, F.D, k, j, 0, pkt F.sz F.pg F.pk F.d k j⟩ := by
    unfold heS
    dsimp only
    rw [if_neg (fun h => absurd h.1 (by decide)), if_neg (fun h => absurd h.1 (by decide)), if_pos ⟨rfl, ⟨g1.symm, g2.symm⟩, hk, hcc⟩]
  rw [hhe]
  obtain ⟨ver, id, kn, mv, ms, mg, mq, L', data, bits, P⟩ := s
  dsimp only at *
  subst g1 e1 e2 e3 e4 e5 hk k4
  have hall := lk_set hb P.length hj
  have hor := or_lt k5 hj
  have hdn' : dnN F.sz F.pg F.L.length data.size = k := hdn
  have hpu : puS ⟨F.v, id, true, F.v, F.sz, F.pg, F.pk, F.L, data, bits, P⟩ ⟨4, F.v, F.D, k, j, 0, pkt F.sz F.pg F.pk F.d k j⟩ = if bits ||| 2 ^ j ≠ 2 ^ P.length - 1 then ⟨F.v, id, true, F.v, F.sz, F.pg, F.pk, F.L, data, bits ||| 2 ^ j, P.set j (pkt F.sz F.pg F.pk F.d k j)⟩ else nxS ⟨F.v, id, true, F.v, F.sz, F.pg, F.pk, F.L, if vfE F.v F.sz F.pg 0 k F.L (joinS (P.set j (pkt F.sz F.pg F.pk F.d k j))) = 0 then data ++ joinS (P.set j (pkt F.sz F.pg F.pk F.d k j)) else data, bits ||| 2 ^ j, P.set j (pkt F.sz F.pg F.pk F.d k j)⟩ := by
    unfold puS
    dsimp only
    rw [hdn', Int.toNat_natCast, if_neg]
    rintro (h | h | h | h)
    · exact h rfl
    · omega
    · rw [hb] at h
      exact absurd h (by decide)
    · exact h p1
  have hset : ∀ i : Nat, i < P.length → (bits ||| 2 ^ j).testBit i = true → (P.set j (pkt F.sz F.pg F.pk F.d k j)).getD i ⟨#[]⟩ = pkt F.sz F.pg F.pk F.d k i := fun i hi hbi => by
    rw [List.getD_eq_getElem?_getD, List.getElem?_set]
    by_cases hij : j = i
    · subst hij
      rw [if_pos rfl, if_pos hi]
      rfl
    · rw [if_neg hij, ← List.getD_eq_getElem?_getD]
      rw [Nat.testBit_or, Nat.testBit_two_pow_of_ne hij, Bool.or_false] at hbi
      exact e7 k hdn' i hi hbi
  have hleft : F.l ⟨F.v, id, true, F.v, F.sz, F.pg, F.pk, F.L, data, bits, P⟩ = lkN bits P.length + totP F.sz F.pg F.pk F.L.length (F.L.length - k - 1) := by
    unfold Img.l lefS
    dsimp only
    rw [if_pos rfl, hdn', if_neg (by omega), Int.toNat_natCast]
  rw [hpu] at hch ⊢
  rw [hleft]
  by_cases hf : bits ||| 2 ^ j ≠ 2 ^ P.length - 1
  · rw [if_pos hf] at hch ⊢
    refine ⟨⟨rfl, g2, hch, fun _ => ⟨rfl, rfl, rfl, rfl, rfl, e6, fun k' hk' i hi hbi => ?_⟩⟩, ?_, rfl, fun _ => ⟨rfl, by rw [List.length_set], rfl⟩⟩
    · dsimp only at hk' hi hbi ⊢
      rw [List.length_set] at hi
      obtain rfl : k = k' := by omega
      exact hset i hi hbi
    · have : F.l ⟨F.v, id, true, F.v, F.sz, F.pg, F.pk, F.L, data, bits ||| 2 ^ j, P.set j (pkt F.sz F.pg F.pk F.d k j)⟩ = lkN (bits ||| 2 ^ j) P.length + totP F.sz F.pg F.pk F.L.length (F.L.length - k - 1) := by
        unfold Img.l lefS
        dsimp only
        rw [if_pos rfl, hdn', if_neg (by omega), Int.toNat_natCast, List.length_set]
      rw [this]
      omega
  · rw [if_neg hf] at hch ⊢
    have hf : bits ||| 2 ^ j = 2 ^ P.length - 1 := Decidable.of_not_not hf
    have hab := (all_bits hor).1 hf
    have hlk0 : lkN (bits ||| 2 ^ j) P.length = 0 := by
      rw [lk_same (B := bits ||| 2 ^ j) (C := 2 ^ P.length - 1) fun i _ => by rw [hf]]
      unfold lkN
      rw [List.filter_eq_nil_iff.2]
      · rfl
      · intro i hi
        have := hab i (List.mem_range.1 hi)
        rw [hf] at this
        rw [this]
        decide
    have hJ : joinS (P.set j (pkt F.sz F.pg F.pk F.d k j)) = pgS F.d F.pg k := pk_join rfl F.hc hlt F.ok.2.1 k1 (by rw [List.length_set]) fun i hi => hset i hi (hab i hi)
    have hvf := F.ok.2.2 k hlt
    rw [hJ, if_pos hvf] at hch ⊢
    obtain ⟨b1, b2, b3, b4, b5, b6, b7, b8, b9⟩ := F.bd
    have hpw : ((k + 1 : Nat) : Int) * F.pg = k * F.pg + F.pg := by rw [Int.natCast_add, Int.add_mul]; simp
    have hpn := parts_lt (sz := F.sz) (pg := F.pg) (i := ((k + 1 : Nat) : Int)) (by omega)
    rw [← b8] at hpn
    have hpk := (parts_lt (sz := F.sz) (pg := F.pg) (i := (k : Int)) (by omega)).1 (by rw [← b8]; omega)
    have h0 : 0 ≤ (k : Int) * F.pg := Int.mul_nonneg (by omega) (by omega)
    have hdF := F.ok.2.1
    have hdat : data ++ pgS F.d F.pg k = F.d.extract 0 (min (((k : Int) + 1) * F.pg) F.d.size).toNat := by
      rw [e6]
      unfold pgS
      have e : data.size = ((k : Int) * F.pg).toNat := by omega
      rw [e]
      exact ext_join (Nat.zero_le _) (by rw [Int.add_mul, Int.one_mul]; omega) (by omega)
    have hnsz : (((data ++ pgS F.d F.pg k).size : Nat) : Int) = min (k * F.pg + F.pg) F.sz := by
      rw [hdat, ByteArray.size_extract, Int.add_mul, Int.one_mul]
      omega
    have hdn2 : dnN F.sz F.pg F.L.length (data ++ pgS F.d F.pg k).size = ((k + 1 : Nat) : Int) := by
      unfold dnN
      rw [hnsz]
      by_cases h : min ((k : Int) * F.pg + F.pg) F.sz = F.sz
      · rw [if_pos h]
        omega
      · rw [if_neg h]
        have : min ((k : Int) * F.pg + F.pg) F.sz = ((k + 1 : Nat) : Int) * F.pg := by omega
        rw [this]
        exact Int.mul_ediv_cancel _ (by omega)
    refine ⟨⟨rfl, g2, hch, fun _ => ⟨rfl, rfl, rfl, rfl, rfl, ?_, fun k' hk' i hi hbi => ?_⟩⟩, ?_, rfl, fun h => absurd (by omega) h⟩
    · show data ++ pgS F.d F.pg k = F.d.extract 0 (data ++ pgS F.d F.pg k).size
      rw [hdat]
      congr 1
      rw [ByteArray.size_extract]
      omega
    · have : (nxS ⟨F.v, id, true, F.v, F.sz, F.pg, F.pk, F.L, data ++ pgS F.d F.pg k, bits ||| 2 ^ j, P.set j (pkt F.sz F.pg F.pk F.d k j)⟩).bits = 0 := rfl
      rw [this, Nat.zero_testBit] at hbi
      exact absurd hbi (by decide)
    · have : F.l (nxS ⟨F.v, id, true, F.v, F.sz, F.pg, F.pk, F.L, data ++ pgS F.d F.pg k, bits ||| 2 ^ j, P.set j (pkt F.sz F.pg F.pk F.d k j)⟩) = totP F.sz F.pg F.pk F.L.length (F.L.length - k - 1) := by
        show (if (true : Bool) = true then _ else 1 + totP F.sz F.pg F.pk F.L.length F.L.length) = _
        rw [if_pos rfl]
        show (if dnN F.sz F.pg F.L.length (data ++ pgS F.d F.pg k).size = F.L.length then 0 else lkN 0 (if dnN F.sz F.pg F.L.length (data ++ pgS F.d F.pg k).size = F.L.length then [] else List.replicate (pkC F.sz F.pg F.pk (dnN F.sz F.pg F.L.length (data ++ pgS F.d F.pg k).size)).toNat (⟨#[]⟩ : ByteArray)).length + totP F.sz F.pg F.pk F.L.length (F.L.length - (dnN F.sz F.pg F.L.length (data ++ pgS F.d F.pg k).size).toNat - 1)) = _
        rw [hdn2]
        by_cases hkn : k + 1 = F.L.length
        · rw [if_pos (by omega), show F.L.length - k - 1 = 0 by omega]
          rfl
        · rw [if_neg (by omega), if_neg (by omega), List.length_replicate, lk_zero, Int.toNat_natCast]
          obtain ⟨r, hr⟩ : ∃ r, F.L.length - k - 1 = r + 1 := ⟨F.L.length - k - 2, by omega⟩
          rw [hr]
          show _ = totP F.sz F.pg F.pk F.L.length r + (pkC F.sz F.pg F.pk ((F.L.length - 1 - r : Nat) : Int)).toNat
          rw [show F.L.length - 1 - r = k + 1 by omega, show F.L.length - (k + 1) - 1 = r by omega]
          omega
      rw [this]
      omega
/-- The manifest. -/
theorem man_good (F : Img) {s : Sto} (hg : F.g s) (hk : s.kn = false) : F.g (heS s ⟨3, F.v, F.D, 0, 0, 0, encS F.v F.sz F.pg F.pk F.L⟩) ∧ F.l (heS s ⟨3, F.v, F.D, 0, 0, 0, encS F.v F.sz F.pg F.pk F.L⟩) + 1 = F.l s ∧ (heS s ⟨3, F.v, F.D, 0, 0, 0, encS F.v F.sz F.pg F.pk F.L⟩).kn = true := by
  obtain ⟨g1, g2, g3, g4⟩ := hg
  clear g4
  obtain ⟨b1, b2, b3, b4, b5, b6, b7, b8, b9⟩ := F.bd
  have hno : s.data.size = 0 := by
    rcases chS_spec g3 with h | ⟨_, _, _, h⟩
    · exact (of_decide_eq_true h).2.2.2.2.1
    · exact (of_decide_eq_true (h hk)).2.1
  have hd0 : s.data = ⟨#[]⟩ := empty_size.1 hno
  obtain ⟨E, hE⟩ : ∃ E, encS F.v F.sz F.pg F.pk F.L = E := ⟨_, rfl⟩
  obtain ⟨d1, d2, d3⟩ := de_enc F.hc E hE
  obtain ⟨p1, p2, p3, p4⟩ := enc_parts (L := F.L) (by omega) (by omega) (by omega) (by omega) E hE
  have hD : dig 0 (idB (encS F.v F.sz F.pg F.pk F.L)).data.toList = F.D := rfl
  have hhe : heS s ⟨3, F.v, F.D, 0, 0, 0, E⟩ = nxS { s with kn := true, mv := F.v, ms := F.sz, mg := F.pg, mq := F.pk, L := F.L } := by
    unfold heS
    dsimp only
    rw [if_neg (fun h => absurd h.1 (by decide)), if_pos ⟨rfl, ⟨g1.symm, g2.symm⟩, hk⟩]
    unfold maS
    dsimp only
    rw [d1, p1, p2, p3, p4, d2, d3, if_pos ⟨rfl, g1.symm, by rw [g2]⟩]
  have hvr : 1 ≤ s.ver ∧ s.ver ≤ 65535 ∧ s.id.size = 32 := by
    rw [g1, g2]
    exact ⟨b1.1, b1.2, b9⟩
  have hch : chS (heS s ⟨3, F.v, F.D, 0, 0, 0, E⟩) = true := by
    have := ch_man (d := E) g3 hvr hk
    have e : heS s ⟨3, F.v, F.D, 0, 0, 0, E⟩ = maS s E := by
      unfold heS
      dsimp only
      rw [if_neg (fun h => absurd h.1 (by decide)), if_pos ⟨rfl, ⟨g1.symm, g2.symm⟩, hk⟩]
    rw [e]
    exact this
  rw [hE]
  have hdn : dnN F.sz F.pg F.L.length s.data.size = 0 := by
    unfold dnN
    rw [hno, if_neg (by omega)]
    exact Int.zero_ediv _
  rw [hhe] at hch ⊢
  refine ⟨⟨g1, g2, hch, fun _ => ⟨rfl, rfl, rfl, rfl, rfl, ?_, fun k' hk' i hi hbi => ?_⟩⟩, ?_, rfl⟩
  · show s.data = F.d.extract 0 s.data.size
    rw [hno, hd0]
    apply ByteArray.ext
    rw [ByteArray.data_extract]
    simp
  · have : (nxS { s with kn := true, mv := F.v, ms := F.sz, mg := F.pg, mq := F.pk, L := F.L }).bits = 0 := rfl
    rw [this, Nat.zero_testBit] at hbi
    exact absurd hbi (by decide)
  · have h1 : F.l s = 1 + totP F.sz F.pg F.pk F.L.length F.L.length := by
      unfold Img.l lefS
      rw [hk]
      exact if_neg (by decide)
    have h2 : F.l (nxS { s with kn := true, mv := F.v, ms := F.sz, mg := F.pg, mq := F.pk, L := F.L }) = totP F.sz F.pg F.pk F.L.length F.L.length := by
      show (if (true : Bool) = true then _ else 1 + totP F.sz F.pg F.pk F.L.length F.L.length) = _
      rw [if_pos rfl]
      show (if dnN F.sz F.pg F.L.length s.data.size = F.L.length then 0 else lkN 0 (if dnN F.sz F.pg F.L.length s.data.size = F.L.length then [] else List.replicate (pkC F.sz F.pg F.pk (dnN F.sz F.pg F.L.length s.data.size)).toNat (⟨#[]⟩ : ByteArray)).length + totP F.sz F.pg F.pk F.L.length (F.L.length - (dnN F.sz F.pg F.L.length s.data.size).toNat - 1)) = _
      rw [hdn, if_neg (by omega), if_neg (by omega), List.length_replicate, lk_zero]
      obtain ⟨r, hr⟩ : ∃ r, F.L.length = r + 1 := ⟨F.L.length - 1, by omega⟩
      rw [hr]
      show _ = totP F.sz F.pg F.pk (r + 1) r + (pkC F.sz F.pg F.pk ((r + 1 - 1 - r : Nat) : Int)).toNat
      rw [show r + 1 - 1 - r = 0 by omega]
      show (pkC F.sz F.pg F.pk 0).toNat + totP F.sz F.pg F.pk (r + 1) (r + 1 - (0 : Int).toNat - 1) = _
      rw [show r + 1 - (0 : Int).toNat - 1 = r by simp]
      exact Nat.add_comm _ _
    rw [h1, h2]
    omega
/-- The packets that are lacking. -/
def srvJ (B K : Nat) : List Nat := (List.range K).filter fun j => !B.testBit j
def lacU (F : Img) (k B K : Nat) : List Upd := (srvJ B K).map fun j : Nat => ⟨4, F.v, F.D, k, j, 0, pkt F.sz F.pg F.pk F.d k j⟩
theorem srv_eq (F : Img) {B k K : Nat} (hlt : k < F.L.length) (hK : pkC F.sz F.pg F.pk k = K) (hB : B < 2 ^ K) : srvL F.st k (2 ^ K - 1 - B) = lacU F k B K := by
  show (if (k : Int) < 0 then _ else if (k : Int) < dnN F.sz F.pg F.L.length F.d.size then (preL F.sz F.pg F.pk F.d k (2 ^ K - 1 - B) (pkC F.sz F.pg F.pk k).toNat).map (ansU F.v F.D) else []) = _
  rw [if_neg (by omega), F.dnF, if_pos (by omega), hK, Int.toNat_natCast]
  unfold preL lacU srvJ
  rw [List.map_map]
  have e : (List.range K).filter (2 ^ K - 1 - B).testBit = (List.range K).filter fun j => !B.testBit j := List.filter_congr fun j hj => by
    rw [Nat.sub_sub, Nat.add_comm 1 B, Nat.testBit_two_pow_sub_succ hB, decide_eq_true (List.mem_range.1 hj), Bool.true_and]
  rw [e]
  exact List.map_congr_left fun j _ => rfl
theorem lk_two {B K j1 j2 : Nat} (h1 : B.testBit j1 = false) (h2 : B.testBit j2 = false) (hj1 : j1 < K) (hj2 : j2 < K) (hne : j1 ≠ j2) : lkN B K ≠ 1 := fun h => by
  have h3 := lk_set h1 K hj1
  have h4 := lk_none (B := B ||| 2 ^ j1) (K := K) (by omega) j2 hj2
  rw [Nat.testBit_or, Nat.testBit_two_pow_of_ne hne, Bool.or_false, h2] at h4
  exact absurd h4 (by decide)
/-- A node hears those answers that hd tells. -/
def rdS (l : List Upd) (hd : Nat → Bool) (s : Sto) : Nat → Sto
  | 0 => s
  | i + 1 => if hd i then heS (rdS l hd s i) (l.getD i upd0) else rdS l hd s i
theorem rd_yes {l : List Upd} {hd : Nat → Bool} {s : Sto} {i : Nat} (h : hd i = true) : rdS l hd s (i + 1) = heS (rdS l hd s i) (l.getD i upd0) := if_pos h
theorem rd_no {l : List Upd} {hd : Nat → Bool} {s : Sto} {i : Nat} (h : hd i = false) : rdS l hd s (i + 1) = rdS l hd s i := if_neg (by rw [h]; decide)
theorem rnd_known (F : Img) {s : Sto} (hg : F.g s) (hk : s.kn = true) {k : Nat} (hdn : dnN F.sz F.pg F.L.length s.data.size = k) (hlt : k < F.L.length) {K : Nat} (hK : s.P.length = K) (hd : Nat → Bool) : ∀ i : Nat, i ≤ (srvJ s.bits K).length →
    F.g (rdS (lacU F k s.bits K) hd s i) ∧ (rdS (lacU F k s.bits K) hd s i).kn = true ∧ F.l (rdS (lacU F k s.bits K) hd s i) ≤ F.l s ∧ ((∃ t, t < i ∧ hd t = true) → F.l (rdS (lacU F k s.bits K) hd s i) < F.l s) ∧
    (i < (srvJ s.bits K).length → (rdS (lacU F k s.bits K) hd s i).data = s.data ∧ (rdS (lacU F k s.bits K) hd s i).P.length = K ∧ ∀ j ∈ (srvJ s.bits K).drop i, (rdS (lacU F k s.bits K) hd s i).bits.testBit j = false) := by
  have hmem : ∀ j ∈ srvJ s.bits K, j < K ∧ s.bits.testBit j = false := fun j hj => by
    obtain ⟨h1, h2⟩ := List.mem_filter.1 hj
    exact ⟨List.mem_range.1 h1, by simpa using h2⟩
  have hnd : (srvJ s.bits K).Nodup := List.nodup_range.filter _
  intro i
  induction i with
  | zero => exact fun _ => ⟨hg, hk, Nat.le_refl _, fun ⟨t, h, _⟩ => absurd h (Nat.not_lt_zero _), fun _ => ⟨rfl, hK, fun j hj => (hmem j hj).2⟩⟩
  | succ i ih =>
    intro hi
    obtain ⟨i1, i2, i3, i4, i5⟩ := ih (by omega)
    obtain ⟨i5, i6, i7⟩ := i5 (by omega)
    have hdr := List.drop_eq_getElem_cons (l := srvJ s.bits K) (i := i) (by omega)
    obtain ⟨j, hj⟩ : ∃ j, (srvJ s.bits K)[i] = j := ⟨_, rfl⟩
    rw [hj] at hdr
    have hnd2 : ((srvJ s.bits K).drop i).Nodup := (List.drop_sublist i _).nodup hnd
    rw [hdr] at hnd2 i7
    have hju := i7 j List.mem_cons_self
    have hjK := (hmem j (by rw [← hj]; exact List.getElem_mem _)).1
    have hrest : ∀ j' ∈ (srvJ s.bits K).drop (i + 1), j ≠ j' ∧ j' < K := fun j' h => ⟨fun e => (List.nodup_cons.1 hnd2).1 (by rw [e]; exact h), (hmem j' (List.mem_of_mem_drop h)).1⟩
    cases hh : hd i with
    | false =>
      rw [rd_no hh]
      refine ⟨i1, i2, i3, fun ⟨t, h1, h2⟩ => i4 ⟨t, ?_, h2⟩, fun _ => ⟨i5, i6, fun j' h => i7 j' (List.mem_cons_of_mem _ h)⟩⟩
      rcases Nat.lt_or_ge t i with h | h
      · exact h
      · obtain rfl : t = i := by omega
        rw [hh] at h2
        exact absurd h2 (by decide)
    | true =>
      have hu : (lacU F k s.bits K).getD i upd0 = ⟨4, F.v, F.D, k, j, 0, pkt F.sz F.pg F.pk F.d k j⟩ := by
        unfold lacU
        rw [List.getD_eq_getElem?_getD, List.getElem?_map, List.getElem?_eq_getElem (by omega), hj]
        rfl
      rw [rd_yes hh, hu]
      obtain ⟨p1, p2, p3, p4⟩ := put_good F i1 i2 (by rw [i5]; exact hdn) hlt (by rw [i6]; exact hjK) hju
      refine ⟨p1, p3, by omega, fun _ => by omega, fun hlt2 => ?_⟩
      have hdr2 := List.drop_eq_getElem_cons (l := srvJ s.bits K) (i := i + 1) hlt2
      have hm2 : (srvJ s.bits K)[i + 1] ∈ (srvJ s.bits K).drop (i + 1) := by rw [hdr2]; exact List.mem_cons_self
      obtain ⟨n1, n2⟩ := hrest _ hm2
      rw [i6] at p4
      obtain ⟨p5, p6, p7⟩ := p4 (lk_two hju (i7 _ (List.mem_cons_of_mem _ hm2)) hjK n2 n1)
      refine ⟨by rw [p5, i5], p6, fun j' h => ?_⟩
      rw [p7, Nat.testBit_or, Nat.testBit_two_pow_of_ne (hrest j' h).1, Bool.or_false]
      exact i7 j' (List.mem_cons_of_mem _ h)
/-- A round. -/
theorem rnd_ok (F : Img) {s : Sto} (hg : F.g s) (hcc : cpB s = false) : ∃ l : List Upd, srvL F.st (askU s).page (askU s).bits = l ∧ 1 ≤ l.length ∧ l.length ≤ 64 ∧ (∀ u ∈ l, okU u = true ∧ u.data.size ≤ 4096) ∧ valU 2 F.v F.D (askU s).page 0 (askU s).bits ⟨#[]⟩ = true ∧ (askU s).bits < 18446744073709551616 ∧ ((askU s).page < 0 ∨ ∃ k : Nat, (askU s).page = k ∧ k < F.L.length) ∧
    ∀ hd : Nat → Bool, ∀ i : Nat, i ≤ l.length → F.g (rdS l hd s i) ∧ F.l (rdS l hd s i) ≤ F.l s ∧ ((∃ t, t < i ∧ hd t = true) → F.l (rdS l hd s i) < F.l s) := by
  obtain ⟨b1, b2, b3, b4, b5, b6, b7, b8, b9⟩ := F.bd
  obtain ⟨g1, g2, g3, g4⟩ := id hg
  cases hk : s.kn with
  | false =>
    have hp : (askU s).page = -1 := by unfold askU; dsimp only; rw [hk]; rfl
    have hq : (askU s).bits = 0 := by unfold askU; dsimp only; rw [hk]; rfl
    have hE := encS_size (v := F.v) (sz := F.sz) (pg := F.pg) (pk := F.pk) (chk_ok F.hc).2.2.2.2
    rw [hp, hq]
    refine ⟨[⟨3, F.v, F.D, 0, 0, 0, encS F.v F.sz F.pg F.pk F.L⟩], if_pos (by decide), Nat.le_refl 1, (by show 1 ≤ 64; decide), fun u hu => ?_, ?_, by decide, .inl (by decide), fun hd i hi => ?_⟩
    · obtain rfl := List.mem_singleton.1 hu
      refine ⟨?_, by dsimp only; omega⟩
      unfold okU valU
      dsimp only
      rw [decide_eq_true ⟨b1.1, b1.2, b9⟩, if_neg (by decide), if_neg (by decide), if_pos rfl]
      exact decide_eq_true ⟨⟨by omega, by omega⟩, rfl, rfl, rfl⟩
    · unfold valU
      rw [decide_eq_true ⟨b1.1, b1.2, b9⟩, if_neg (by decide), if_pos rfl]
      decide
    · obtain ⟨m1, m2, m3⟩ := man_good F hg hk
      match i, hi with
      | 0, _ => exact ⟨hg, Nat.le_refl _, fun ⟨t, h, _⟩ => absurd h (Nat.not_lt_zero _)⟩
      | 1, _ =>
        cases hh : hd 0 with
        | false =>
          rw [rd_no hh]
          refine ⟨hg, Nat.le_refl _, fun ⟨t, h1, h2⟩ => ?_⟩
          obtain rfl : t = 0 := by omega
          rw [hh] at h2
          exact absurd h2 (by decide)
        | true =>
          rw [rd_yes hh]
          exact ⟨m1, by show F.l (heS s _) ≤ F.l s; exact Nat.le_of_succ_le (Nat.le_of_eq m2), fun _ => by show F.l (heS s _) < F.l s; exact Nat.lt_of_succ_le (Nat.le_of_eq m2)⟩
  | true =>
    obtain ⟨e1, e2, e3, e4, e5, e6, e7⟩ := g4 hk
    obtain ⟨hv, r1, r2, k, r3, r4, r5, r6⟩ := open_fc g3 hk
    have hne : ¬ (s.data.size : Int) = s.ms := fun h => by
      unfold cpB at hcc
      rw [hk, Bool.true_and] at hcc
      exact of_decide_eq_false hcc h
    have hlt : k < s.L.length := by
      rcases Nat.lt_or_ge k s.L.length with h | h
      · exact h
      · exact absurd (r5.1 (by omega)) hne
    obtain ⟨r7, K, k1, k2, k3, k4, k5, k6⟩ := r6 hlt
    have hp : (askU s).page = k := by unfold askU; dsimp only; rw [hk, if_pos rfl]; exact r3
    have hq : (askU s).bits = 2 ^ K - 1 - s.bits := by unfold askU; dsimp only; rw [hk, if_pos rfl, k4]
    rw [e2, e3, e4] at k1
    rw [e2, e3, e5] at r3
    rw [e5] at hlt
    rw [hp, hq]
    have h64 : 2 ^ K ≤ 2 ^ 64 := Nat.pow_le_pow_right (by decide) k3
    have e64 : (2 : Nat) ^ 64 = 18446744073709551616 := by decide
    have hlen : (lacU F k s.bits K).length = (srvJ s.bits K).length := by unfold lacU; rw [List.length_map]
    have hl1 : (srvJ s.bits K).length ≤ K := by
      have := List.length_filter_le (fun j => !s.bits.testBit j) (List.range K)
      rw [List.length_range] at this
      exact this
    have hl0 : 1 ≤ (srvJ s.bits K).length := by
      rcases Nat.eq_zero_or_pos (srvJ s.bits K).length with h | h
      · exact absurd ((all_bits k5).2 (lk_none h)) k6
      · exact h
    refine ⟨_, srv_eq F hlt k1 k5, by omega, by omega, fun u hu => ?_, ?_, by omega, .inr ⟨k, rfl, hlt⟩, fun hd i hi => ?_⟩
    · obtain ⟨j, hj, rfl⟩ := List.mem_map.1 hu
      have hjK := List.mem_range.1 (List.mem_filter.1 hj).1
      obtain ⟨p1, p2, p3⟩ := pkt_size F hlt k1 hjK
      refine ⟨?_, by dsimp only; omega⟩
      unfold okU valU
      dsimp only
      rw [decide_eq_true ⟨b1.1, b1.2, b9⟩, if_neg (by decide), if_neg (by decide), if_neg (by decide), if_pos rfl]
      exact decide_eq_true ⟨⟨by omega, by omega⟩, ⟨by omega, by omega⟩, ⟨by omega, by omega⟩, rfl⟩
    · unfold valU
      rw [decide_eq_true ⟨b1.1, b1.2, b9⟩, if_neg (by decide), if_pos rfl]
      exact decide_eq_true ⟨.inr ⟨⟨by omega, by omega⟩, by omega⟩, rfl, rfl⟩
    · obtain ⟨q1, q2, q3, q4, _⟩ := rnd_known F hg hk r3 hlt k4 hd i (by omega)
      exact ⟨q1, q3, q4⟩
/-- A node that knows of nothing, and hears the announcement. -/
theorem start_good (F : Img) : F.g ⟨F.v, F.D, false, 0, 0, 0, 0, [], ⟨#[]⟩, 0, []⟩ ∧ F.l ⟨F.v, F.D, false, 0, 0, 0, 0, [], ⟨#[]⟩, 0, []⟩ = 1 + ascP F.sz F.pg F.pk F.L.length := by
  obtain ⟨b1, b2, b3, b4, b5, b6, b7, b8, b9⟩ := F.bd
  refine ⟨⟨rfl, rfl, ch_new ⟨b1.1, b1.2, b9⟩, fun h => absurd (show false = true from h) (by decide)⟩, ?_⟩
  have := asc_tot (sz := F.sz) (pg := F.pg) (pk := F.pk) (n := F.L.length) F.L.length (Nat.le_refl _)
  rw [Nat.sub_self] at this
  show 1 + totP F.sz F.pg F.pk F.L.length F.L.length = _
  rw [← this]
  rfl
/-- Nothing is lacking: the image is there. -/
theorem done_good (F : Img) {s : Sto} (hg : F.g s) (h : F.l s = 0) : cpB s = true := by
  obtain ⟨g1, g2, g3, g4⟩ := hg
  unfold Img.l lefS at h
  cases hk : s.kn with
  | false =>
    rw [hk, if_neg (by decide)] at h
    omega
  | true =>
    rw [hk, if_pos rfl] at h
    obtain ⟨e1, e2, e3, e4, e5, e6, e7⟩ := g4 hk
    obtain ⟨hv, r1, r2, k, r3, r4, r5, r6⟩ := open_fc g3 hk
    have hkl : k = s.L.length := by
      rcases Nat.lt_or_ge k s.L.length with hlt | hge
      · exfalso
        obtain ⟨r7, K, k1, k2, k3, k4, k5, k6⟩ := r6 hlt
        rw [e2, e3, e5] at r3
        rw [e5] at hlt
        rw [r3, if_neg (by omega), k4] at h
        exact k6 ((all_bits k5).2 (lk_none (by omega)))
      · omega
    unfold cpB
    rw [hk, decide_eq_true (r5.1 hkl)]
    rfl
theorem data_good (F : Img) {s : Sto} (hg : F.g s) (h : cpB s = true) : s.data = F.d := by
  obtain ⟨g1, g2, g3, g4⟩ := hg
  unfold cpB at h
  rw [Bool.and_eq_true] at h
  obtain ⟨e1, e2, e3, e4, e5, e6, e7⟩ := g4 h.1
  have h2 := of_decide_eq_true h.2
  have hd := F.ok.2.1
  rw [e6, show s.data.size = F.d.size by omega]
  apply ByteArray.ext
  rw [ByteArray.data_extract]
  have : F.d.data.size = F.d.size := rfl
  rw [← this, Array.extract_size]
end Go.Proofs.Ytekkdoaakilafaa
