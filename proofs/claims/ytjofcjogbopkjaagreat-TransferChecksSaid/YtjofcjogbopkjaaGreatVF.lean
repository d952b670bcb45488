/- Walking in numbers of one's own: the library, part F. -/
import Derived.Test.YtjofcjogbopkjaaGreatVE
set_option linter.unusedVariables false
set_option linter.unusedSimpArgs false
/- Walking in numbers of one's own: append of zeros. -/
namespace Go.Proofs.YtjofcjogbopkjaaGreat.Av
open Go.RowKit (Below)
section
variable {P : Program} {ρ : Operand → Option Value} {m : Mem} {d : Option Tmp} {t : TypeId} {pp : String} {af : Array Edge} {g : Option (Nat × Bool)}
omit ρ m d t pp af g in
theorem run_app_room0 {sT xT ty e : TypeId} {ti : TypeInfo} {z X : Value} {n cap k : Nat} {l : Int} {kx kt : IntKind} {a : Addr} {w w' : World} {ys : List Value} (hs : P.underlying sT = some (.slice e)) (hi : P.info? e = some ti) (hz : ti.zero = some z) (hx : P.underlying xT = some (.int kt)) (hX : X = .int kx l) (hl : 0 < l ∧ l ≤ 16777216) (hk : l.toNat = k) (hsz : k * ti.size ≠ 0)
    (hroom : n + k ≤ cap) (hlb : l * (ti.bytes : Int) ≤ 281474976710656) (hys : (Builtin.zeroCells z.cells k).toList = ys) (hst : (storeCells (a.add (n * ti.size)) ys).run P w = .ok () w') :
    (Builtin.append_ #[sT, xT] ty #[.slice (some a) n cap, X]).run P w = .ok (.slice (some a) (n + k) cap) w' := by
  subst hX hk hys
  have hw : IntKind.i64.wrap l = l := wrap64 (by omega)
  have h0 : ¬ l < 0 := by omega
  have h48 : ¬ (281474976710656 < l * (ti.bytes : Int)) := by omega
  simp [Builtin.append_, run_und hs, run_und hx, run_size hi, run_info hi, zeroValue, hz, asInt, asIntOf, hw, h0, h48, hroom, hst, hsz]
omit ρ m d t pp af g in
theorem run_app_grow0 {sT xT ty e : TypeId} {ti : TypeInfo} {z X : Value} {n cap k : Nat} {l : Int} {kx kt : IntKind} {base : Option Addr} {w : World} {olds ys : List Value} (hs : P.underlying sT = some (.slice e)) (hi : P.info? e = some ti) (hz : ti.zero = some z) (hx : P.underlying xT = some (.int kt)) (hX : X = .int kx l) (hl : 0 < l ∧ l ≤ 16777216) (hk : l.toNat = k) (hsz : k * ti.size ≠ 0)
    (hg : cap < n + k) (h63 : n + k ≤ 9223372036854775807) (hfit : Builtin.nextslicecap (n + k) cap * ti.bytes ≤ 281474976710656) (hlb : l * (ti.bytes : Int) ≤ 281474976710656) (hfo : (Builtin.firstCells ti.size n (.slice base n cap)).run P w.drew = .ok olds.toArray w.drew) (hys : (Builtin.zeroCells z.cells k).toList = ys) :
    (Builtin.append_ #[sT, xT] ty #[.slice base n cap, X]).run P w = .ok (.slice (some ⟨w.heap.size, 0, none⟩) (n + k) (grownCap w (n + k) cap e))
        (w.drew.alloc (.cells (olds.toArray ++ ys.toArray ++ Builtin.zeroCells z.cells (grownCap w (n + k) cap e - (n + k))) e)) := by
  subst hX hk hys
  have hw : IntKind.i64.wrap l = l := wrap64 (by omega)
  have h0 : ¬ l < 0 := by omega
  have h48 : ¬ (281474976710656 < l * (ti.bytes : Int)) := by omega
  have hn : ¬ (n + l.toNat ≤ cap) := by omega
  have h63' : ¬ (9223372036854775807 < ((n : Int) + max l 0)) := by omega
  have h48' : ¬ (281474976710656 < Builtin.nextslicecap (n + l.toNat) cap * ti.bytes) := by omega
  simp [Builtin.append_, run_und hs, run_und hx, run_size hi, run_info hi, zeroValue, hz, asInt, asIntOf, hw, h0, h48, hn, h63', h48', Question.forced, hfo, newRow, grownCap, IntKind.max, IntKind.signed, IntKind.bits, hsz]
  try (congr 2; apply Array.ext'; simp [List.append_assoc])
theorem ok_append_zeros {S x : Operand} {sT xT ct e : TypeId} {id o n c k b : Nat} {l : Int} {kx kt : IntKind} {z0 : Value} {B : Blk} {olds cs : List Value} {m' : Mem} {k' : Nat} [Ty P sT (.slice e)] [Ty P xT (.int kt)] [TyI P e 1 b [z0]] (hS : ρ S = some (.slice (some ⟨id, o, none⟩) n c)) (hB : live m id = some B) (hr : B.rw = true) (hz : Nat.beq B.z 1 = true)
    (hp : plain 2 z0 = true) (h1c : z0.oneCell' = true) (hx : ρ x = some (.int kx l)) (hl : 0 < l ∧ l ≤ 16777216) (hk : l.toNat = k) (hfit : o + n * 1 ≤ B.cells.length) (hol : (B.cells.drop o).take (n * 1) = olds) (hcs : olds ++ List.replicate k z0 = cs) (hsm : (n + k) * b ≤ 140737488355328 ∧ n + k ≤ 9223372036854775807) (hm' : AppR (some ⟨cs, true, 1⟩) (m.set id none) m' k') :
    OpOK P ⟨d, .call ⟨.builtin .append, #[S, x], #[sT, xT]⟩, ct, pp, af, g⟩ ρ m (.slice (some ⟨k', 0, none⟩) (n + k) (n + k)) m' := .gen fun F w0 μ A w hd hm ho => by
  obtain ⟨rfl, hk'⟩ := hm'.spec
  have hk' : k' = m.length := by simpa using hk'
  have hmzB : B.z ≠ mapZ := by rw [Nat.eq_of_beq_eq_true hz]; exact notMap rfl
  have hmz' : 1 ≠ mapZ := notMap rfl
  subst hk' hcs
  have hsz : 0 < 1 := Nat.one_pos
  have hzl : [z0].length = 1 := rfl
  have hk0 : 0 < k := by omega
  have hlb : l * (b : Int) ≤ 281474976710656 := by
    have h1 : k * b ≤ (n + k) * b := Nat.mul_le_mul_right _ (by omega)
    have h2 : ((k * b : Nat) : Int) ≤ 140737488355328 := by omega
    rw [Int.natCast_mul] at h2
    rw [show l = (k : Int) by omega]
    omega
  obtain ⟨ti, zv, i1, i2, i3, i4, i5⟩ := TyI.ex (P := P) (t := e)
  have hu := Ty.eq (P := P) (t := sT)
  have hvS := ho S _ (by simp [Op.operands, Call.operands]) hS
  have hX2 := (ho x _ (by simp [Op.operands, Call.operands]) hx).int'
  have hu2 := Ty.eq (P := P) (t := xT)
  clear hm'
  generalize hxs : List.replicate k z0 = xs
  obtain ⟨ys, hys⟩ : ∃ ys, (Builtin.zeroCells zv.cells k).toList = ys := ⟨_, rfl⟩
  have l3 : xs.length = k * 1 := by rw [← hxs]; simp
  have l4 : ys.length = k * 1 := by rw [← hys, Array.length_toList, size_zeroCells, i5]; simp
  have hy0 : ys = List.replicate k z0 := by rw [← hys, i5]; apply List.ext_getElem (by simp [Builtin.zeroCells]); intro i h1 h2; simp [Builtin.zeroCells, Nat.mod_one]
  have l5 : ∀ (j : Nat) u v, xs[j]? = some u → ys[j]? = some v → VR μ u v := fun j u v hu hv => by
    rw [hy0, hxs, hu] at hv; cases hv
    have := List.mem_of_getElem? hu
    rw [← hxs] at this
    rw [List.eq_of_mem_replicate this]
    exact plain_refl μ 2 z0 hp
  have l6 : ∀ y ∈ ys, y.oneCell' = true := fun y hy => by rw [hy0] at hy; rw [List.eq_of_mem_replicate hy]; exact h1c
  obtain ⟨L, q1, q2, _⟩ := hm.blk id B hB
  have hLz : L.z = 1 := q2.z.trans (Nat.eq_of_beq_eq_true hz)
  have holl : olds.length = n * 1 := by rw [← hol]; simp; omega
  have h00 : (m.set id none).length = m.length := by simp
  have hless : RepM F w0 μ (m.set id none) w := hm.less fun i B h => (live_none h).2
  have hd0 : Dom μ (m.set id none).length := by simpa using hd
  generalize hX : A.eval S = X at hvS
  cases hvS with
  | slcNil =>
    have ho0 : olds = [] := List.eq_nil_of_length_eq_zero (by rw [holl])
    subst ho0
    rw [List.nil_append]
    simp only [Nat.zero_add] at hsm ⊢
    have hrun := run_app_grow0 (P := P) (ty := ct) (n := 0) (cap := 0) (base := none) (w := w) (olds := []) hu i1 i4 hu2 (X := A.eval x) hX2 hl hk (by rw [i2]; omega) (show 0 < 0 + k by omega) (by omega) (by rw [i3, Nat.zero_add]; exact growslice_fits hk0 hsm.1) (by rw [i3]; exact hlb) (by simp [Builtin.firstCells]) hys
    rw [Nat.zero_add] at hrun
    have hge := grownCap_ge w k 0 e
    have hsize : (([] : List Value).toArray ++ ys.toArray ++ Builtin.zeroCells zv.cells (grownCap w k 0 e - k)).size = (grownCap w k 0 e) * 1 := by
      simp only [Array.size_append, List.size_toArray, List.length_nil, Nat.zero_add, l4, size_zeroCells, i5, hzl]
      rw [← Nat.add_mul]
      congr 1; omega
    have hal := hless.drewM.alloc (e := e) (z := 1) (lo := 0) (hi := 0) (cs := xs) (c := ([] : List Value).toArray ++ ys.toArray ++ Builtin.zeroCells zv.cells (grownCap w k 0 e - k)) hd0 (fun j u hu => by
      have hjl : j < ys.length := by
        have := (List.getElem?_eq_some_iff.1 hu).1
        omega
      have hyj : ys[j]? = some ys[j] := List.getElem?_eq_getElem hjl
      refine ⟨ys[j], ?_, l5 _ u _ hu hyj⟩
      rw [Array.getElem?_append_left (by simp; omega)]
      simp) (fun j _ => by omega)
    rw [h00] at hal
    refine ⟨.slice (some ⟨w.heap.size, 0, none⟩) k (grownCap w k 0 e), _, _, ?_, Mu.set_ext, by simpa using Mu.set_dom hd, hal,
      .slc (L := ⟨w.heap.size, 0, _, 1, true⟩) Mu.set_same hge (fun _ => rfl) (fun _ => rfl) (fun _ => by simp only [Nat.zero_add]; rw [hsize]; exact Nat.le_refl _)⟩
    simp [execOp, resolve, invoke, builtin, hX, hrun]
  | slc hL hc hb hof hcap =>
    rename_i cap b' off L1
    rw [q1] at hL; cases hL
    have hb := hb (.inr (q2.rw hr)); subst hb
    have hcap := hcap (q2.rw hr)
    -- the elements that are there
    obtain ⟨os, o1, o2⟩ := exists_list (fun j y => w.cell? ⟨L.b, off + j, none⟩ = some y ∧ ∀ u, olds[j]? = some u → VR μ u y) (n * 1) fun j hj => by
      have hn0 : n ≠ 0 := fun h => by rw [h] at hj; simp at hj
      have := hof hn0; subst this
      have hxj : B.cells[o + j]? = some olds[j] := by
        have : ((B.cells.drop o).take (n * 1))[j]? = some olds[j] := by
          have h0 : olds[j]? = some olds[j] := List.getElem?_eq_getElem (by omega)
          rw [← h0, hol]
        rw [List.getElem?_take, if_pos hj, List.getElem?_drop] at this
        exact this
      obtain ⟨y, y1, y2⟩ := q2.cells.cell hmzB hxj
      refine ⟨y, by rw [Nat.add_assoc]; exact y1, fun u hu => ?_⟩
      rw [List.getElem?_eq_getElem (by omega)] at hu
      cases hu; exact y2
    have hbd : w.heap.size ≤ w.drew.heap.size := Nat.le_refl _
    by_cases hroom : n + k ≤ cap
    · by_cases hN : L.N = 0
      · rw [hLz, hN] at hcap
        obtain rfl : cap = 0 := by
          rcases Nat.eq_zero_or_pos cap with h | h
          · exact h
          · have := Nat.mul_pos h hsz; omega
        omega
      have hrow := (q2.row (.inl (q2.rw hr)) (.inl ⟨hr, hN⟩)).row hmzB
      obtain ⟨cc, et, lo, hi, r1, r2, r3⟩ := hrow
      have hcell : ∀ j, w.cell? ⟨L.b, j, none⟩ = cc[j]? := fun j => by simp [World.cell?, r1]
      have e1 : n * 1 + k * 1 = (n + k) * 1 := (Nat.add_mul _ _ _).symm
      have e2 : (n + k) * 1 ≤ cap * 1 := Nat.mul_le_mul_right _ hroom
      rw [hLz] at hcap
      have hfitc : off + n * 1 + ys.length ≤ cc.size := by rw [l4, r2]; omega
      have hst := run_storeCells_cells (P := P) L.b (off + n * 1) ys 0 w (fun j hj => by
          rw [hcell]; simp; omega) (fun j hj => by
          simp only [World.frozen?, r1]
          have := r3.2 (off + n * 1 + 0 + j) (by omega)
          simpa using this) l6
      rw [Nat.add_zero] at hst
      obtain ⟨a1, a2, a3, a4, a5, c', a6, a7, a8, a9⟩ := setCells_heap L.b ys (off + n * 1) w cc r1 hfitc
      have hrun := run_app_room0 (P := P) (ty := ct) hu i1 i4 hu2 (X := A.eval x) hX2 hl hk (by rw [i2]; omega) hroom (by rw [i3]; exact hlb) (w := w) (w' := w.setCells L.b (off + n * 1) ys) (a := ⟨L.b, off, none⟩) hys (by rw [i2, add_off]; exact hst)
      refine ⟨.slice (some ⟨L.b, off, none⟩) (n + k) cap, w.setCells L.b (off + n * 1) ys, _, ?_, Mu.set_ext, by simpa using Mu.set_dom hd,
        hm.replace hd (L' := ⟨L.b, off, L.N, 1, true⟩) (cs := olds ++ xs) hB q1 ⟨hr, hN⟩ rfl rfl a1 a2 a3 a4 a5 ⟨c', et, lo, hi, a6, a7.trans r2, r3.1, fun j hj => r3.2 j (by omega)⟩ fun j x hx => ?_,
        .slc (L := ⟨L.b, off, L.N, 1, true⟩) Mu.set_same hroom (fun _ => rfl) (fun _ => rfl) (fun _ => hcap)⟩
      · simp [execOp, resolve, invoke, builtin, hX]
        rw [hrun]; simp
      · have hcell' : (w.setCells L.b (off + n * 1) ys).cell? ⟨L.b, off + j, none⟩ = c'[off + j]? := by simp only [World.cell?, a6]; rfl
        show ∃ y, (w.setCells L.b (off + n * 1) ys).cell? ⟨L.b, off + j, none⟩ = some y ∧ VR μ x y
        rw [hcell']
        rcases Nat.lt_or_ge j (n * 1) with hj | hj
        · rw [List.getElem?_append_left (by omega)] at hx
          have hoj : os[j]? = some os[j] := List.getElem?_eq_getElem (by omega)
          have := o2 j _ hoj
          exact ⟨os[j], by rw [a9 (off + j) (by omega), ← hcell]; exact this.1, this.2 x hx⟩
        · rw [List.getElem?_append_right (by omega), holl] at hx
          have hjl : j - n * 1 < ys.length := by
            have := (List.getElem?_eq_some_iff.1 hx).1
            omega
          have hyj : ys[j - n * 1]? = some ys[j - n * 1] := List.getElem?_eq_getElem hjl
          refine ⟨ys[j - n * 1], ?_, l5 _ x _ hx hyj⟩
          have := a8 (j - n * 1) hjl
          rw [show off + n * 1 + (j - n * 1) = off + j by omega] at this
          rw [this]; exact hyj
    · have hcl : n ≤ cap := hc
      have hfo : (Builtin.firstCells ti.size n (.slice (some ⟨L.b, off, none⟩) n cap)).run P w.drew = .ok os.toArray w.drew :=
        run_firstCells_some w.drew ti.size n _ n cap os (by rw [o1, i2]) fun j v hv => by rw [add_off]; exact (o2 j v hv).1
      have hrun := run_app_grow0 (P := P) (ty := ct) (w := w) hu i1 i4 hu2 (X := A.eval x) hX2 hl hk (by rw [i2]; omega) (show cap < n + k by omega) hsm.2 (by rw [i3]; exact growslice_fits (by omega) hsm.1) (by rw [i3]; exact hlb) hfo hys
      have hge := grownCap_ge w (n + k) cap e
      have hm1 : RepM F w0 μ (m.set id none) w.drew := hm.drewM.less fun i B h => (live_none h).2
      have hsize : (os.toArray ++ ys.toArray ++ Builtin.zeroCells zv.cells (grownCap w (n + k) cap e - (n + k))).size = (grownCap w (n + k) cap e) * 1 := by
        simp only [Array.size_append, List.size_toArray, o1, l4, size_zeroCells, i5, hzl]
        rw [← Nat.add_mul, ← Nat.add_mul]
        congr 1; omega
      refine ⟨.slice (some ⟨w.heap.size, 0, none⟩) (n + k) (grownCap w (n + k) cap e), _, _, ?_, ?_, ?_, hm1.alloc (e := e) (z := 1) (lo := 0) (hi := 0) (cs := olds ++ xs) (c := os.toArray ++ ys.toArray ++ Builtin.zeroCells zv.cells (grownCap w (n + k) cap e - (n + k))) (by simpa using hd) (fun j u hu => ?_) (fun j _ => by omega),
        .slc (L := ⟨w.heap.size, 0, (os.toArray ++ ys.toArray ++ Builtin.zeroCells zv.cells (grownCap w (n + k) cap e - (n + k))).size, 1, true⟩) (by rw [h00]; exact Mu.set_same) hge (fun _ => rfl) (fun _ => rfl) (fun _ => by rw [hsize]; exact Nat.le_of_eq (Nat.zero_add _))⟩
      · simp [execOp, resolve, invoke, builtin, hX]
        rw [hrun]; simp
      · simpa using Mu.set_ext
      · simpa using Mu.set_dom hd
      · rcases Nat.lt_or_ge j (n * 1) with hj | hj
        · rw [List.getElem?_append_left (by omega)] at hu
          have hoj : os[j]? = some os[j] := List.getElem?_eq_getElem (by omega)
          refine ⟨os[j], ?_, (o2 j _ hoj).2 u hu⟩
          rw [Array.getElem?_append_left (by simp; omega), Array.getElem?_append_left (by simp; omega)]
          simp
        · rw [List.getElem?_append_right (by omega), holl] at hu
          have hjl : j - n * 1 < ys.length := by
            have := (List.getElem?_eq_some_iff.1 hu).1
            omega
          have hyj : ys[j - n * 1]? = some ys[j - n * 1] := List.getElem?_eq_getElem hjl
          refine ⟨ys[j - n * 1], ?_, l5 _ u _ hu hyj⟩
          rw [Array.getElem?_append_left (by simp; omega), Array.getElem?_append_right (by simp; omega)]
          simp [o1]
end
end Go.Proofs.YtjofcjogbopkjaaGreat.Av
/- Walking in numbers of one's own: blocks numbered anew, where holes may bear any number. -/
namespace Go.Proofs.YtjofcjogbopkjaaGreat.Av
def nin (i : Nat) : List Nat → Mem → Bool
  | j :: gl, some _ :: mh => !Nat.beq i j && nin i gl mh
  | _ :: gl, none :: mh => nin i gl mh
  | _, _ => true
theorem nin_spec {i : Nat} : ∀ {gl : List Nat} {mh : Mem}, nin i gl mh = true → ∀ (k : Nat) B, live mh k = some B → gl[k]? ≠ some i
  | [], _, _, k, B, _ => by simp
  | j :: gl, [], _, k, B, h => by simp [live] at h
  | j :: gl, none :: mh, h, k, B, hB => by
    cases k with
    | zero => simp [live] at hB
    | succ k => simpa using nin_spec (gl := gl) (mh := mh) (by simpa [nin] using h) k B (by simpa [live] using hB)
  | j :: gl, some B' :: mh, h, k, B, hB => by
    simp only [nin, Bool.and_eq_true, Bool.not_eq_true'] at h
    cases k with
    | zero =>
      intro e
      simp at e
      subst e
      simp [Nat.beq_refl] at h
    | succ k => simpa using nin_spec (gl := gl) (mh := mh) h.2 k B (by simpa [live] using hB)
/-- The blocks mh, their old numbers gl, as the blocks m have them. -/
inductive MemD (g : Nat → Nat) (m : Mem) : List Nat → Mem → Prop
  | nil : MemD g m [] []
  | hole {i gl mh} : MemD g m gl mh → MemD g m (i :: gl) (none :: mh)
  | blk {i gl mh cs cs' rw z} : live m i = some ⟨cs', rw, z⟩ → WkL cs' (renL g cs) → nin i gl mh = true → MemD g m gl mh → MemD g m (i :: gl) (some ⟨cs, rw, z⟩ :: mh)
theorem MemD.spec {g m gl mh} (h : MemD g m gl mh) : gl.length = mh.length ∧ (∀ (i : Nat) (j : Nat) B, gl[i]? = some j → live mh i = some B → ∃ B', live m j = some B' ∧ WkL B'.cells (renL g B.cells) ∧ B'.rw = B.rw ∧ B'.z = B.z) ∧
    ∀ (i j : Nat) B B', live mh i = some B → live mh j = some B' → i ≠ j → gl[i]? ≠ gl[j]? := by
  induction h with
  | nil => exact ⟨rfl, fun i j B h => by simp at h, fun i j B B' h => by simp [live] at h⟩
  | hole _ ih =>
    refine ⟨by simp [ih.1], fun i j B h1 h2 => ?_, fun i j B B' h1 h2 hne => ?_⟩
    · cases i with
      | zero => simp [live] at h2
      | succ i => exact ih.2.1 i j B (by simpa using h1) (by simpa [live] using h2)
    · cases i with
      | zero => simp [live] at h1
      | succ i => cases j with
        | zero => simp [live] at h2
        | succ j => simpa using ih.2.2 i j B B' (by simpa [live] using h1) (by simpa [live] using h2) (by omega)
  | blk h1 h2 h3 _ ih =>
    refine ⟨by simp [ih.1], fun i j B k1 k2 => ?_, fun i j B B' k1 k2 hne => ?_⟩
    · cases i with
      | zero =>
        simp [live] at k1 k2
        subst k1 k2
        exact ⟨_, h1, h2, rfl, rfl⟩
      | succ i => exact ih.2.1 i j B (by simpa using k1) (by simpa [live] using k2)
    · cases i with
      | zero => cases j with
        | zero => exact absurd rfl hne
        | succ j =>
          have := nin_spec h3 j B' (by simpa [live] using k2)
          simpa using this.symm
      | succ i => cases j with
        | zero =>
          have := nin_spec h3 i B (by simpa [live] using k1)
          simpa using this
        | succ j => simpa using ih.2.2 i j B B' (by simpa [live] using k1) (by simpa [live] using k2) (by omega)
theorem renum_listD {n0 : Nat} {m mh : Mem} (gl : List Nat) (h1 : gl.take n0 = List.range n0) (h2 : n0 ≤ gl.length) (h4 : MemD (gOf gl m.length) m gl mh) : Renum n0 (gOf gl m.length) m mh := by
  obtain ⟨e1, e2, e3⟩ := h4.spec
  have hlt : ∀ {i B}, live mh i = some B → i < gl.length := fun {i B} hB => by
    rw [e1]
    rw [live_some] at hB
    exact (List.getElem?_eq_some_iff.1 hB).1
  refine ⟨fun i hi => ?_, by omega, fun i hi => ?_, fun i B hB => ?_, fun i j B B' hB hB' hne => ?_⟩
  · have : (gl.take n0)[i]? = some i := by rw [h1]; simp [hi]
    rw [List.getElem?_take, if_pos hi] at this
    simp [gOf, this]
  · have : gl[i]? = none := List.getElem?_eq_none (by omega)
    simp [gOf, this]
  · obtain ⟨x, hg⟩ : ∃ x, gl[i]? = some x := ⟨_, List.getElem?_eq_getElem (hlt hB)⟩
    have : gOf gl m.length i = x := by simp [gOf, hg]
    rw [this]
    exact e2 i _ B hg hB
  · have h1 := List.getElem?_eq_getElem (hlt hB)
    have h2 := List.getElem?_eq_getElem (hlt hB')
    have := e3 i j B B' hB hB' hne
    rw [h1, h2] at this
    simp only [gOf, h1, h2]
    exact fun h => this (congrArg some h)
/-- The same, found by itself. -/
theorem fitsD {n0 : Nat} {σh σ : Slots} {m mh : Mem} (gl : List Nat) (hs : SlotsR (gOf gl m.length) σ σh := by ((repeat (first | exact SlotsR.nil | (apply SlotsR.cons; rfl; (first | exact Wk.refl _ | exact Wk.nil | (apply Wk.aggL; (repeat (first | exact WkL.nil | (apply WkL.cons; (first | exact Wk.refl _ | exact Wk.nil)))); first | done | fail))))); first | done | fail))
    (h4 : MemD (gOf gl m.length) m gl mh := by ((repeat (first | exact MemD.nil | (apply MemD.blk; rfl; (first | exact WkL.refl _ | exact WkL.ofEq (renL_map (fun _ => rfl) _).symm | exact WkL.ofEq (renL_flat _).symm | (refine WkL.ofEq (subl_id ?_); constructor; first | done | fail) | (focus ((repeat (first | exact WkL.nil | (apply WkL.cons; (first | exact Wk.refl _ | exact Wk.nil | (apply Wk.aggL; (repeat (first | exact WkL.nil | (apply WkL.cons; (first | exact Wk.refl _ | exact Wk.nil)))); first | done | fail))))); first | done | fail))); rfl) | apply MemD.hole)); first | done | fail)) (h1 : gl.take n0 = List.range n0 := by rfl) (h2 : Nat.ble n0 gl.length = true := by rfl) : Fits n0 σh mh σ m :=
  ⟨_, renum_listD gl h1 (Nat.le_of_ble_eq_true h2) h4, hs.spec⟩
/-- A callee's end. -/
theorem renumD {n0 : Nat} {m mh : Mem} (gl : List Nat) (h4 : MemD (gOf gl m.length) m gl mh := by ((repeat (first | exact MemD.nil | (apply MemD.blk; rfl; (first | exact WkL.refl _ | exact WkL.ofEq (renL_map (fun _ => rfl) _).symm | exact WkL.ofEq (renL_flat _).symm | (refine WkL.ofEq (subl_id ?_); constructor; first | done | fail) | (focus ((repeat (first | exact WkL.nil | (apply WkL.cons; (first | exact Wk.refl _ | exact Wk.nil | (apply Wk.aggL; (repeat (first | exact WkL.nil | (apply WkL.cons; (first | exact Wk.refl _ | exact Wk.nil)))); first | done | fail))))); first | done | fail))); rfl) | apply MemD.hole)); first | done | fail)) (h1 : gl.take n0 = List.range n0 := by rfl) (h2 : Nat.ble n0 gl.length = true := by rfl) : Renum n0 (gOf gl m.length) m mh :=
  renum_listD gl h1 (Nat.le_of_ble_eq_true h2) h4
/-! ### calls again -/
section
variable {P : Program} {ops : Array Oper} {l : List Oper} {σ : Slots} {m m' : Mem} {K : Slots → Mem → Prop} {d : Option Tmp} {t : TypeId} {pp : String} {af : Array Edge}
theorem stRW {fx : Operand} {xs : Array Operand} {at_ : Array TypeId} {f : FuncId} [FnI P f] {a1 a2 : Array Value} {vs args : List Value} {r : Value} {mc : Mem} (gl : List Nat) (hc : ACalls P f args mc r (holes mc)) (k : Run P ops K l (put σ d r) m)
    (hf : ev σ fx = some (.func (.func f) a1 a2) := by rfl) (hxs : ArgsR (ev σ) xs.toList vs := by ((repeat (apply ArgsR.cons; rfl)); exact ArgsR.nil))
    (hargs : WkL (a1.toList ++ vs ++ a2.toList) (renL (gOf gl (m.length - mc.length)) args) := by (first | exact WkL.refl _ | exact WkL.ofEq (renL_map (fun _ => rfl) _).symm | exact WkL.ofEq (renL_flat _).symm | (focus ((repeat (first | exact WkL.nil | (apply WkL.cons; (first | exact Wk.refl _ | exact Wk.nil | (apply Wk.aggL; (repeat (first | exact WkL.nil | (apply WkL.cons; (first | exact Wk.refl _ | exact Wk.nil)))); first | done | fail))))); first | done | fail)))) (hgl : Nat.ble mc.length m.length = true := by rfl)
    (hsub : SubM (gOf gl (m.length - mc.length)) m gl mc := by ((repeat (first | exact SubM.nil | (apply SubM.rw; rfl; (first | exact WkL.refl _ | exact WkL.ofEq (renL_map (fun _ => rfl) _).symm | exact WkL.ofEq (renL_flat _).symm | (refine WkL.ofEq (subl_id ?_); constructor; first | done | fail) | (focus ((repeat (first | exact WkL.nil | (apply WkL.cons; (first | exact Wk.refl _ | exact Wk.nil | (apply Wk.aggL; (repeat (first | exact WkL.nil | (apply WkL.cons; (first | exact Wk.refl _ | exact Wk.nil)))); first | done | fail))))); first | done | fail)))) | (apply SubM.ro; rfl; (first | exact WkL.refl _ | exact WkL.ofEq (renL_map (fun _ => rfl) _).symm | exact WkL.ofEq (renL_flat _).symm | (refine WkL.ofEq (subl_id ?_); constructor; first | done | fail) | (focus ((repeat (first | exact WkL.nil | (apply WkL.cons; (first | exact Wk.refl _ | exact Wk.nil | (apply Wk.aggL; (repeat (first | exact WkL.nil | (apply WkL.cons; (first | exact Wk.refl _ | exact Wk.nil)))); first | done | fail))))); first | done | fail)))) | apply SubM.hole)); first | done | fail)) (hnd : ndB gl mc = true := by rfl) (hin : gl.all (fun j => Nat.blt j m.length) = true := by rfl)
    (hro : (mc.all fun b => !rwB b) = true := by rfl) (hr : plain 6 r = true := by rfl) : Run P ops K (⟨d, .call ⟨.value fx, xs, at_⟩, t, pp, af, none⟩ :: l) σ m :=
  run_step (ok_callR gl hc hf hxs hargs hgl hsub hnd hin hro hr) (Nat.le_refl _) k
theorem sdRW {M : List Nat} {kb base i : Nat} {cr : List Nat} {fx : Operand} {xs : Array Operand} {at_ : Array TypeId} {f : FuncId} [FnI P f] {a1 a2 : Array Value} {vs args : List Value} {r : Value} {mc : Mem} (gl : List Nat) (hc : ACalls P f args mc r (holes mc)) (k : RunD P ops M kb base K (i + 1) l (put σ d r) m cr)
    (hi : Nat.blt i kb = true := by rfl) (hf : ev σ fx = some (.func (.func f) a1 a2) := by rfl) (hxs : ArgsR (ev σ) xs.toList vs := by ((repeat (apply ArgsR.cons; rfl)); exact ArgsR.nil))
    (hargs : WkL (a1.toList ++ vs ++ a2.toList) (renL (gOf gl ((vis base cr (fun j => (M.getD i 0).testBit j) m).length - mc.length)) args) := by (first | exact WkL.refl _ | exact WkL.ofEq (renL_map (fun _ => rfl) _).symm | exact WkL.ofEq (renL_flat _).symm | (focus ((repeat (first | exact WkL.nil | (apply WkL.cons; (first | exact Wk.refl _ | exact Wk.nil | (apply Wk.aggL; (repeat (first | exact WkL.nil | (apply WkL.cons; (first | exact Wk.refl _ | exact Wk.nil)))); first | done | fail))))); first | done | fail)))) (hgl : Nat.ble mc.length (vis base cr (fun j => (M.getD i 0).testBit j) m).length = true := by rfl)
    (hsub : SubM (gOf gl ((vis base cr (fun j => (M.getD i 0).testBit j) m).length - mc.length)) (vis base cr (fun j => (M.getD i 0).testBit j) m) gl mc := by ((repeat (first | exact SubM.nil | (apply SubM.rw; rfl; (first | exact WkL.refl _ | exact WkL.ofEq (renL_map (fun _ => rfl) _).symm | exact WkL.ofEq (renL_flat _).symm | (refine WkL.ofEq (subl_id ?_); constructor; first | done | fail) | (focus ((repeat (first | exact WkL.nil | (apply WkL.cons; (first | exact Wk.refl _ | exact Wk.nil | (apply Wk.aggL; (repeat (first | exact WkL.nil | (apply WkL.cons; (first | exact Wk.refl _ | exact Wk.nil)))); first | done | fail))))); first | done | fail)))) | (apply SubM.ro; rfl; (first | exact WkL.refl _ | exact WkL.ofEq (renL_map (fun _ => rfl) _).symm | exact WkL.ofEq (renL_flat _).symm | (refine WkL.ofEq (subl_id ?_); constructor; first | done | fail) | (focus ((repeat (first | exact WkL.nil | (apply WkL.cons; (first | exact Wk.refl _ | exact Wk.nil | (apply Wk.aggL; (repeat (first | exact WkL.nil | (apply WkL.cons; (first | exact Wk.refl _ | exact Wk.nil)))); first | done | fail))))); first | done | fail)))) | apply SubM.hole)); first | done | fail)) (hnd : ndB gl mc = true := by rfl) (hin : gl.all (fun j => Nat.blt j (vis base cr (fun j => (M.getD i 0).testBit j) m).length) = true := by rfl)
    (hro : (mc.all fun b => !rwB b) = true := by rfl) (hr : plain 6 r = true := by rfl) : RunD P ops M kb base K i (⟨d, .call ⟨.value fx, xs, at_⟩, t, pp, af, none⟩ :: l) σ m cr :=
  .mem (m' := m) (V' := vis base cr (fun j => (M.getD i 0).testBit j) m) (Sub.refl σ) rfl (Nat.blt_eq.mp hi) rfl (ok_callR gl hc hf hxs hargs hgl hsub hnd hin hro hr) (extR_same _ _ (vis_len _ _ _ _)) (by simpa using k)
theorem stMW {fx : Operand} {xs : Array Operand} {at_ : Array TypeId} {f : FuncId} [FnI P f] {a1 a2 : Array Value} {vs args : List Value} {r r' : Value} {mc mc' : Mem} (gl : List Nat) (hc : ACalls P f args mc r mc') (k : Run P ops K l (put σ d r') m')
    (hf : ev σ fx = some (.func (.func f) a1 a2) := by rfl) (hxs : ArgsR (ev σ) xs.toList vs := by ((repeat (apply ArgsR.cons; rfl)); exact ArgsR.nil))
    (hargs : WkL (a1.toList ++ vs ++ a2.toList) (renL (gOf gl (m.length - mc.length)) args) := by (first | exact WkL.refl _ | exact WkL.ofEq (renL_map (fun _ => rfl) _).symm | exact WkL.ofEq (renL_flat _).symm | (focus ((repeat (first | exact WkL.nil | (apply WkL.cons; (first | exact Wk.refl _ | exact Wk.nil | (apply Wk.aggL; (repeat (first | exact WkL.nil | (apply WkL.cons; (first | exact Wk.refl _ | exact Wk.nil)))); first | done | fail))))); first | done | fail))))
    (hsub : SubM (gOf gl (m.length - mc.length)) m gl mc := by ((repeat (first | exact SubM.nil | (apply SubM.rw; rfl; (first | exact WkL.refl _ | exact WkL.ofEq (renL_map (fun _ => rfl) _).symm | exact WkL.ofEq (renL_flat _).symm | (refine WkL.ofEq (subl_id ?_); constructor; first | done | fail) | (focus ((repeat (first | exact WkL.nil | (apply WkL.cons; (first | exact Wk.refl _ | exact Wk.nil | (apply Wk.aggL; (repeat (first | exact WkL.nil | (apply WkL.cons; (first | exact Wk.refl _ | exact Wk.nil)))); first | done | fail))))); first | done | fail)))) | (apply SubM.ro; rfl; (first | exact WkL.refl _ | exact WkL.ofEq (renL_map (fun _ => rfl) _).symm | exact WkL.ofEq (renL_flat _).symm | (refine WkL.ofEq (subl_id ?_); constructor; first | done | fail) | (focus ((repeat (first | exact WkL.nil | (apply WkL.cons; (first | exact Wk.refl _ | exact Wk.nil | (apply Wk.aggL; (repeat (first | exact WkL.nil | (apply WkL.cons; (first | exact Wk.refl _ | exact Wk.nil)))); first | done | fail))))); first | done | fail)))) | apply SubM.hole)); first | done | fail))
    (hgl : Nat.ble mc.length m.length = true := by rfl) (hnd : ndB gl mc = true := by rfl) (hin : gl.all (fun j => Nat.blt j m.length) = true := by rfl) (hle : Nat.ble mc.length mc'.length = true := by rfl)
    (hr : NV (ren (gOf gl (m.length - mc.length)) r) r' := by constructor) (hm : NM (backL (gOf gl (m.length - mc.length)) gl mc mc' m) m' := by repeat constructor)
    (hlm : Nat.ble m.length m'.length = true := by rfl) : Run P ops K (⟨d, .call ⟨.value fx, xs, at_⟩, t, pp, af, none⟩ :: l) σ m :=
  st_callM gl hc k hf hxs hargs hsub hgl hnd hin hle hr hm hlm
end
end Go.Proofs.YtjofcjogbopkjaaGreat.Av
