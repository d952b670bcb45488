/- Walking in numbers of one's own: a region that draws its order, beside whose stores other blocks are only read. -/
import Derived.Test.YtdbcbclapipgdaaGreatDoorVL
set_option linter.unusedVariables false
set_option linter.unusedSimpArgs false
namespace Go.Proofs.YtdbcbclapipgdaaGreatDoor.Av.Rol
open Go.Proofs.YtdbcbclapipgdaaGreatDoor.Av
open Go
/-- Some blocks of a memory, only to be read. -/
inductive LowR : Mem → Mem → Prop
  | nil : LowR [] []
  | none {b : Option Blk} {r m : Mem} : LowR r m → LowR (none :: r) (b :: m)
  | keep {B : Blk} {r m : Mem} : B.rw = false → LowR r m → LowR (some B :: r) (some B :: m)
theorem LowR.len {r m : Mem} (h : LowR r m) : r.length = m.length := by induction h <;> simp [*]
theorem LowR.at {r m : Mem} (h : LowR r m) : ∀ {id : Nat} {B : Blk}, live r id = some B → live m id = some B ∧ B.rw = false := by
  induction h with
  | nil => intro id B h; rw [live_some] at h; simp at h
  | none _ ih =>
    intro id B h
    rw [live_some] at h ⊢
    cases id with
    | zero => simp at h
    | succ id =>
      have := ih (id := id) (B := B) (by rw [live_some]; simpa using h)
      rw [live_some] at this
      simpa using this
  | keep hb _ ih =>
    intro id B h
    rw [live_some] at h ⊢
    cases id with
    | zero =>
      simp only [List.getElem?_cons_zero, Option.some.injEq] at h
      subst h
      exact ⟨rfl, hb⟩
    | succ id =>
      have := ih (id := id) (B := B) (by rw [live_some]; simpa using h)
      rw [live_some] at this
      simpa using this
theorem rep_low {F : Nat → Prop} {w0 w : World} {μ : Mu} {m r : Mem} (hl : LowR r m) (h : RepM F w0 μ m w) : RepM (fun k => w.heap.size ≤ k) w μ r w :=
  ⟨rfl, rfl, rfl, Nat.le_refl _, fun _ _ => rfl, ⟨fun _ h => h, h.here⟩, fun id B hB => by
    obtain ⟨L, k1, k2, k3⟩ := h.blk id B (hl.at hB).1
    exact ⟨L, k1, k2, fun hrw => absurd hrw.1 (by rw [(hl.at hB).2]; decide)⟩, fun id id' B B' L L' h1 h2 hne hl1 hl2 hrw => absurd hrw.1 (by rw [(hl.at h1).2]; decide)⟩
/-- An operation that wants to be alone among its like. -/
def tch (R : List Nat) (i : Nat) (o : Oper) : Bool := touch o.op && !R.contains i
def aloneQ (ops : Array Oper) (M : List Nat) (R : List Nat) : Bool :=
  ops.toList.zipIdx.all fun (o, i) => !tch R i o || ops.toList.zipIdx.all fun (o', j) => !Nat.blt j i || !tch R j o' || (M.getD i 0).testBit j
theorem aloneQ_spec {ops : Array Oper} {M R : List Nat} (h : aloneQ ops M R = true) : ∀ (i : Nat) (o : Oper) (j : Nat) (o' : Oper), ops[i]? = some o → ops[j]? = some o' → tch R i o = true → j < i → tch R j o' = true → (M.getD i 0).testBit j = true := fun i o j o' ho ho' ht hj ht' => by
  have get : ∀ (i : Nat) (o : Oper), ops[i]? = some o → ops.toList[i]? = some o := fun i o ho => by rw [Array.getElem?_toList]; exact ho
  have h1 := zipIdx_all h (get i o ho)
  dsimp only at h1
  rw [ht, Bool.not_true, Bool.false_or] at h1
  have h2 := zipIdx_all h1 (get j o' ho')
  dsimp only at h2
  rw [ht', Bool.not_true, Bool.or_false, show Nat.blt j i = true from Nat.blt_eq.mpr hj, Bool.not_true, Bool.false_or] at h2
  exact h2
inductive RunQ (P : Program) (ops : Array Oper) (R : List Nat) (RO : Mem) (K : Slots → Mem → Prop) : Nat → List Oper → Slots → Mem → Prop
  | nil {i σ σ0 m} : Sub σ σ0 → K σ m → RunQ P ops R RO K i [] σ0 m
  | no {i σ σ0 m o l} : Sub σ σ0 → Want ops σ o false → RunQ P ops R RO K (i + 1) l (put σ o.dst undef) m → RunQ P ops R RO K i (o :: l) σ0 m
  | pure {i σ σ0 m o l v} : Sub σ σ0 → Want ops σ o true → tch R i o = false → OpOK P o (ev σ) RO v RO → RunQ P ops R RO K (i + 1) l (put σ o.dst v) m → RunQ P ops R RO K i (o :: l) σ0 m
  | bar {i σ σ0 m o l v m'} : Sub σ σ0 → Want ops σ o true → tch R i o = true → OpOK P o (ev σ) m v m' → LowR RO m' → RunQ P ops R RO K (i + 1) l (put σ o.dst v) m' → RunQ P ops R RO K i (o :: l) σ0 m
structure Step (P : Program) (ops : Array Oper) (R : List Nat) (RO : Mem) (i : Nat) (o : Oper) (σ : Slots) (m : Mem) (v : Value) (σ' : Slots) (m' : Mem) : Prop where
  slots : ∀ t x, look σ' t = some x → (o.dst = some t ∧ x = v) ∨ (o.dst ≠ some t ∧ look σ t = some x)
  does : (Want ops σ o false ∧ v = undef ∧ m' = m) ∨ (Want ops σ o true ∧ tch R i o = false ∧ m' = m ∧ OpOK P o (ev σ) RO v RO) ∨ (Want ops σ o true ∧ tch R i o = true ∧ OpOK P o (ev σ) m v m' ∧ LowR RO m')
theorem trace {P : Program} {ops : Array Oper} {R : List Nat} {RO : Mem} {K : Slots → Mem → Prop} {i : Nat} {l : List Oper} {σ0 : Slots} {m : Mem} (h : RunQ P ops R RO K i l σ0 m) :
    ∃ T : Nat → Tr, (T 0).σ = σ0 ∧ (T 0).m = m ∧ (∀ (j : Nat) (o : Oper), l[j]? = some o → Step P ops R RO (i + j) o (T j).σ (T j).m (T j).v (T (j + 1)).σ (T (j + 1)).m) ∧ ∃ σ, Sub σ (T l.length).σ ∧ K σ (T l.length).m := by
  have cons : ∀ {i : Nat} {o : Oper} {l : List Oper} {σ0 σ' : Slots} {m m' : Mem} {v : Value}, Step P ops R RO i o σ0 m v σ' m' →
      (∃ T : Nat → Tr, (T 0).σ = σ' ∧ (T 0).m = m' ∧ (∀ (j : Nat) (o : Oper), l[j]? = some o → Step P ops R RO (i + 1 + j) o (T j).σ (T j).m (T j).v (T (j + 1)).σ (T (j + 1)).m) ∧ ∃ σ, Sub σ (T l.length).σ ∧ K σ (T l.length).m) →
      ∃ T : Nat → Tr, (T 0).σ = σ0 ∧ (T 0).m = m ∧ (∀ (j : Nat) (o1 : Oper), (o :: l)[j]? = some o1 → Step P ops R RO (i + j) o1 (T j).σ (T j).m (T j).v (T (j + 1)).σ (T (j + 1)).m) ∧
        ∃ σ, Sub σ (T (o :: l).length).σ ∧ K σ (T (o :: l).length).m := by
    intro i o l σ0 σ' m m' v hs ⟨T, h1, h2, h4, h5⟩
    refine ⟨fun j => match j with | 0 => ⟨σ0, m, [], v⟩ | j + 1 => T j, rfl, rfl, fun j o1 hj => ?_, h5⟩
    cases j with
    | zero =>
      simp only [List.getElem?_cons_zero, Option.some.injEq] at hj
      subst hj
      simp only [h1, h2]
      exact hs
    | succ j =>
      have := h4 j o1 (by simpa using hj)
      rw [show i + 1 + j = i + (j + 1) by omega] at this
      exact this
  induction h with
  | nil hs hk => exact ⟨fun _ => ⟨_, _, [], undef⟩, rfl, rfl, fun j o hj => by simp at hj, _, hs, hk⟩
  | no hs hw _ ih => exact cons ⟨put_slots hs _ _, .inl ⟨hw.sub hs, rfl, rfl⟩⟩ ih
  | pure hs hw ht hop _ ih => exact cons ⟨put_slots hs _ _, .inr (.inl ⟨hw.sub hs, ht, rfl, hop.sub hs⟩)⟩ ih
  | bar hs hw ht hop hl _ ih => exact cons ⟨put_slots hs _ _, .inr (.inr ⟨hw.sub hs, ht, hop.sub hs, hl⟩)⟩ ih
section
variable {P : Program} {ops : Array Oper} {M R : List Nat} {RO : Mem} {nt : Nat} {F : Nat → Prop} {w0 : World} {T : Nat → Tr} {μ : Mu} {l0 : List Deferred}
structure AInv (ops : Array Oper) (R : List Nat) (nt : Nat) (l0 : List Deferred) (T : Nat → Tr) (S : Nat → Prop) (F : Nat → Prop) (w0 : World) (μ : Mu) (a : Act) (w : World) : Prop where
  lt : ∀ i, S i → i < ops.size
  closed : ∀ i o, S i → ops[i]? = some o → ∀ e ∈ o.after.toList, Region.binds .any e = true → S e.on
  size : a.tmps.size = nt
  defers : a.defers = l0
  s1 : ∀ i o t, S i → ops[i]? = some o → o.dst = some t → VR μ (T i).v (a.tmps.getD t undef)
  s0 : ∀ t x, (∀ i o, S i → ops[i]? = some o → o.dst ≠ some t) → look (T 0).σ t = some x → t < nt ∧ VR μ x (a.tmps.getD t undef)
  mem : ∃ k, k ≤ ops.size ∧ (∀ j o, ops[j]? = some o → tch R j o = true → (S j ↔ j < k)) ∧ RepM F w0 μ (T k).m w
variable (hstep : ∀ (j : Nat) (o : Oper), ops[j]? = some o → Step P ops R RO j o (T j).σ (T j).m (T j).v (T (j + 1)).σ (T (j + 1)).m) (hlow0 : LowR RO (T 0).m)
include hstep
theorem hist {i : Nat} (hi : i ≤ ops.size) : ∀ t x, look (T i).σ t = some x → (∃ j o, j < i ∧ ops[j]? = some o ∧ o.dst = some t ∧ x = (T j).v) ∨ ((∀ j o, j < i → ops[j]? = some o → o.dst ≠ some t) ∧ look (T 0).σ t = some x) := by
  induction i with
  | zero => exact fun t x h => .inr ⟨fun j o hj => by omega, h⟩
  | succ i ih =>
    intro t x h
    have ho : ops[i]? = some ops[i] := Array.getElem?_eq_getElem (by omega)
    rcases (hstep i _ ho).slots t x h with ⟨h1, h2⟩ | ⟨h1, h2⟩
    · exact .inl ⟨i, _, by omega, ho, h1, h2⟩
    · rcases ih (by omega) t x h2 with ⟨j, o, k1, k2⟩ | ⟨k1, k2⟩
      · exact .inl ⟨j, o, by omega, k2⟩
      · refine .inr ⟨fun j o hj hjo => ?_, k2⟩
        rcases Nat.lt_or_ge j i with hji | hji
        · exact k1 j o hji hjo
        · obtain rfl : j = i := by omega
          rw [ho] at hjo; cases hjo
          exact h1
theorem same_mem {c i : Nat} (hci : c ≤ i) (hi : i ≤ ops.size) (h : ∀ j o, c ≤ j → j < i → ops[j]? = some o → tch R j o = false) : (T i).m = (T c).m := by
  induction i with
  | zero => rw [Nat.le_zero.1 hci]
  | succ i ih =>
    rcases Nat.lt_or_ge c (i + 1) with hc | hc
    · have ho : ops[i]? = some ops[i] := Array.getElem?_eq_getElem (by omega)
      rw [← ih (by omega) (by omega) fun j o h1 h2 => h j o h1 (by omega)]
      have ht := h i _ (by omega) (by omega) ho
      rcases (hstep i _ ho).does with h1 | h1 | h1
      · exact h1.2.2
      · exact h1.2.2.1
      · rw [ht] at h1; cases h1.2.1
    · rw [show c = i + 1 by omega]
include hlow0
theorem low {i : Nat} (hi : i ≤ ops.size) : LowR RO (T i).m := by
  induction i with
  | zero => exact hlow0
  | succ i ih =>
    have ho : ops[i]? = some ops[i] := Array.getElem?_eq_getElem (by omega)
    rcases (hstep i _ ho).does with h1 | h1 | h1
    · rw [h1.2.2]; exact ih (by omega)
    · rw [h1.2.2.1]; exact ih (by omega)
    · exact h1.2.2.2
variable (hchk : Chk ops M ops.size) (hal : ∀ (i : Nat) (o : Oper) (j : Nat) (o' : Oper), ops[i]? = some o → ops[j]? = some o' → tch R i o = true → j < i → tch R j o' = true → (M.getD i 0).testBit j = true)
include hchk
omit hlow0 in
theorem reads_ok {S : Nat → Prop} {a : Act} {w : World} (hI : AInv ops R nt l0 T S F w0 μ a w) {i : Nat} {o : Oper} (ho : ops[i]? = some o) (hS : ¬ S i) (hr : ∀ e ∈ o.after.toList, Region.binds .any e = true → S e.on)
    {t : Tmp} (htl : t ∈ o.looksAt ops) {x : Value} (hx : look (T i).σ t = some x) : VR μ x (a.tmps.getD t undef) := by
  have hsz : i < ops.size := (Array.getElem?_eq_some_iff.1 ho).1
  rcases hist hstep (Nat.le_of_lt hsz) t x hx with ⟨j, oj, hj, hoj, hd, rfl⟩ | ⟨hno, hx0⟩
  · have hp : (M.getD i 0).testBit j = true := by
      rcases hchk.reads i o j oj t ho hoj (by omega) hd htl with h | h
      · exact h.2
      · omega
    exact hI.s1 j oj t (pre_in hchk hI.closed i o ho hr j hj hp) hoj hd
  · refine (hI.s0 t x (fun k ok hSk hok hd => ?_) hx0).2
    rcases Nat.lt_trichotomy k i with h | h | h
    · exact hno k ok h hok hd
    · subst h; exact hS hSk
    · rcases hchk.reads i o k ok t ho hok (by omega) hd htl with h' | h'
      · omega
      · exact hS (pre_in hchk hI.closed k ok hok (fun e he hb => hI.closed k ok hSk hok e he hb) i h'.1 h'.2)
omit hlow0 in
theorem operands_ok {S : Nat → Prop} {a : Act} {w : World} (hI : AInv ops R nt l0 T S F w0 μ a w) {i : Nat} {o : Oper} (ho : ops[i]? = some o) (hS : ¬ S i) (hr : ∀ e ∈ o.after.toList, Region.binds .any e = true → S e.on) :
    ∀ x u, x ∈ o.op.operands → ev (T i).σ x = some u → VR μ u (a.eval x) := by
  intro x u hx hu
  cases x with
  | tmp t => exact reads_ok hstep hchk hI ho hS hr (List.mem_append_left _ (List.mem_filterMap.2 ⟨.tmp t, by simpa using hx, rfl⟩)) hu
  | const c =>
    simp only [ev] at hu
    cases hp : plain 4 c <;> rw [hp] at hu
    · cases hu
    · rw [cond_true, Option.some.injEq] at hu
      subst hu
      exact plain_refl _ 4 _ hp
  | global g => cases hu
  | func f => cases hu; exact .func rfl (fun i u v h _ => by simp at h) rfl (fun i u v h _ => by simp at h)
omit hlow0 in
theorem want_ok' {S : Nat → Prop} {a : Act} {w : World} (hd : dstsOK nt ops = true) (hI : AInv ops R nt l0 T S F w0 μ a w) {i : Nat} {o : Oper} (ho : ops[i]? = some o) (hS : ¬ S i) (hr : ∀ e ∈ o.after.toList, Region.binds .any e = true → S e.on) {b : Bool}
    (hw : Want ops (T i).σ o b) : Region.wanted o (yielded ops a.tmps) = b := by
  unfold Want at hw
  unfold Region.wanted
  cases hg : o.guard with
  | none => rw [hg] at hw; exact hw.symm
  | some g =>
    obtain ⟨j, want⟩ := g
    rw [hg] at hw
    obtain ⟨d, v, h1, h2, hv⟩ := hw
    have k2 := reads_ok hstep hchk hI ho hS hr (t := d) (List.mem_append_right _ (by rw [hg]; simp only []; rw [h1]; simp)) h2
    obtain ⟨oj, hoj, hdj⟩ := Option.bind_eq_some_iff.1 h1
    have k1 : d < a.tmps.size := by
      rw [hI.size]
      exact dstsOK_spec hd oj (by rw [← Array.getElem?_toList] at hoj; exact List.mem_of_getElem? hoj) d hdj
    rcases hv with ⟨c, rfl, rfl⟩ | ⟨rfl, rfl⟩
    rotate_left
    · have hy : yielded ops a.tmps j = none := yielded_undef h1 k1 k2
      simp only [hy]
      rfl
    have e := k2.bool'
    have hy : yielded ops a.tmps j = some c := by
      unfold yielded
      rw [h1]
      have : a.tmps[d]? = some (.bool c) := by
        rw [Array.getElem?_eq_getElem k1, ← e]
        simp [Array.getD, k1]
      simp [this]
    simp only [hy]
    cases c <;> cases want <;> rfl
omit hstep hlow0 in
theorem slots_step {S : Nat → Prop} {a : Act} {w w' : World} (hd : dstsOK nt ops = true) (hI : AInv ops R nt l0 T S F w0 μ a w) {i : Nat} {o : Oper} (ho : ops[i]? = some o) (hr : ∀ e ∈ o.after.toList, Region.binds .any e = true → S e.on)
    {y : Value} (hv : VR μ (T i).v y) (hm : ∃ k, k ≤ ops.size ∧ (∀ j o, ops[j]? = some o → tch R j o = true → ((S j ∨ j = i) ↔ j < k)) ∧ RepM F w0 μ (T k).m w') : AInv ops R nt l0 T (fun k => S k ∨ k = i) F w0 μ (a.put o.dst y) w' where
  lt k hk := by
    rcases hk with hk | rfl
    · exact hI.lt k hk
    · exact (Array.getElem?_eq_some_iff.1 ho).1
  closed k ok hk hok e he hb := by
    rcases hk with hk | rfl
    · exact .inl (hI.closed k ok hk hok e he hb)
    · rw [ho] at hok; cases hok
      exact .inl (hr e he hb)
  size := by rw [Act.size_put]; exact hI.size
  defers := by rw [Act.defers_put]; exact hI.defers
  s1 k ok t hk hok hdk := by
    have hput : ∀ d, o.dst = some d → d < a.tmps.size := fun d hd' => by rw [hI.size]; exact dstsOK_spec hd o (by rw [← Array.getElem?_toList] at ho; exact List.mem_of_getElem? ho) d hd'
    by_cases hki : k = i
    · subst hki
      rw [ho] at hok; cases hok
      have := hput t hdk
      rw [hdk]
      simpa [Act.put, this] using hv
    · have hS : S k := by rcases hk with h | h; exact h; exact absurd h hki
      have hne : o.dst ≠ some t := hchk.one i o k ok t ho hok (fun e => hki e.symm) hdk
      have : (a.put o.dst y).tmps.getD t undef = a.tmps.getD t undef := by
        cases hdo : o.dst with
        | none => rfl
        | some d => simp [Act.put, show d ≠ t from fun e => hne (by rw [hdo, e])]
      rw [this]
      exact hI.s1 k ok t hS hok hdk
  s0 t x hno hx := by
    have h := hI.s0 t x (fun k ok hk => hno k ok (.inl hk)) hx
    have hne : o.dst ≠ some t := hno i o (.inr rfl) ho
    have : (a.put o.dst y).tmps.getD t undef = a.tmps.getD t undef := by
      cases hdo : o.dst with
      | none => rfl
      | some d => simp [Act.put, show d ≠ t from fun e => hne (by rw [hdo, e])]
    rw [this]
    exact h
  mem := hm
include hal
omit hlow0 in
theorem full {S : Nat → Prop} {a : Act} {w : World} (hI : AInv ops R nt l0 T S F w0 μ a w) {i : Nat} {o : Oper} (ho : ops[i]? = some o) (hS : ¬ S i) (hr : ∀ e ∈ o.after.toList, Region.binds .any e = true → S e.on)
    (ht : tch R i o = true) : (∀ j o', ops[j]? = some o' → tch R j o' = true → (S j ↔ j < i)) ∧ RepM F w0 μ (T i).m w := by
  have hsz : i < ops.size := (Array.getElem?_eq_some_iff.1 ho).1
  have hall : ∀ j o', ops[j]? = some o' → tch R j o' = true → (S j ↔ j < i) := fun j o' ho' ht' => by
    refine ⟨fun hj => ?_, fun hj => pre_in hchk hI.closed i o ho hr j hj (hal i o j o' ho ho' ht hj ht')⟩
    rcases Nat.lt_trichotomy j i with h | h | h
    · exact h
    · subst h; exact absurd hj hS
    · exact absurd (pre_in hchk hI.closed j o' ho' (fun e he hb => hI.closed j o' hj ho' e he hb) i h (hal j o' i o ho' ho ht' h ht)) hS
  refine ⟨hall, ?_⟩
  obtain ⟨k, hk1, hk2, hrep⟩ := hI.mem
  have hb : ∀ j o', ops[j]? = some o' → tch R j o' = true → (j < k ↔ j < i) := fun j o' h1 h2 => (hk2 j o' h1 h2).symm.trans (hall j o' h1 h2)
  rcases Nat.le_total k i with h | h
  · rw [same_mem hstep h (by omega) fun j o' j1 j2 j3 => by
      cases h' : tch R j o' with
      | false => rfl
      | true => have := hb j o' j3 h'; omega]
    exact hrep
  · rw [← same_mem hstep h hk1 fun j o' j1 j2 j3 => by
      cases h' : tch R j o' with
      | false => rfl
      | true => have := hb j o' j3 h'; omega]
    exact hrep
theorem any_step {S : Nat → Prop} {a : Act} {w : World} {Q : Exit → Act → World → Prop} {K : Act → World → Prop} (hdm0 : Dom μ RO.length) (hd : dstsOK nt ops = true) (hI : AInv ops R nt l0 T S F w0 μ a w) {i : Nat} {o : Oper} (ho : ops[i]? = some o) (hS : ¬ S i)
    (hr : ∀ e ∈ o.after.toList, Region.binds .any e = true → S e.on) (hK : ∀ a' w', AInv ops R nt l0 T (fun k => S k ∨ k = i) F w0 μ a' w' → K a' w') : wpOp P ops Q i K a w := by
  have hsz : i < ops.size := (Array.getElem?_eq_some_iff.1 ho).1
  have hops := operands_ok hstep hchk hI ho hS hr
  have same : ∀ {μ2 : Mu} {n : Nat}, n = RO.length → Ext RO.length μ μ2 → Dom μ2 n → μ2 = μ := fun {μ2 n} hn he hdm => by
    funext id
    rcases Nat.lt_or_ge id RO.length with h | h
    · exact he id h
    · rw [hdm id (by omega), hdm0 id h]
  unfold wpOp
  simp only [ho]
  rcases (hstep i o ho).does with ⟨hw, hv, hm⟩ | ⟨hw, ht, hm, hop⟩ | ⟨hw, ht, hop, hlw⟩
  · rw [if_neg (by rw [want_ok' hstep hchk hd hI ho hS hr hw]; simp)]
    refine hK _ _ (slots_step hchk hd hI ho hr (by rw [hv]; exact vr_undef _) ?_)
    cases ht : tch R i o with
    | true =>
      obtain ⟨hall, hrep⟩ := full hstep hchk hal hI ho hS hr ht
      refine ⟨i + 1, by omega, fun j o' h1 h2 => by rw [hall j o' h1 h2]; omega, by rw [hm]; exact hrep⟩
    | false =>
      obtain ⟨k, hk1, hk2, hrep⟩ := hI.mem
      refine ⟨k, hk1, fun j o' h1 h2 => ?_, hrep⟩
      rw [← hk2 j o' h1 h2]
      refine ⟨fun h => ?_, .inl⟩
      rcases h with h | rfl
      · exact h
      · rw [ho] at h1; cases h1
        rw [ht] at h2; cases h2
  · rw [if_pos (want_ok' hstep hchk hd hI ho hS hr hw)]
    obtain ⟨k, hk1, hk2, hrep⟩ := hI.mem
    refine .inl (hop.ok (fun k => w.heap.size ≤ k) w μ a w K Q hdm0 (rep_low (low hstep hlow0 hk1) hrep) (fun x u hx hu => hops x u hx hu) fun μ2 y w' he hdm hrp hv => ?_)
    obtain rfl := same rfl he hdm
    refine hK _ _ (slots_step hchk hd hI ho hr hv ⟨k, hk1, fun j o' h1 h2 => ?_, hrep.keep hrp.os hrp.tape hrp.output hrp.size fun k hk => hrp.frame k (by omega)⟩)
    rw [← hk2 j o' h1 h2]
    refine ⟨fun h => ?_, .inl⟩
    rcases h with h | rfl
    · exact h
    · rw [ho] at h1; cases h1
      rw [ht] at h2; cases h2
  · rw [if_pos (want_ok' hstep hchk hd hI ho hS hr hw)]
    obtain ⟨hall, hrep⟩ := full hstep hchk hal hI ho hS hr ht
    have hl1 := (low hstep hlow0 (Nat.le_of_lt hsz)).len
    refine .inl (hop.ok F w0 μ a w K Q (by rw [← hl1]; exact hdm0) hrep (fun x u hx hu => hops x u hx hu) fun μ2 y w' he hdm hrp hv => ?_)
    rw [← hl1] at he
    obtain rfl := same hlw.len.symm he hdm
    exact hK _ _ (slots_step hchk hd hI ho hr hv ⟨i + 1, by omega, fun j o' h1 h2 => by rw [hall j o' h1 h2]; omega, hrp⟩)
theorem any_sound {Q : Exit → Act → World → Prop} (hdm0 : Dom μ RO.length) (hd : dstsOK nt ops = true) (hQ : ∀ a w, AInv ops R nt l0 T (fun i => i < ops.size) F w0 μ a w → Q .normal a w) :
    ∀ (fuel : Nat) (listed : Array Bool) (a : Act) (w : World), listed.size = ops.size → ((List.range ops.size).countP fun i => !listed.getD i false) ≤ fuel → AInv ops R nt l0 T (fun i => listed.getD i false = true) F w0 μ a w →
      wpAny P .any ops Q fuel listed a w := by
  have full : ∀ (listed : Array Bool) (a : Act) (w : World), listed.size = ops.size → AInv ops R nt l0 T (fun i => listed.getD i false = true) F w0 μ a w → Region.ready .any ops listed = [] → Q .normal a w := fun listed a w hsz hI hr => by
    have hall : ∀ i, i < ops.size → listed.getD i false = true := by
      intro i
      induction i using Nat.strongRecOn with
      | _ i ih =>
        intro hi
        cases hl : listed.getD i false with
        | true => rfl
        | false =>
          have ho : ops[i]? = some ops[i] := Array.getElem?_eq_getElem hi
          have : i ∈ Region.ready .any ops listed := mem_ready.2 ⟨by simp [Array.getD, hsz, hi] at hl ⊢; exact hl, _, ho, fun e he hb => by
            have := hchk.edge i _ ho e (by simpa using he) hb
            exact ih e.on this (by omega)⟩
          rw [hr] at this
          cases this
    have e : (fun i => listed.getD i false = true) = fun i => i < ops.size := by
      funext i
      apply propext
      refine ⟨fun h => hI.lt i h, hall i⟩
    rw [e] at hI
    exact hQ a w hI
  intro fuel
  induction fuel with
  | zero =>
    intro listed a w hsz hc hI
    have hr : Region.ready .any ops listed = [] := by
      apply List.eq_nil_iff_forall_not_mem.2
      intro i hi
      obtain ⟨h1, o, ho, _⟩ := mem_ready.1 hi
      have hi' : i < ops.size := (Array.getElem?_eq_some_iff.1 ho).1
      have := List.countP_eq_zero.1 (Nat.le_zero.1 hc) i (List.mem_range.2 hi')
      simp [Array.getD, hsz, hi'] at h1 this
      rw [h1] at this; cases this
    exact ⟨hr, full listed a w hsz hI hr⟩
  | succ fuel ih =>
    intro listed a w hsz hc hI
    refine ⟨full listed a w hsz hI, fun i hi => ?_⟩
    obtain ⟨h1, o, ho, he⟩ := mem_ready.1 hi
    have hi' : i < ops.size := (Array.getElem?_eq_some_iff.1 ho).1
    have hS : ¬ listed.getD i false = true := by
      simp [Array.getD, hsz, hi'] at h1 ⊢
      exact h1
    refine any_step hstep hlow0 hchk hal hdm0 hd hI ho hS (fun e hem hb => he e (by simpa using hem) hb) fun a' w' hI' => ?_
    refine ih _ a' w' (by simpa using hsz) ?_ ?_
    · have hlt : ((List.range ops.size).countP fun j => !(listed.setIfInBounds i true).getD j false) < (List.range ops.size).countP fun j => !listed.getD j false := by
        refine countP_lt (a := i) (fun j hj h => ?_) (List.mem_range.2 hi') (by simpa using hS) (by simp [Array.getD, hsz, hi'])
        have hj' := List.mem_range.1 hj
        by_cases hij : i = j
        · subst hij; simp [Array.getD, hsz, hi'] at h
        · simpa [Array.getD, hsz, hj', Array.getElem_setIfInBounds_ne, hij] using h
      omega
    · have e : (fun j => (listed.setIfInBounds i true).getD j false = true) = fun k => listed.getD k false = true ∨ k = i := by
        funext j
        apply propext
        by_cases hij : i = j
        · subst hij; simp [Array.getD, hsz, hi']
        · have : (listed.setIfInBounds i true).getD j false = listed.getD j false := by
            simp only [Array.getD, Array.size_setIfInBounds]
            split
            · exact Array.getElem_setIfInBounds_ne _ hij
            · rfl
          rw [this]
          constructor
          · exact .inl
          · rintro (h | h)
            · exact h
            · exact absurd h.symm hij
      rw [e]
      exact hI'
end
/-- A region that draws its order: the operations R only read blocks that no other one writes. -/
theorem aw_region_q {P : Program} {nt n0 : Nat} {Q : Exit → Slots → Mem → Prop} {σ : Slots} {m : Mem} {id : Nat} {ops : Array Oper} (M R : List Nat) (RO : Mem) (hf : P.follows .mixedOrders = true) (hc : chkD ops M ops.size = true) (ha : aloneQ ops M R = true) (hd : dstsOK nt ops = true) (hl : LowR RO m)
    (h : RunQ P ops R RO (fun σ' m' => Q .normal σ' m') 0 ops.toList σ m) : AW P nt n0 (.region id ops true) Q σ m := by
  constructor
  intro rd F w0 μ a w _ hr
  obtain ⟨T, h1, h2, h4, σe, h5, h6⟩ := trace h
  have hstep : ∀ (j : Nat) (o : Oper), ops[j]? = some o → Step P ops R RO j o (T j).σ (T j).m (T j).v (T (j + 1)).σ (T (j + 1)).m := fun j o ho => by
    have := h4 j o (by rw [Array.getElem?_toList]; exact ho)
    rw [Nat.zero_add] at this
    exact this
  have hlow0 : LowR RO (T 0).m := by rw [h2]; exact hl
  have hdm0 : Dom μ RO.length := by rw [hl.len]; exact hr.dom
  have hlen : ops.toList.length = ops.size := by simp
  refine wpIn_mono (Q := NormalQ fun a' w' => Pt rd nt n0 F w0 μ a.defers Q .normal a' w') (wpIn_region_any hf (wpAny_in (fun ⟨_, _, h⟩ => h) (dstsOK_nd hd) _ _ _ _ (any_sound hstep hlow0 (chkD_spec hc) (aloneQ_spec ha) (nt := nt) (F := F) (w0 := w0) (μ := μ) (l0 := a.defers) hdm0 hd (fun a' w' hI => ?_) ops.size _ a _ (by simp) ?_ ?_))) (fun e a' w' hq => by cases e <;> first | exact hq | exact hq.elim)
  · obtain ⟨k, hk1, hk2, hrep⟩ := hI.mem
    have e : (T ops.size).m = (T k).m := same_mem hstep hk1 (Nat.le_refl _) fun j o' j1 j2 j3 => by
      cases ht' : tch R j o' with
      | false => rfl
      | true => have := (hk2 j o' j3 ht').1 j2; omega
    refine ⟨F, w0, μ, σe, (T ops.size).m, by rw [hI.defers]; exact Reb.refl _ _ _ _, fun id hid => rfl, ⟨hI.size, by rw [hI.defers]; exact hr.defers, fun t x hx => ?_, by rw [e]; exact hrep, by rw [← (low hstep hlow0 (Nat.le_refl _)).len]; exact hdm0⟩, by rw [hlen] at h6; exact h6⟩
    have hx := h5 t x hx
    rw [hlen] at hx
    rcases hist hstep (Nat.le_refl _) t x hx with ⟨j, o, k1, k2, k3, rfl⟩ | ⟨k1, k2⟩
    · refine ⟨?_, hI.s1 j o t k1 k2 k3⟩
      rw [hI.size]
      exact dstsOK_spec hd o (by rw [← Array.getElem?_toList] at k2; exact List.mem_of_getElem? k2) t k3
    · have := hI.s0 t x (fun i o hi ho => k1 i o hi ho) k2
      exact ⟨by rw [hI.size]; exact this.1, this.2⟩
  · exact Nat.le_trans List.countP_le_length (by simp)
  · have hno : ∀ i, ¬ (Array.replicate ops.size false).getD i false = true := fun i h => by
      simp [Array.getD] at h
    refine ⟨fun i h => (hno i h).elim, fun i o h => (hno i h).elim, hr.nt, rfl, fun i o t h => (hno i h).elim, fun t x _ hx => ?_, ⟨0, Nat.zero_le _, fun j o h1 h2 => ⟨fun h => (hno j h).elim, fun h => by omega⟩, ?_⟩⟩
    · rw [h1] at hx
      rw [← hr.nt]
      exact hr.slots t x hx
    · rw [h2]
      exact hr.mem.drew
section
variable {P : Program} {ops : Array Oper} {R : List Nat} {RO : Mem} {i : Nat} {l : List Oper} {σ : Slots} {m m' : Mem} {K : Slots → Mem → Prop} {d : Option Tmp} {t : TypeId} {pp : String} {af : Array Edge}
theorem qnil (h : K σ m) : RunQ P ops R RO K i [] σ m := .nil (Sub.refl σ) h
theorem qp {op : Op} {v : Value} (h : OpOK P ⟨d, op, t, pp, af, none⟩ (ev σ) RO v RO) (k : RunQ P ops R RO K (i + 1) l (put σ d v) m) (ht : tch R i ⟨d, op, t, pp, af, none⟩ = false := by rfl) : RunQ P ops R RO K i (⟨d, op, t, pp, af, none⟩ :: l) σ m := .pure (Sub.refl σ) rfl ht h k
theorem qs {op : Op} {v : Value} (h : OpOK P ⟨d, op, t, pp, af, none⟩ (ev σ) m v m') (k : RunQ P ops R RO K (i + 1) l (put σ d v) m') (hl : LowR RO m' := by (repeat (first | exact Rol.LowR.nil | refine Rol.LowR.keep rfl ?_ | refine Rol.LowR.none ?_))) (ht : tch R i ⟨d, op, t, pp, af, none⟩ = true := by rfl) : RunQ P ops R RO K i (⟨d, op, t, pp, af, none⟩ :: l) σ m := .bar (Sub.refl σ) rfl ht h hl k
end
end Go.Proofs.YtdbcbclapipgdaaGreatDoor.Av.Rol
