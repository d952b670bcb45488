/- Join: names, numbers in decimal (plain); Join: names, secrets, numbers in decimal; Join: codes; Join: members searched and copied; Join: requests that are refused; Join: members compared and few. -/
import Derived.Test.YtdbcbclapipgdaaGreatDoorVO
import Derived.Test.YtdbcbclapipgdaaGreatDoorJ
import Derived.Test.YtdbcbclapipgdaaGreatDoorC7
import Derived.Test.YtdbcbclapipgdaaGreatDoorC40
set_option linter.unusedVariables false
set_option linter.unusedSimpArgs false
namespace Go.Proofs.YtdbcbclapipgdaaGreatDoor
open Go Av
set_option maxRecDepth 20000
theorem decS_small {n : Int} (h0 : 0 ≤ n) (h : n < 10) : decS n = ⟨#[UInt8.ofNat (48 + n.toNat)]⟩ := by
  unfold decS Lib.itoa
  rw [if_neg (by omega), Lib.decDigits, dif_pos (by omega)]
theorem decS_big {n : Int} (h : 10 ≤ n) : decS n = decS (n / 10) ++ ⟨#[UInt8.ofNat (48 + (n % 10).toNat)]⟩ := by
  unfold decS Lib.itoa
  rw [if_neg (by omega), if_neg (by omega), Lib.decDigits, dif_neg (by omega)]
  have e1 : (n / 10).toNat = n.toNat / 10 := by omega
  have e2 : (n % 10).toNat = n.toNat % 10 := by omega
  rw [e1, e2]
  apply ByteArray.ext
  simp
theorem ok_byte_str {P : Program} {ρ : Operand → Option Value} {m : Mem} {d : Option Tmp} {t : TypeId} {pp : String} {af : Array Edge} {g : Option (Nat × Bool)} {src dst : TypeId} {x : Operand} {id : Nat} {e : TypeId} {c : Int} {S : ByteArray} {rwb : Bool} [Ty P src (.slice e)] [Ty P e (.int .u8)] [Ty P dst .string] (hx : ρ x = some (.slice (some ⟨id, 0, none⟩) 1 1)) (hB : live m id = some ⟨[.int .u8 c], rwb, 1⟩) (h : 0 ≤ c ∧ c ≤ 255) (hS : ⟨#[UInt8.ofNat c.toNat]⟩ = S) : OpOK P ⟨d, .convert src dst x, t, pp, af, g⟩ ρ m (.string S) m := by
  subst hS
  refine ok_bytes_str (l := [UInt8.ofNat c.toNat]) hx hB (Nat.le_refl _) ?_
  show [Value.int .u8 c] = [Value.int .u8 (UInt8.ofNat c.toNat).toNat]
  congr 2
  rw [UInt8.toNat_ofNat']
  omega
set_option maxHeartbeats 2000000 in
theorem ac_decimal : ∀ (k : Nat) (n : Int), 0 ≤ n → n.toNat < k → n ≤ 9223372036854775807 → ACalls Tryz.prog 76 [.int .i64 n] [] (.string (decS n)) []
  | 0, n, _, h, _ => absurd h (Nat.not_lt_zero _)
  | k + 1, n, h0, h, h1 => by
    by_cases h10 : n < 10
    · have e := decS_small h0 h10
      obtain ⟨S, hS⟩ : ∃ S, decS n = S := ⟨_, rfl⟩
      rw [hS] at e ⊢
      have e2 : ⟨#[UInt8.ofNat (48 + n).toNat]⟩ = S := by rw [e]; congr 4; omega
      refine acalls_pure Tryz.func76 rfl rfl rfl ?_
      repeat' first | intro h1 | intro h1 | refine st (h := ok_byte_str rfl rfl (by omega) e2) ?_ | refine st ?_ | refine stm ?_ | refine Ja ?_ | refine Jb ?_ | refine Jc ?_ | refine Jd ?_ | refine Je ?_ | refine Jf ?_ | refine Jg ?_ | refine Jh ?_ ?_ | refine Ji ?_ ?_ | refine Jj ?_ ?_ | refine run_nil ?_ | refine sd ?_ | refine sdl ?_ | refine sdm (n := 1) ?_ | refine sdm ?_ | refine sdb ?_ | refine Jk ?_ | refine Jl ?_ | refine Jm ?_ | refine Jn ?_ ?_ | refine Jo ?_ ?_ | refine Jp ?_ ?_ | refine rund_nil ?_ | refine Jz ?_ | refine Jw ?_ | refine Jx (id := 3) [0,1,3,0,8,24,56,120,248,511,1023] 11 ?_ | refine aw_block ?_ | refine Jq ?_ | refine Jr ?_ | refine Js ?_ | refine Jt ?_ | refine Ju ?_ ?_ | refine Jv ?_ ?_ | refine Jy ?_ | refine aw_exit ?_ | refine aw_ret ?_ | refine pp_ret ?_ | refine pp_normal ?_
      all_goals first
        | rfl
        | (exfalso; omega)
    · have e := decS_big (n := n) (by omega)
      have H := ac_decimal k (n / 10) (by omega) (by omega) (by omega)
      have hz := decS_size h0 h1
      obtain ⟨S, hS⟩ : ∃ S, decS n = S := ⟨_, rfl⟩
      obtain ⟨T, hT⟩ : ∃ T, decS (n / 10) = T := ⟨_, rfl⟩
      obtain ⟨R, hR⟩ : ∃ R : ByteArray, ⟨#[UInt8.ofNat (48 + n % 10).toNat]⟩ = R := ⟨_, rfl⟩
      rw [hS] at e hz ⊢
      rw [hT] at e H
      have e2 : T ++ R = S := by rw [e, ← hR]; congr 5; omega
      clear e hS hT
      refine acalls_pure Tryz.func76 rfl rfl rfl ?_
      repeat' first | intro h1 | intro h1 | refine sdl (h := ok_byte_str rfl rfl (by omega) hR) ?_ | refine sdb (h := ok_byte_str rfl rfl (by omega) hR) ?_ | refine st (h := ok_str_addD rfl rfl e2 (by omega)) ?_ | refine sd (h := ok_str_addD rfl rfl e2 (by omega)) ?_ | refine st ?_ | refine st_call (H) ?_ | refine sd_call (H) ?_ | refine stm ?_ | refine Ja ?_ | refine Jb ?_ | refine Jc ?_ | refine Jd ?_ | refine Je ?_ | refine Jf ?_ | refine Jg ?_ | refine Jh ?_ ?_ | refine Ji ?_ ?_ | refine Jj ?_ ?_ | refine run_nil ?_ | refine sd ?_ | refine sdl ?_ | refine sdm (n := 1) ?_ | refine sdm ?_ | refine sdb ?_ | refine Jk ?_ | refine Jl ?_ | refine Jm ?_ | refine Jn ?_ ?_ | refine Jo ?_ ?_ | refine Jp ?_ ?_ | refine rund_nil ?_ | refine Jz ?_ | refine Jw ?_ | refine Jx (id := 3) [0,1,3,0,8,24,56,120,248,511,1023] 11 ?_ | refine aw_block ?_ | refine Jq ?_ | refine Jr ?_ | refine Js ?_ | refine Jt ?_ | refine Ju ?_ ?_ | refine Jv ?_ ?_ | refine Jy ?_ | refine aw_exit ?_ | refine aw_ret ?_ | refine pp_ret ?_ | refine pp_normal ?_
      all_goals first
        | rfl
        | (exfalso; omega)
theorem ac_rcode (sec T : ByteArray) (hs : sec.size ≤ 32) (h : T.size ≤ 1000) : ACalls Tryz.prog 75 [.string sec, .string T] [] (.string (cdS sec T)) [] := by
  have hK := ac_rKeyed sec T hs (by omega)
  obtain ⟨K, hKK⟩ : ∃ K, kyS sec T = K := ⟨_, rfl⟩
  have hK2 : K.size = 32 := by rw [← hKK]; exact kyS_size _ _
  unfold cdS
  rw [hKK]
  have hK : ACalls Tryz.prog 113 [.string sec, .string T] [] (.tuple #[.string K, .int .i64 0]) [] := by rw [← hKK]; exact hK
  obtain ⟨U, hU⟩ : ∃ U, K.extract 0 8 = U := ⟨_, rfl⟩
  rw [hU]
  clear hKK
  refine acalls_pure Tryz.func75 rfl rfl rfl ?_
  repeat' first | intro h1 | intro h1 | refine st ?_ | refine st_call (hK) ?_ | refine sd_call (hK) ?_ | refine stm ?_ | refine Ja ?_ | refine Jb ?_ | refine Jc ?_ | refine Jd ?_ | refine Je ?_ | refine Jf ?_ | refine Jg ?_ | refine Jh ?_ ?_ | refine Ji ?_ ?_ | refine Jj ?_ ?_ | refine run_nil ?_ | refine Jz ?_ | refine Jw ?_ | refine aw_block ?_ | refine Jq ?_ | refine Jr ?_ | refine Js ?_ | refine Jt ?_ | refine Ju ?_ ?_ | refine Jv ?_ ?_ | refine Jy ?_ | refine aw_exit ?_ | refine aw_ret ?_ | refine pp_ret ?_ | refine pp_normal ?_
  all_goals first
    | rfl
    | (exfalso; omega)
    | (show Value.string (K.extract 0 (min 8 (K.size : Int)).toNat) = Value.string U; rw [show (min 8 (K.size : Int)).toNat = 8 by omega, hU])
    | (show Value.string (K.extract 0 8) = Value.string U; rw [hU])
set_option maxHeartbeats 4000000 in
theorem ac_AskCode (sec nm cd : ByteArray) (n : Int) (hs : sec.size ≤ 32) (hn : nm.size ≤ 100) (h0 : 0 ≤ n) (h1 : n ≤ 4294967295) : ACalls Tryz.prog 27 [.string sec, .agg #[.string nm, .int .i64 n, .string cd]] [] (.string (acS sec nm n)) [] := by
  have z1 := decS_size h0 (by omega)
  have H1 := ac_decimal (n.toNat + 1) n h0 (by omega) (by omega)
  obtain ⟨S, hS⟩ : ∃ S, decS n = S := ⟨_, rfl⟩
  rw [hS] at H1 z1
  obtain ⟨T1, e1⟩ : ∃ T, ⟨#[97, 115, 107, 32]⟩ ++ nm = T := ⟨_, rfl⟩
  obtain ⟨T2, e2⟩ : ∃ T, T1 ++ ⟨#[32]⟩ = T := ⟨_, rfl⟩
  obtain ⟨T3, e3⟩ : ∃ T, T2 ++ S = T := ⟨_, rfl⟩
  have q1 : T1.size = 4 + nm.size := by rw [← e1, ByteArray.size_append]; rfl
  have q2 : T2.size = T1.size + 1 := by rw [← e2, ByteArray.size_append]; rfl
  have q3 : T3.size = T2.size + S.size := by rw [← e3, ByteArray.size_append]
  have e5 : tx1 askW nm n = T3 := by
    unfold tx1
    rw [hS, ← e3, ← e2, ← e1, show (⟨#[97, 115, 107, 32]⟩ : ByteArray) = askW ++ ⟨#[32]⟩ by rfl]
    simp only [ByteArray.append_assoc]
  have H2 := ac_rcode sec T3 hs (by omega)
  unfold acS
  rw [e5]
  obtain ⟨C, hC⟩ : ∃ C, cdS sec T3 = C := ⟨_, rfl⟩
  rw [hC] at H2 ⊢
  refine acalls_law Tryz.func27 rfl rfl rfl ?_
  repeat' first | intro h1 | intro h1 | refine st (h := ok_str_addD (s := ⟨#[97, 115, 107, 32]⟩) (u := nm) rfl rfl e1 (by omega)) ?_ | refine sd (h := ok_str_addD (s := ⟨#[97, 115, 107, 32]⟩) (u := nm) rfl rfl e1 (by omega)) ?_ | refine st (h := ok_str_addD (s := T1) (u := ⟨#[32]⟩) rfl rfl e2 (by omega)) ?_ | refine sd (h := ok_str_addD (s := T1) (u := ⟨#[32]⟩) rfl rfl e2 (by omega)) ?_ | refine st (h := ok_str_addD (s := T2) (u := S) rfl rfl e3 (by omega)) ?_ | refine sd (h := ok_str_addD (s := T2) (u := S) rfl rfl e3 (by omega)) ?_ | refine st ?_ | refine st_call (H1) ?_ | refine st_call (H2) ?_ | refine sd_call (H1) ?_ | refine sd_call (H2) ?_ | refine stm ?_ | refine Ja ?_ | refine Jb ?_ | refine Jc ?_ | refine Jd ?_ | refine Je ?_ | refine Jf ?_ | refine Jg ?_ | refine Jh ?_ ?_ | refine Ji ?_ ?_ | refine Jj ?_ ?_ | refine run_nil ?_ | refine sd ?_ | refine sdl ?_ | refine sdm (n := 1) ?_ | refine sdm ?_ | refine sdb ?_ | refine Jk ?_ | refine Jl ?_ | refine Jm ?_ | refine Jn ?_ ?_ | refine Jo ?_ ?_ | refine Jp ?_ ?_ | refine rund_nil ?_ | refine Jz ?_ | refine Jw ?_ | refine Jx (id := 1) [0,0,2,6,14,0,32,96,254,511,1023] 11 ?_ | refine aw_block ?_ | refine Jq ?_ | refine Jr ?_ | refine Js ?_ | refine Jt ?_ | refine Ju ?_ ?_ | refine Jv ?_ ?_ | refine Jy ?_ | refine aw_exit ?_ | refine aw_ret ?_ | refine pp_ret ?_ | refine pp_normal ?_
  all_goals first
    | rfl
    | (exfalso; omega)
    | (simp [retOf]; done)
    | (exfalso; simp_all; done)
    | (exfalso; simp only [Bool.not_eq_true', Bool.not_eq_false', decide_eq_true_eq, decide_eq_false_iff_not, Bool.not_false, Bool.not_true] at *; omega)
theorem ac_adf (e : Int) : ACalls Tryz.prog 62 [.int .i64 e] [] (.tuple #[.slice none 0 0, .agg #[.string ⟨#[]⟩, .int .i64 0, .int .i64 0, .string ⟨#[]⟩], .int .i64 e]) [] := by
  refine acalls_law Tryz.func62 rfl rfl rfl ?_
  repeat' first | intro h1 | intro h1 | refine st ?_ | refine stm ?_ | refine Ja ?_ | refine Jb ?_ | refine Jc ?_ | refine Jd ?_ | refine Je ?_ | refine Jf ?_ | refine Jg ?_ | refine Jh ?_ ?_ | refine Ji ?_ ?_ | refine Jj ?_ ?_ | refine run_nil ?_ | refine Jz ?_ | refine Jw ?_ | refine aw_block ?_ | refine Jq ?_ | refine Jr ?_ | refine Js ?_ | refine Jt ?_ | refine Ju ?_ ?_ | refine Jv ?_ ?_ | refine Jy ?_ | refine aw_exit ?_ | refine aw_ret ?_ | refine pp_ret ?_ | refine pp_normal ?_
  all_goals first
    | rfl
    | (exfalso; omega)
    | (simp [retOf]; done)
    | (exfalso; simp_all; done)
    | (exfalso; simp only [Bool.not_eq_true', Bool.not_eq_false', decide_eq_true_eq, decide_eq_false_iff_not, Bool.not_false, Bool.not_true] at *; omega)
set_option maxHeartbeats 16000000 in
theorem ja_k (L : List Mb) (n : Nat) (hn : L.length = n) (hb : n ≤ 1000000) (nm cd : ByteArray) (no : Int) (hm : mmB L = true) (hk : akB nm no cd = false) : ACalls Tryz.prog 19 [.slice (some ⟨0, 0, none⟩) n n, .agg #[.string nm, .int .i64 no, .string cd]] [some ⟨L.flatMap mbC, false, 4⟩] (.tuple #[.slice none 0 0, .agg #[.string ⟨#[]⟩, .int .i64 0, .int .i64 0, .string ⟨#[]⟩], .int .i64 11]) [none] := by
  have HM : ACalls Tryz.prog 21 [.slice (some ⟨0, 0, none⟩) n n] [some ⟨L.flatMap mbC, false, 4⟩] (.int .i64 0) [none] := by have h := ac_jMembers L n hn hb; rw [hm] at h; exact h
  have HK := ac_asks nm no cd false hk
  refine acalls_law Tryz.func19 rfl rfl rfl ?_
  repeat' first | intro h1 | intro h1 | refine st (h := ok_not_dec2 rfl) ?_ | refine sd (h := ok_not_dec2 rfl) ?_ | refine st ?_ | refine stRW [0] HM ?_ | refine sdRW [0] HM ?_ | refine st_call (HK) ?_ | refine sd_call (HK) ?_ | refine st_call (ac_adf _) ?_ | refine sd_call (ac_adf _) ?_ | refine stm ?_ | refine Ja ?_ | refine Jb ?_ | refine Jc ?_ | refine Jd ?_ | refine Je ?_ | refine Jf ?_ | refine Jg ?_ | refine Jh ?_ ?_ | refine Ji ?_ ?_ | refine Jj ?_ ?_ | refine run_nil ?_ | refine sd ?_ | refine sdl ?_ | refine sdm (n := 1) ?_ | refine sdm ?_ | refine sdb ?_ | refine Jk ?_ | refine Jl ?_ | refine Jm ?_ | refine Jn ?_ ?_ | refine Jo ?_ ?_ | refine Jp ?_ ?_ | refine rund_nil ?_ | refine Jz ?_ | refine Jw ?_ | refine Jx (id := 10) [0,1,0,4,0,16,0,64,192,508,1023,2047] 12 ?_ | refine Jx (id := 23) [0,0,2,0,8,0,32,0,128,0,512,0,2048,0,8192,30720,65408,131070,130945,524287,1048575] 19 ?_ | refine aw_block ?_ | refine Jq ?_ | refine Jr ?_ | refine Js ?_ | refine Jt ?_ | refine Ju ?_ ?_ | refine Jv ?_ ?_ | refine Jy ?_ | refine aw_exit ?_ | refine aw_ret ?_ | refine pp_ret ?_ | refine pp_normal ?_
  all_goals first
    | rfl
    | (exfalso; omega)
    | (simp [retOf]; done)
    | (exfalso; simp_all; done)
    | (exfalso; simp only [Bool.not_eq_true', Bool.not_eq_false', decide_eq_true_eq, decide_eq_false_iff_not, Bool.not_false, Bool.not_true] at *; omega)
set_option maxHeartbeats 16000000 in
theorem ja_l (L : List Mb) (n : Nat) (hn : L.length = n) (hb : n ≤ 1000000) (nm cd : ByteArray) (no : Int) (hm : mmB L = true) (hk : akB nm no cd = true) (i : Nat) (hix : ixN L nm = i) (nm2 sec : ByteArray) (nd nq : Int) (hq : L[i]? = some ⟨nm2, sec, nd, nq⟩) (hcd : cd = acS sec nm no) (hl : no < nq) : ACalls Tryz.prog 19 [.slice (some ⟨0, 0, none⟩) n n, .agg #[.string nm, .int .i64 no, .string cd]] [some ⟨L.flatMap mbC, false, 4⟩] (.tuple #[.slice none 0 0, .agg #[.string ⟨#[]⟩, .int .i64 0, .int .i64 0, .string ⟨#[]⟩], .int .i64 15]) [none] := by
  have HM : ACalls Tryz.prog 21 [.slice (some ⟨0, 0, none⟩) n n] [some ⟨L.flatMap mbC, false, 4⟩] (.int .i64 0) [none] := by have h := ac_jMembers L n hn hb; rw [hm] at h; exact h
  have HK := ac_asks nm no cd true hk
  have HS := srch_hit L n hn hb nm hm i hix _ hq
  obtain ⟨hk1, hk2, hk3⟩ := akB_t hk
  have hk4 := nmB_t hk1
  have hs2 := scB_t (mb1_t (and_t (gdN_at hm (by have := (List.getElem?_eq_some_iff.1 hq).1; omega) hq)).1).2.1
  have hg2 := (mb1_t (and_t (gdN_at hm (by have := (List.getElem?_eq_some_iff.1 hq).1; omega) hq)).1).2.2
  have hin : i < n := by have := (List.getElem?_eq_some_iff.1 hq).1; omega
  dsimp only at hs2 hg2
  have HD := ac_code1 sec askW nm no (by omega) (by decide) (by omega) (by omega) (by omega)
  have e1 : cdS sec (tx1 askW nm no) = acS sec nm no := rfl
  try rw [e1] at HD
  obtain ⟨C, hC⟩ : ∃ C, acS sec nm no = C := ⟨_, rfl⟩
  rw [hC] at HD hcd
  clear hC e1
  replace hcd : decide (cd = C) = true := decide_eq_true hcd
  refine acalls_law Tryz.func19 rfl rfl rfl ?_
  repeat' first | intro h1 | intro h1 | refine st (h := ok_not_dec2 rfl) ?_ | refine sd (h := ok_not_dec2 rfl) ?_ | refine st (h := ok_load_rowsE (f := mbC) (cs := [.string nm2, .string sec, .int .i64 nd, .int .i64 nq]) i (fun _ => rfl) hq rfl rfl rfl rfl (by omega)) ?_ | refine sdl (h := ok_load_rowsE (f := mbC) (cs := [.string nm2, .string sec, .int .i64 nd, .int .i64 nq]) i (fun _ => rfl) hq rfl rfl rfl rfl (by omega)) ?_ | refine sd (h := ok_load_rowsE (f := mbC) (cs := [.string nm2, .string sec, .int .i64 nd, .int .i64 nq]) i (fun _ => rfl) hq rfl rfl rfl rfl (by omega)) ?_ | refine st (h := ok_str_neqE rfl rfl hcd) ?_ | refine sd (h := ok_str_neqE rfl rfl hcd) ?_ | refine st ?_ | refine stRW [0] HM ?_ | refine sdRW [0] HM ?_ | refine st_call (HK) ?_ | refine sd_call (HK) ?_ | refine stRW [0] HS ?_ | refine sdRW [0] HS ?_ | refine sdRW [4] HD ?_ | refine stRW [4] HD ?_ | refine sdRW [5] HD ?_ | refine stRW [5] HD ?_ | refine st_call (ac_adf _) ?_ | refine sd_call (ac_adf _) ?_ | refine stm ?_ | refine Ja ?_ | refine Jb ?_ | refine Jc ?_ | refine Jd ?_ | refine Je ?_ | refine Jf ?_ | refine Jg ?_ | refine Jh ?_ ?_ | refine Ji ?_ ?_ | refine Jj ?_ ?_ | refine run_nil ?_ | refine sd ?_ | refine sdl ?_ | refine sdm (n := 1) ?_ | refine sdm ?_ | refine sdb ?_ | refine Jk ?_ | refine Jl ?_ | refine Jm ?_ | refine Jn ?_ ?_ | refine Jo ?_ ?_ | refine Jp ?_ ?_ | refine rund_nil ?_ | refine Jz ?_ | refine Jw ?_ | refine Jx (id := 10) [0,1,0,4,0,16,0,64,192,508,1023,2047] 12 ?_ | refine Jx (id := 23) [0,0,2,0,8,0,32,0,128,0,512,0,2048,0,8192,30720,65408,131070,130945,524287,1048575] 19 ?_ | refine aw_block ?_ | refine Jq ?_ | refine Jr ?_ | refine Js ?_ | refine Jt ?_ | refine Ju ?_ ?_ | refine Jv ?_ ?_ | refine Jy ?_ | refine aw_exit ?_ | refine aw_ret ?_ | refine pp_ret ?_ | refine pp_normal ?_
  all_goals first
    | rfl
    | (exfalso; omega)
    | (simp [retOf]; done)
    | (exfalso; simp_all; done)
    | (exfalso; simp only [Bool.not_eq_true', Bool.not_eq_false', decide_eq_true_eq, decide_eq_false_iff_not, Bool.not_false, Bool.not_true] at *; omega)
set_option maxHeartbeats 4000000 in
theorem ac_same (L : List Mb) (n : Nat) (hn : L.length = n) (hb : n ≤ 1000000) : ACalls Tryz.prog 23 [.slice (some ⟨0, 0, none⟩) n n, .slice (some ⟨1, 0, none⟩) n n] [some ⟨L.flatMap mbC, false, 4⟩, some ⟨L.flatMap mbC, false, 4⟩] (.bool true) [none, none] := by
  refine acalls_law Tryz.func23 rfl rfl rfl ?_
  repeat' first | intro h1 | intro h1 | refine st ?_ | refine stm ?_ | refine Ja ?_ | refine Jb ?_ | refine Jc ?_ | refine Jd ?_ | refine Je ?_ | refine Jf ?_ | refine Jg ?_ | refine Jh ?_ ?_ | refine Ji ?_ ?_ | refine Jj ?_ ?_ | refine run_nil ?_ | refine sd ?_ | refine sdl ?_ | refine sdm (n := 1) ?_ | refine sdm ?_ | refine sdb ?_ | refine Jk ?_ | refine Jl ?_ | refine Jm ?_ | refine Jn ?_ ?_ | refine Jo ?_ ?_ | refine Jp ?_ ?_ | refine rund_nil ?_ | refine Jz ?_ | refine Jw ?_ | refine Jx (id := 6) [0,0,3,7,0,0,48,112,255] 9 ?_ | refine aw_block ?_ | refine Jq ?_ | refine Jr ?_ | refine Js ?_ | refine Jt ?_ | refine Ju ?_ ?_ | refine Jv ?_ ?_ | refine Jy ?_ | refine aw_exit ?_ | refine aw_ret ?_ | refine pp_ret ?_ | refine pp_normal ?_
  refine aw_loopg
    (S := fun y : Ki => [(0, .slice (some ⟨0, 0, none⟩) n n), (1, .slice (some ⟨1, 0, none⟩) n n), (5, .int .i64 y.i)])
    (B := fun _ : Ki => [some ⟨L.flatMap mbC, false, 4⟩, some ⟨L.flatMap mbC, false, 4⟩])
    (R := fun y : Ki => y.i ≤ n)
    (μ := fun y : Ki => n - y.i) ⟨0⟩ (fitsD [0, 1]) (Nat.zero_le _) ?_
  rintro ⟨i⟩ g1
  dsimp only at g1 ⊢
  by_cases hi : i < n
  · obtain ⟨⟨nm, sec, nd, no⟩, hq⟩ : ∃ m, L[i]? = some m := ⟨_, List.getElem?_eq_getElem (by omega)⟩
    repeat' first | intro h1 | intro h1 | refine sdl (h := ok_load_rowsE (f := mbC) (cs := [.string nm, .string sec, .int .i64 nd, .int .i64 no]) i (fun _ => rfl) hq rfl rfl rfl rfl (by omega)) ?_ | refine sd (h := ok_load_rowsE (f := mbC) (cs := [.string nm, .string sec, .int .i64 nd, .int .i64 no]) i (fun _ => rfl) hq rfl rfl rfl rfl (by omega)) ?_ | refine st (h := ok_load_rowsE (f := mbC) (cs := [.string nm, .string sec, .int .i64 nd, .int .i64 no]) i (fun _ => rfl) hq rfl rfl rfl rfl (by omega)) ?_ | refine st ?_ | refine stm ?_ | refine Ja ?_ | refine Jb ?_ | refine Jc ?_ | refine Jd ?_ | refine Je ?_ | refine Jf ?_ | refine Jg ?_ | refine Jh ?_ ?_ | refine Ji ?_ ?_ | refine Jj ?_ ?_ | refine run_nil ?_ | refine sd ?_ | refine sdl ?_ | refine sdm (n := 1) ?_ | refine sdm ?_ | refine sdb ?_ | refine Jk ?_ | refine Jl ?_ | refine Jm ?_ | refine Jn ?_ ?_ | refine Jo ?_ ?_ | refine Jp ?_ ?_ | refine rund_nil ?_ | refine Jz ?_ | refine Jw ?_ | refine Jx (id := 6) [0,0,3,7,0,0,48,112,255] 9 ?_ | refine aw_block ?_ | refine Jq ?_ | refine Jr ?_ | refine Js ?_ | refine Jt ?_ | refine Ju ?_ ?_ | refine Jv ?_ ?_ | refine Jy ?_ | refine aw_exit ?_ | refine aw_ret ?_ | refine pp_ret ?_ | refine pp_normal ?_
    all_goals first | exact Exists.intro ⟨i + 1⟩ ⟨fitsD [0, 1], hi, by dsimp only; omega⟩ | (exfalso; omega) | exact absurd ⟨rfl, rfl, rfl, rfl, trivial⟩ h1 | (exfalso; first | (simp_all; done) | (simp_all; omega))
  · obtain rfl : i = n := by omega
    repeat' first | intro h1 | intro h1 | refine st ?_ | refine stm ?_ | refine Ja ?_ | refine Jb ?_ | refine Jc ?_ | refine Jd ?_ | refine Je ?_ | refine Jf ?_ | refine Jg ?_ | refine Jh ?_ ?_ | refine Ji ?_ ?_ | refine Jj ?_ ?_ | refine run_nil ?_ | refine sd ?_ | refine sdl ?_ | refine sdm (n := 1) ?_ | refine sdm ?_ | refine sdb ?_ | refine Jk ?_ | refine Jl ?_ | refine Jm ?_ | refine Jn ?_ ?_ | refine Jo ?_ ?_ | refine Jp ?_ ?_ | refine rund_nil ?_ | refine Jz ?_ | refine Jw ?_ | refine Jx (id := 6) [0,0,3,7,0,0,48,112,255] 9 ?_ | refine aw_block ?_ | refine Jq ?_ | refine Jr ?_ | refine Js ?_ | refine Jt ?_ | refine Ju ?_ ?_ | refine Jv ?_ ?_ | refine Jy ?_ | refine aw_exit ?_ | refine aw_ret ?_ | refine pp_ret ?_ | refine pp_normal ?_
    all_goals first
      | rfl
      | (exfalso; omega)
      | (simp [retOf]; done)
      | (exfalso; simp_all; done)
      | (exfalso; simp only [Bool.not_eq_true', Bool.not_eq_false', decide_eq_true_eq, decide_eq_false_iff_not, Bool.not_false, Bool.not_true] at *; omega)
end Go.Proofs.YtdbcbclapipgdaaGreatDoor
