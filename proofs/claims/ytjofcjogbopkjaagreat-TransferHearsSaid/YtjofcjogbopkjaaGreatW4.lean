/- Transfer: the contracts at the example's stores. Transfer: Hear and Serve at the example's stores. Transfer: the laws' example. -/
import Derived.Test.YtjofcjogbopkjaaGreatVL
import Derived.Test.YtjofcjogbopkjaaGreatK3
import Derived.Test.YtjofcjogbopkjaaGreatVAh
import Derived.Test.YtjofcjogbopkjaaGreatU5
import Derived.Test.YtjofcjogbopkjaaGreatT3
set_option linter.unusedVariables false
set_option linter.unusedSimpArgs false
namespace Go.Proofs.YtjofcjogbopkjaaGreat
open Go Av
set_option maxRecDepth 20000
theorem a3_val1 {D : ByteArray} (sD : D.size = 32) : valU 1 3 D 2 0 0 ⟨#[]⟩ = true := by
  unfold valU
  rw [decide_eq_true ⟨by decide, by decide, sD⟩]
  decide
theorem a3_ch2 {A B D E : ByteArray} (sA : A.size = 32) (sB : B.size = 32) (hE : encS 3 5 4 2 [A, B] = E) (hD : dig 0 (idB E).data.toList = D) (sD : D.size = 32) : chS (a32 D A B) = true := by
  rw [← a3_s2 sA sB hE hD]
  exact ch_man (ch_new ⟨by decide, by decide, sD⟩) ⟨by show (1 : Int) ≤ 3; decide, by show (3 : Int) ≤ 65535; decide, sD⟩ rfl
theorem a3_ch3 {A B D E : ByteArray} (sA : A.size = 32) (sB : B.size = 32) (hE : encS 3 5 4 2 [A, B] = E) (hD : dig 0 (idB E).data.toList = D) (sD : D.size = 32) : chS (a33 D A B) = true := by
  rw [← a3_s3]
  exact ch_put (a3_ch2 sA sB hE hD sD) rfl (by show (true && decide (((0 : Nat) : Int) = 5)) = false; decide) (by show (0 : Int) ≤ 1 ∧ (1 : Int) < 64; decide)
theorem a3_Announce {A B D E : ByteArray} (hA : dgS 3 0 ⟨#[97, 98, 99, 100]⟩ = A) (hB : dgS 3 1 ⟨#[101]⟩ = B) (sA : A.size = 32) (sB : B.size = 32) (hE : encS 3 5 4 2 [A, B] = E) (hD : dig 0 (idB E).data.toList = D) (sD : D.size = 32) : ACalls Tryz.prog 12 [.agg #[.int .i64 3, .string D, .bool true, .int .i64 3, .int .i64 5, .int .i64 4, .int .i64 2, .slice (some ⟨0, 0, none⟩) 2 2, .string ⟨#[97, 98, 99, 100, 101]⟩, .int .u64 0, .slice (some ⟨1, 0, none⟩) 0 0]] [some ⟨[.string A, .string B], false, 1⟩, some ⟨[], false, 1⟩] (.tuple #[.agg #[.int .i64 1, .int .i64 3, .string D, .int .i64 2, .int .i64 0, .int .u64 0, .string ⟨#[]⟩], .int .i64 0]) [none, none] := ac_Announce (a3F D A B) 2 0 rfl rfl (by decide) (by show 0 < 18446744073709551616; decide) (by show 5 ≤ 1000000; decide) (a3_F hA hB sA sB hE hD sD) (decide_eq_false fun h => absurd h.1 (by show ¬ (3 : Int) = 0; decide)) (fun _ => .inr (by show (1 : Int) ≤ 4; decide)) 2 (by show dnN 5 4 2 5 = 2; decide)
theorem a3_AskF {A B D E : ByteArray} (hA : dgS 3 0 ⟨#[97, 98, 99, 100]⟩ = A) (hB : dgS 3 1 ⟨#[101]⟩ = B) (sA : A.size = 32) (sB : B.size = 32) (hE : encS 3 5 4 2 [A, B] = E) (hD : dig 0 (idB E).data.toList = D) (sD : D.size = 32) : ACalls Tryz.prog 14 [.agg #[.int .i64 3, .string D, .bool false, .int .i64 0, .int .i64 0, .int .i64 0, .int .i64 0, .slice (some ⟨0, 0, none⟩) 0 0, .string ⟨#[]⟩, .int .u64 0, .slice (some ⟨1, 0, none⟩) 0 0]] [some ⟨[], false, 1⟩, some ⟨[], false, 1⟩] (.tuple #[.agg #[.int .i64 2, .int .i64 3, .string D, .int .i64 (-1), .int .i64 0, .int .u64 0, .string ⟨#[]⟩], .int .i64 0]) [none, none] := ac_Ask (a31 D) 0 0 rfl rfl (by decide) (by show 0 < 18446744073709551616; decide) (by show 0 ≤ 1000000; decide) (ch_new ⟨by decide, by decide, sD⟩) (decide_eq_false fun h => absurd h.1 (by show ¬ (3 : Int) = 0; decide)) rfl (fun h => absurd (show false = true from h) (by decide)) (-1) rfl 0 rfl
theorem a3_Ask2 {A B D E : ByteArray} (hA : dgS 3 0 ⟨#[97, 98, 99, 100]⟩ = A) (hB : dgS 3 1 ⟨#[101]⟩ = B) (sA : A.size = 32) (sB : B.size = 32) (hE : encS 3 5 4 2 [A, B] = E) (hD : dig 0 (idB E).data.toList = D) (sD : D.size = 32) : ACalls Tryz.prog 14 [.agg #[.int .i64 3, .string D, .bool true, .int .i64 3, .int .i64 5, .int .i64 4, .int .i64 2, .slice (some ⟨0, 0, none⟩) 2 2, .string ⟨#[]⟩, .int .u64 0, .slice (some ⟨1, 0, none⟩) 2 2]] [some ⟨[.string A, .string B], false, 1⟩, some ⟨[.string ⟨#[]⟩, .string ⟨#[]⟩], false, 1⟩] (.tuple #[.agg #[.int .i64 2, .int .i64 3, .string D, .int .i64 0, .int .i64 0, .int .u64 ((3 : Nat) : Int), .string ⟨#[]⟩], .int .i64 0]) [none, none] := ac_Ask (a32 D A B) 2 2 rfl rfl (by decide) (by show 0 < 18446744073709551616; decide) (by show 0 ≤ 1000000; decide) (a3_ch2 sA sB hE hD sD) (decide_eq_false fun h => absurd h.1 (by show ¬ (3 : Int) = 0; decide)) (by show (true && decide (((0 : Nat) : Int) = 5)) = false; decide) (fun _ => ⟨.inr (by show (1 : Int) ≤ 4; decide), by decide, by show 0 < 2 ^ 2; decide⟩) 0 (by show dnN 5 4 2 0 = 0; decide) 3 (by show 2 ^ 2 - 1 - 0 = 3; decide)
theorem a3_Ask3 {A B D E : ByteArray} (hA : dgS 3 0 ⟨#[97, 98, 99, 100]⟩ = A) (hB : dgS 3 1 ⟨#[101]⟩ = B) (sA : A.size = 32) (sB : B.size = 32) (hE : encS 3 5 4 2 [A, B] = E) (hD : dig 0 (idB E).data.toList = D) (sD : D.size = 32) : ACalls Tryz.prog 14 [.agg #[.int .i64 3, .string D, .bool true, .int .i64 3, .int .i64 5, .int .i64 4, .int .i64 2, .slice (some ⟨0, 0, none⟩) 2 2, .string ⟨#[]⟩, .int .u64 2, .slice (some ⟨1, 0, none⟩) 2 2]] [some ⟨[.string A, .string B], false, 1⟩, some ⟨[.string ⟨#[]⟩, .string ⟨#[99, 100]⟩], false, 1⟩] (.tuple #[.agg #[.int .i64 2, .int .i64 3, .string D, .int .i64 0, .int .i64 0, .int .u64 ((1 : Nat) : Int), .string ⟨#[]⟩], .int .i64 0]) [none, none] := ac_Ask (a33 D A B) 2 2 rfl rfl (by decide) (by show 2 < 18446744073709551616; decide) (by show 0 ≤ 1000000; decide) (a3_ch3 sA sB hE hD sD) (decide_eq_false fun h => absurd h.1 (by show ¬ (3 : Int) = 0; decide)) (by show (true && decide (((0 : Nat) : Int) = 5)) = false; decide) (fun _ => ⟨.inr (by show (1 : Int) ≤ 4; decide), by decide, by show 2 < 2 ^ 2; decide⟩) 0 (by show dnN 5 4 2 0 = 0; decide) 1 (by show 2 ^ 2 - 1 - 2 = 1; decide)
end Go.Proofs.YtjofcjogbopkjaaGreat
namespace Go.Proofs.YtjofcjogbopkjaaGreat
open Go Av
set_option maxRecDepth 20000
theorem a3_valm {D E : ByteArray} (sD : D.size = 32) (sE : E.size = 73) : valU 3 3 D 0 0 0 E = true := by
  unfold valU
  rw [decide_eq_true ⟨by decide, by decide, sD⟩, if_neg (by decide), if_neg (by decide), if_pos rfl, sE]
  decide
theorem a3_valp {D d : ByteArray} (sD : D.size = 32) (p : Int) (hp : 0 ≤ p ∧ p < 64) (hd : d.size = 2) : valU 4 3 D 0 p 0 d = true := by
  unfold valU
  rw [decide_eq_true ⟨by decide, by decide, sD⟩, if_neg (by decide), if_neg (by decide), if_neg (by decide), if_pos rfl, hd]
  exact decide_eq_true ⟨by decide, hp, by decide, rfl⟩
theorem a3_vala {D : ByteArray} (sD : D.size = 32) (pg : Int) (b : Nat) (h : (pg = -1 ∧ b = 0) ∨ ((0 ≤ pg ∧ pg < 64) ∧ b ≠ 0)) : valU 2 3 D pg 0 b ⟨#[]⟩ = true := by
  unfold valU
  rw [decide_eq_true ⟨by decide, by decide, sD⟩, if_neg (by decide), if_pos rfl]
  exact decide_eq_true ⟨h, rfl, rfl⟩
theorem a3_Hear0 {A B D E : ByteArray} (hA : dgS 3 0 ⟨#[97, 98, 99, 100]⟩ = A) (hB : dgS 3 1 ⟨#[101]⟩ = B) (sA : A.size = 32) (sB : B.size = 32) (hE : encS 3 5 4 2 [A, B] = E) (hD : dig 0 (idB E).data.toList = D) (sD : D.size = 32) : ACalls Tryz.prog 9 [.agg #[.int .i64 0, .string ⟨#[]⟩, .bool false, .int .i64 0, .int .i64 0, .int .i64 0, .int .i64 0, .slice (some ⟨0, 0, none⟩) 0 0, .string ⟨#[]⟩, .int .u64 0, .slice (some ⟨1, 0, none⟩) 0 0], .agg #[.int .i64 1, .int .i64 3, .string D, .int .i64 2, .int .i64 0, .int .u64 0, .string ⟨#[]⟩]] [some ⟨[], false, 1⟩, some ⟨[], false, 1⟩] (.tuple #[.agg #[.int .i64 3, .string D, .bool false, .int .i64 0, .int .i64 0, .int .i64 0, .int .i64 0, .slice (some ⟨2, 0, none⟩) 0 0, .string ⟨#[]⟩, .int .u64 0, .slice (some ⟨3, 0, none⟩) 0 0], .bool false, .int .i64 0]) [none, none, some ⟨[], true, 1⟩, some ⟨[], true, 1⟩] := ac_HearN sto0 0 0 rfl rfl (by decide) (by show 0 < 18446744073709551616; decide) (by show 0 ≤ 100000; decide) (by decide) 1 3 D 2 0 0 ⟨#[]⟩ (a3_val1 sD) rfl (by show (0 : Int) < 3; decide)
theorem a3_Hear1 {A B D E : ByteArray} (hA : dgS 3 0 ⟨#[97, 98, 99, 100]⟩ = A) (hB : dgS 3 1 ⟨#[101]⟩ = B) (sA : A.size = 32) (sB : B.size = 32) (hE : encS 3 5 4 2 [A, B] = E) (hD : dig 0 (idB E).data.toList = D) (sD : D.size = 32) : ACalls Tryz.prog 9 [.agg #[.int .i64 3, .string D, .bool false, .int .i64 0, .int .i64 0, .int .i64 0, .int .i64 0, .slice (some ⟨0, 0, none⟩) 0 0, .string ⟨#[]⟩, .int .u64 0, .slice (some ⟨1, 0, none⟩) 0 0], .agg #[.int .i64 3, .int .i64 3, .string D, .int .i64 0, .int .i64 0, .int .u64 0, .string E]] [some ⟨[], false, 1⟩, some ⟨[], false, 1⟩] (.tuple #[.agg #[.int .i64 3, .string D, .bool true, .int .i64 3, .int .i64 5, .int .i64 4, .int .i64 2, .slice (some ⟨2, 0, none⟩) 2 2, .string ⟨#[]⟩, .int .u64 0, .slice (some ⟨3, 0, none⟩) 2 2], .bool false, .int .i64 0]) [none, none, some ⟨[.string A, .string B], true, 1⟩, some ⟨[.string ⟨#[]⟩, .string ⟨#[]⟩], true, 1⟩] := ac_HearM (a31 D) 0 0 rfl rfl (by decide) (by show 0 < 18446744073709551616; decide) (by show 0 ≤ 100000; decide) (ch_new ⟨by decide, by decide, sD⟩) 3 3 D 0 0 0 E (a3_valm sD (by rw [← hE, encS_size (by simp [sA, sB])]; rfl)) rfl rfl rfl rfl (by rw [← hE, encS_size (by simp [sA, sB])]; show 9 + 32 * 2 ≤ 4096; decide) (a32 D A B) (a3_s2 sA sB hE hD) 2 2 rfl rfl
theorem a3_Hear2 {A B D E : ByteArray} (hA : dgS 3 0 ⟨#[97, 98, 99, 100]⟩ = A) (hB : dgS 3 1 ⟨#[101]⟩ = B) (sA : A.size = 32) (sB : B.size = 32) (hE : encS 3 5 4 2 [A, B] = E) (hD : dig 0 (idB E).data.toList = D) (sD : D.size = 32) : ACalls Tryz.prog 9 [.agg #[.int .i64 3, .string D, .bool true, .int .i64 3, .int .i64 5, .int .i64 4, .int .i64 2, .slice (some ⟨0, 0, none⟩) 2 2, .string ⟨#[]⟩, .int .u64 0, .slice (some ⟨1, 0, none⟩) 2 2], .agg #[.int .i64 4, .int .i64 3, .string D, .int .i64 0, .int .i64 1, .int .u64 0, .string ⟨#[99, 100]⟩]] [some ⟨[.string A, .string B], false, 1⟩, some ⟨[.string ⟨#[]⟩, .string ⟨#[]⟩], false, 1⟩] (.tuple #[.agg #[.int .i64 3, .string D, .bool true, .int .i64 3, .int .i64 5, .int .i64 4, .int .i64 2, .slice (some ⟨2, 0, none⟩) 2 2, .string ⟨#[]⟩, .int .u64 2, .slice (some ⟨3, 0, none⟩) 2 2], .bool false, .int .i64 0]) [none, none, some ⟨[.string A, .string B], true, 1⟩, some ⟨[.string ⟨#[]⟩, .string ⟨#[99, 100]⟩], true, 1⟩] := ac_HearP (a32 D A B) 2 2 rfl rfl (by decide) (by show 0 < 18446744073709551616; decide) (by show 0 ≤ 100000; decide) (a3_ch2 sA sB hE hD sD) 4 3 D 0 1 0 ⟨#[99, 100]⟩ (a3_valp sD _ (by decide) rfl) rfl rfl rfl rfl (by show (true && decide (((0 : Nat) : Int) = 5)) = false; decide) (a33 D A B) a3_s3 2 rfl
theorem a3_Hear3 {A B D E : ByteArray} (hA : dgS 3 0 ⟨#[97, 98, 99, 100]⟩ = A) (hB : dgS 3 1 ⟨#[101]⟩ = B) (sA : A.size = 32) (sB : B.size = 32) (hE : encS 3 5 4 2 [A, B] = E) (hD : dig 0 (idB E).data.toList = D) (sD : D.size = 32) (hx : dgS 3 0 ⟨#[120, 120, 99, 100]⟩ ≠ A) : ACalls Tryz.prog 9 [.agg #[.int .i64 3, .string D, .bool true, .int .i64 3, .int .i64 5, .int .i64 4, .int .i64 2, .slice (some ⟨0, 0, none⟩) 2 2, .string ⟨#[]⟩, .int .u64 2, .slice (some ⟨1, 0, none⟩) 2 2], .agg #[.int .i64 4, .int .i64 3, .string D, .int .i64 0, .int .i64 0, .int .u64 0, .string ⟨#[120, 120]⟩]] [some ⟨[.string A, .string B], false, 1⟩, some ⟨[.string ⟨#[]⟩, .string ⟨#[99, 100]⟩], false, 1⟩] (.tuple #[.agg #[.int .i64 3, .string D, .bool true, .int .i64 3, .int .i64 5, .int .i64 4, .int .i64 2, .slice (some ⟨2, 0, none⟩) 2 2, .string ⟨#[]⟩, .int .u64 0, .slice (some ⟨3, 0, none⟩) 2 2], .bool false, .int .i64 0]) [none, none, some ⟨[.string A, .string B], true, 1⟩, some ⟨[.string ⟨#[]⟩, .string ⟨#[]⟩], true, 1⟩] := ac_HearP (a33 D A B) 2 2 rfl rfl (by decide) (by show 2 < 18446744073709551616; decide) (by show 0 ≤ 100000; decide) (a3_ch3 sA sB hE hD sD) 4 3 D 0 0 0 ⟨#[120, 120]⟩ (a3_valp sD _ (by decide) rfl) rfl rfl rfl rfl (by show (true && decide (((0 : Nat) : Int) = 5)) = false; decide) (a32 D A B) (a3_s4 hx) 2 rfl
theorem a3_Serve1 {A B D E : ByteArray} (hA : dgS 3 0 ⟨#[97, 98, 99, 100]⟩ = A) (hB : dgS 3 1 ⟨#[101]⟩ = B) (sA : A.size = 32) (sB : B.size = 32) (hE : encS 3 5 4 2 [A, B] = E) (hD : dig 0 (idB E).data.toList = D) (sD : D.size = 32) : ACalls Tryz.prog 24 [.agg #[.int .i64 3, .string D, .bool true, .int .i64 3, .int .i64 5, .int .i64 4, .int .i64 2, .slice (some ⟨0, 0, none⟩) 2 2, .string ⟨#[97, 98, 99, 100, 101]⟩, .int .u64 0, .slice (some ⟨1, 0, none⟩) 0 0], .agg #[.int .i64 2, .int .i64 3, .string D, .int .i64 (-1), .int .i64 0, .int .u64 0, .string ⟨#[]⟩]] [some ⟨[.string A, .string B], false, 1⟩, some ⟨[], false, 1⟩] (.tuple #[.slice (some ⟨2, 0, none⟩) 1 1, .int .i64 0]) [none, none, some ⟨[.int .i64 3, .int .i64 3, .string D, .int .i64 0, .int .i64 0, .int .u64 0, .string E], true, 7⟩] := by
  have h := ac_ServeM (a3F D A B) 2 0 rfl rfl (by decide) (by show 0 < 18446744073709551616; decide) (by show 5 ≤ 100000; decide) (a3_F hA hB sA sB hE hD sD) rfl 3 D (-1) 0 (a3_vala sD _ _ (.inl ⟨rfl, rfl⟩)) rfl rfl (by decide)
  have e : srvL (a3F D A B) (-1) 0 = [⟨3, 3, D, 0, 0, 0, E⟩] := by
    unfold srvL
    rw [if_pos (by decide), ← hE]
  rw [e] at h
  exact h
theorem a3_Serve2 {A B D E : ByteArray} (hA : dgS 3 0 ⟨#[97, 98, 99, 100]⟩ = A) (hB : dgS 3 1 ⟨#[101]⟩ = B) (sA : A.size = 32) (sB : B.size = 32) (hE : encS 3 5 4 2 [A, B] = E) (hD : dig 0 (idB E).data.toList = D) (sD : D.size = 32) : ACalls Tryz.prog 24 [.agg #[.int .i64 3, .string D, .bool true, .int .i64 3, .int .i64 5, .int .i64 4, .int .i64 2, .slice (some ⟨0, 0, none⟩) 2 2, .string ⟨#[97, 98, 99, 100, 101]⟩, .int .u64 0, .slice (some ⟨1, 0, none⟩) 0 0], .agg #[.int .i64 2, .int .i64 3, .string D, .int .i64 0, .int .i64 0, .int .u64 ((3 : Nat) : Int), .string ⟨#[]⟩]] [some ⟨[.string A, .string B], false, 1⟩, some ⟨[], false, 1⟩] (.tuple #[.slice (some ⟨2, 0, none⟩) 2 2, .int .i64 0]) [none, none, some ⟨[.int .i64 4, .int .i64 3, .string D, .int .i64 0, .int .i64 0, .int .u64 0, .string ⟨#[97, 98]⟩, .int .i64 4, .int .i64 3, .string D, .int .i64 0, .int .i64 1, .int .u64 0, .string ⟨#[99, 100]⟩], true, 7⟩] := by
  have e : srvL (a3F D A B) 0 3 = [⟨4, 3, D, 0, 0, 0, ⟨#[97, 98]⟩⟩, ⟨4, 3, D, 0, 1, 0, ⟨#[99, 100]⟩⟩] := by
    unfold srvL
    rw [if_neg (by decide), if_pos (by show (0 : Int) < dnN 5 4 2 5; decide)]
    show ((preL 5 4 2 ⟨#[97, 98, 99, 100, 101]⟩ 0 3 (pkC 5 4 2 0).toNat).map (ansU 3 D)) = _
    rw [show preL 5 4 2 ⟨#[97, 98, 99, 100, 101]⟩ 0 3 (pkC 5 4 2 0).toNat = [⟨4, 0, ⟨#[]⟩, 0, 0, 0, ⟨#[97, 98]⟩⟩, ⟨4, 0, ⟨#[]⟩, 0, 1, 0, ⟨#[99, 100]⟩⟩] by decide +kernel]
    rfl
  have h := ac_ServeP (a3F D A B) 2 0 rfl rfl (by decide) (by show 0 < 18446744073709551616; decide) (by show 5 ≤ 100000; decide) (a3_F hA hB sA sB hE hD sD) rfl 3 D 0 3 (by decide) (a3_vala sD _ _ (.inr ⟨by decide, by decide⟩)) rfl rfl 0 rfl 2 (by show dnN 5 4 2 5 = ((2 : Nat) : Int); decide) (by decide) 2 (by rw [e]; rfl)
  rw [e] at h
  exact h
end Go.Proofs.YtjofcjogbopkjaaGreat
namespace Go.Proofs.YtjofcjogbopkjaaGreat
open Go Av
set_option maxRecDepth 20000
theorem b0 : dgS 3 0 ⟨#[97, 98, 99, 100]⟩ = dig 0 [112, 97, 103, 101, 0, 3, 0, 0, 97, 98, 99, 100] := congrArg (dig 0) (by decide +kernel)
theorem b2 : dgS 3 0 ⟨#[120, 120, 99, 100]⟩ = dig 0 [112, 97, 103, 101, 0, 3, 0, 0, 120, 120, 99, 100] := congrArg (dig 0) (by decide +kernel)
theorem b_ne : dig 0 [112, 97, 103, 101, 0, 3, 0, 0, 120, 120, 99, 100] ≠ dig 0 [112, 97, 103, 101, 0, 3, 0, 0, 97, 98, 99, 100] := by decide +kernel
theorem b_size (n : Int) (X : List UInt8) : (dig n X).size = 32 := by
  show (outB _ 8).toArray.size = 32
  simp [outB]
def exL (A B : ByteArray) : Nat → List Value
  | 0 => []
  | _ => [.string A, .string B]
def exPk : Nat → List Value
  | 0 => []
  | 1 => [.string ⟨#[]⟩, .string ⟨#[]⟩]
  | _ => [.string ⟨#[]⟩, .string ⟨#[99, 100]⟩]
def exB (D : ByteArray) : Nat → List Value
  | 0 => [.int .i64 3, .string D, .bool false, .int .i64 0, .int .i64 0, .int .i64 0, .int .i64 0, .slice (some ⟨4, 0, none⟩) 0 0, .string ⟨#[]⟩, .int .u64 0, .slice (some ⟨5, 0, none⟩) 0 0]
  | 1 => [.int .i64 3, .string D, .bool true, .int .i64 3, .int .i64 5, .int .i64 4, .int .i64 2, .slice (some ⟨4, 0, none⟩) 2 2, .string ⟨#[]⟩, .int .u64 0, .slice (some ⟨5, 0, none⟩) 2 2]
  | _ => [.int .i64 3, .string D, .bool true, .int .i64 3, .int .i64 5, .int .i64 4, .int .i64 2, .slice (some ⟨4, 0, none⟩) 2 2, .string ⟨#[]⟩, .int .u64 2, .slice (some ⟨5, 0, none⟩) 2 2]
set_option maxHeartbeats 16000000 in
theorem ac_ex {A B D E : ByteArray} (hA : dgS 3 0 ⟨#[97, 98, 99, 100]⟩ = A) (hB : dgS 3 1 ⟨#[101]⟩ = B) (sA : A.size = 32) (sB : B.size = 32) (hE : encS 3 5 4 2 [A, B] = E) (hD : dig 0 (idB E).data.toList = D) (sD : D.size = 32) (hx : dgS 3 0 ⟨#[120, 120, 99, 100]⟩ ≠ A) : ACalls Tryz.prog 5 [] [] (.bool true) [] := by
  have hmk : mkL 3 ⟨#[97, 98, 99, 100, 101]⟩ 4 2 = [A, B] := by
    rw [← hA, ← hB]
    show [dgS 3 0 (pgS ⟨#[97, 98, 99, 100, 101]⟩ 4 0), dgS 3 1 (pgS ⟨#[97, 98, 99, 100, 101]⟩ 4 1)] = _
    rw [show pgS ⟨#[97, 98, 99, 100, 101]⟩ 4 0 = ⟨#[97, 98, 99, 100]⟩ by decide +kernel, show pgS ⟨#[97, 98, 99, 100, 101]⟩ 4 1 = ⟨#[101]⟩ by decide +kernel]
  have H1 := ac_make 3 ⟨#[97, 98, 99, 100, 101]⟩ 4 2 (by decide) 0 (by decide +kernel) 2 (by decide +kernel)
  rw [if_neg (by decide), if_neg (by decide), hmk] at H1
  have H2 := ac_Full 3 5 4 2 [A, B] 2 rfl (by decide) ⟨#[97, 98, 99, 100, 101]⟩ (by decide) 0 (a3_chk A B sA sB) D (by rw [hE, ← hD]; exact if_neg (by decide)) (by unfold inE; rw [if_neg (by decide), if_neg (by decide), show mkN ⟨#[97, 98, 99, 100, 101]⟩ 4 = 2 by decide +kernel, if_pos hmk])
  have H3 := a3_Announce hA hB sA sB hE hD sD
  have H4 := a3_Hear0 hA hB sA sB hE hD sD
  have H5 := ac_Complete (a3F D A B) 2 0 rfl rfl (by decide) (by show 0 < 18446744073709551616; decide) (by show 5 ≤ 1000000; decide) true true (a3_F hA hB sA sB hE hD sD) (by show (true && decide (((5 : Nat) : Int) = 5)) = true; decide)
  have H6 := ac_Complete (a31 D) 0 0 rfl rfl (by decide) (by show 0 < 18446744073709551616; decide) (by show 0 ≤ 1000000; decide) true false (ch_new ⟨by decide, by decide, sD⟩) rfl
  have Q1 := a3_AskF hA hB sA sB hE hD sD
  have Q2 := a3_Ask2 hA hB sA sB hE hD sD
  have Q3 := a3_Ask3 hA hB sA sB hE hD sD
  have R1 := a3_Serve1 hA hB sA sB hE hD sD
  have R2 := a3_Serve2 hA hB sA sB hE hD sD
  have T1 := a3_Hear1 hA hB sA sB hE hD sD
  have T2 := a3_Hear2 hA hB sA sB hE hD sD
  have T3 := a3_Hear3 hA hB sA sB hE hD sD hx
  clear hA hB hE hD hx hmk
  refine acalls_pure Tryz.func5 rfl rfl rfl ?_
  refine aw_ghost 1 rfl ?_
  refine aw_ghost 1 rfl ?_
  repeat' first | refine st ?_ | refine stMW [] H1 ?_ | refine stMW [2] H2 ?_ | refine stRW [4, 5] H3 ?_ | refine stMW [0, 1] H4 ?_ | refine stRW [4, 5] H5 ?_ | refine stRW [8, 9] H6 ?_ | refine stm ?_ | refine Ja ?_ | refine run_nil ?_ | refine Jz ?_ | refine Jw ?_ | refine aw_block ?_ | refine Jr ?_ | refine Jy ?_
  all_goals try (exfalso; omega)
  refine aw_loopg
    (S := fun y : Ag => [(3, .pointer (some ⟨2, 0, none⟩)), (5, .pointer (some ⟨3, 0, none⟩)), (7, .pointer (some ⟨6, 0, none⟩)), (63, .int .i64 y.i)])
    (B := fun y : Ag => [some ⟨[.string A, .string B], true, 1⟩, some ⟨[], true, 1⟩, some ⟨[.int .i64 3, .string D, .bool true, .int .i64 3, .int .i64 5, .int .i64 4, .int .i64 2, .slice (some ⟨0, 0, none⟩) 2 2, .string ⟨#[97, 98, 99, 100, 101]⟩, .int .u64 0, .slice (some ⟨1, 0, none⟩) 0 0], true, 1⟩, some ⟨[.int .i64 1, .int .i64 3, .string D, .int .i64 2, .int .i64 0, .int .u64 0, .string ⟨#[]⟩], true, 1⟩, some ⟨exL A B y.i, true, 1⟩, some ⟨exPk y.i, true, 1⟩, some ⟨exB D y.i, true, 1⟩])
    (R := fun y : Ag => y.i ≤ 2)
    (μ := fun y : Ag => 2 - y.i) ⟨0⟩ (fitsD [4, 5, 6, 7, 8, 9, 10]) (Nat.zero_le _) ?_
  rintro ⟨i⟩ g1
  match i, g1 with
  | 0, _ =>
    dsimp only [exL, exPk, exB]
    repeat' first | refine st ?_ | refine stRW [4, 5] Q1 ?_ | refine stMW [0, 1] R1 ?_ | refine sdNR (r' := .tuple #[.agg #[.int .i64 3, .string D, .bool true, .int .i64 3, .int .i64 5, .int .i64 4, .int .i64 2, .slice (some ⟨9, 0, none⟩) 2 2, .string ⟨#[]⟩, .int .u64 0, .slice (some ⟨10, 0, none⟩) 2 2], .bool false, .int .i64 0]) (N := [some ⟨[.string A, .string B], true, 1⟩, some ⟨[.string ⟨#[]⟩, .string ⟨#[]⟩], true, 1⟩]) [4, 5] 2 T1 ?_ | refine stm ?_ | refine Ja ?_ | refine run_nil ?_ | refine sd ?_ | refine sdl ?_ | refine sdb ?_ | refine rund_nil ?_ | refine Jz ?_ | refine Jw ?_ | refine Jx (id := 13) [0,0,0,4,12,30,62,127,255,511,511,511,1023,8191] 12 ?_ | refine aw_block ?_ | refine Jq ?_ | refine Jr ?_ | refine Jy ?_
    all_goals first | exact Exists.intro ⟨1⟩ ⟨fitsD [0, 1, 2, 3, 9, 10, 6], by decide, by decide⟩
  | 1, _ =>
    dsimp only [exL, exPk, exB]
    repeat' first | refine st ?_ | refine stRW [4, 5] Q2 ?_ | refine stMW [0, 1] R2 ?_ | refine sdNR (r' := .tuple #[.agg #[.int .i64 3, .string D, .bool true, .int .i64 3, .int .i64 5, .int .i64 4, .int .i64 2, .slice (some ⟨9, 0, none⟩) 2 2, .string ⟨#[]⟩, .int .u64 2, .slice (some ⟨10, 0, none⟩) 2 2], .bool false, .int .i64 0]) (N := [some ⟨[.string A, .string B], true, 1⟩, some ⟨[.string ⟨#[]⟩, .string ⟨#[99, 100]⟩], true, 1⟩]) [4, 5] 2 T2 ?_ | refine stm ?_ | refine Ja ?_ | refine run_nil ?_ | refine sd ?_ | refine sdl ?_ | refine sdb ?_ | refine rund_nil ?_ | refine Jz ?_ | refine Jw ?_ | refine Jx (id := 13) [0,0,0,4,12,30,62,127,255,511,511,511,1023,8191] 12 ?_ | refine aw_block ?_ | refine Jq ?_ | refine Jr ?_ | refine Jy ?_
    all_goals first | exact Exists.intro ⟨2⟩ ⟨fitsD [0, 1, 2, 3, 9, 10, 6], by decide, by decide⟩
  | 2, _ =>
    dsimp only [exL, exPk, exB]
    repeat' first | refine st ?_ | refine stRW [4, 5] Q3 ?_ | refine stMW [4, 5] T3 ?_ | refine stRW [8, 9] Q2 ?_ | refine stm ?_ | refine Ja ?_ | refine run_nil ?_ | refine Jz ?_ | refine Jw ?_ | refine Jr ?_ | refine aw_exit ?_ | refine aw_ret ?_ | refine pp_ret ?_
    all_goals first
      | rfl
      | (exfalso; omega)
      | (simp [retOf]; done)
      | (exfalso; simp_all; done)
theorem ac_awake : ACalls Tryz.prog 5 [] [] (.bool true) [] := by
  refine ac_ex rfl rfl (b_size _ _) (b_size _ _) rfl rfl (b_size _ _) ?_
  rw [b0, b2]
  exact b_ne
end Go.Proofs.YtjofcjogbopkjaaGreat
