/-
  DERIVED. GIVEN WITH THE SEED: THE CARDS: each row of YtdbcbclapipgdaaGreatDoorRows.lean that lists a variable, with what it lists TIED to the program's text (the seventh form; the later family's looks); each row that meets fmt, with fmt's text TOLD by the authors' own Lean function (tested against real Go, not proved from fmt's source: count such statements apart). THE CARD IS WHAT COUNTS. Prove the row's statement (the work); the ties are given (YtdbcbclapipgdaaGreatDoorTie.lean); close each card by the builder's one call (the guide's Derived/Test/ToyasCard.lean, 'card_holds'). Laid BY PROGRAM, IN A SANDBOX (cutbox-door.mjs). By AI agents, Wed Nov 11 2026. No macro, syntax, notation, axiom, sorry.
-/
import Derived.Test.YtdbcbclapipgdaaGreatDoorRows
import GoSem.ClaimSeven
namespace Go.Proofs.YtdbcbclapipgdaaGreatDoor
namespace Rows

/-- THE TIED CARD OF 'hopmeshlaw21.JoinAsks'. -/
def joinAsksCard : Claim7 := { stood := { row := joinAsksRow, standIns := [], harness := (true, "d1de2d02e1ad24801647f3a0bf7c95c2844b1323bc27b5c339d6978f92465f0a"), looks := false }, kinds := [], alts := [], laidByText := true, laidKinds := [.data, .data, .data], laidTests := true, laidLooks := .later }
def JoinAsksCardSaid : Prop := Claim7.holds Tryz.pinned (.plain (OpenSpec.ofChange joinAsksSpec)) joinAsksCard

/-- THE TIED CARD OF 'hopmeshlaw21.JoinAdmits'. -/
def joinAdmitsCard : Claim7 := { stood := { row := joinAdmitsRow, standIns := [], harness := (true, "d1de2d02e1ad24801647f3a0bf7c95c2844b1323bc27b5c339d6978f92465f0a"), looks := false }, kinds := [], alts := [], laidByText := true, laidKinds := [.data, .data, .data], laidTests := true, laidLooks := .later }
def JoinAdmitsCardSaid : Prop := Claim7.holds Tryz.pinned (.plain (OpenSpec.ofChange joinAdmitsSpec)) joinAdmitsCard

/-- THE TIED CARD OF 'hopmeshlaw21.JoinNumbers'. -/
def joinNumbersCard : Claim7 := { stood := { row := joinNumbersRow, standIns := [], harness := (true, "d1de2d02e1ad24801647f3a0bf7c95c2844b1323bc27b5c339d6978f92465f0a"), looks := false }, kinds := [], alts := [], laidByText := true, laidKinds := [.data, .data, .data], laidTests := true, laidLooks := .later }
def JoinNumbersCardSaid : Prop := Claim7.holds Tryz.pinned (.plain (OpenSpec.ofChange joinNumbersSpec)) joinNumbersCard

/-- THE TIED CARD OF 'hopmeshlaw21.JoinProves'. -/
def joinProvesCard : Claim7 := { stood := { row := joinProvesRow, standIns := [], harness := (true, "d1de2d02e1ad24801647f3a0bf7c95c2844b1323bc27b5c339d6978f92465f0a"), looks := false }, kinds := [], alts := [], laidByText := true, laidKinds := [.data, .data, .data], laidTests := true, laidLooks := .later }
def JoinProvesCardSaid : Prop := Claim7.holds Tryz.pinned (.plain (OpenSpec.ofChange joinProvesSpec)) joinProvesCard

/-- THE TIED CARD OF 'hopmeshlaw21.JoinJoiners'. -/
def joinJoinersCard : Claim7 := { stood := { row := joinJoinersRow, standIns := [], harness := (true, "d1de2d02e1ad24801647f3a0bf7c95c2844b1323bc27b5c339d6978f92465f0a"), looks := false }, kinds := [], alts := [], laidByText := true, laidKinds := [.data, .data, .data], laidTests := true, laidLooks := .later }
def JoinJoinersCardSaid : Prop := Claim7.holds Tryz.pinned (.plain (OpenSpec.ofChange joinJoinersSpec)) joinJoinersCard

/-- THE TIED CARD OF 'hopmeshlaw21.JoinPlays'. -/
def joinPlaysCard : Claim7 := { stood := { row := joinPlaysRow, standIns := [], harness := (true, "d1de2d02e1ad24801647f3a0bf7c95c2844b1323bc27b5c339d6978f92465f0a"), looks := false }, kinds := [], alts := [], laidByText := true, laidKinds := [.data, .data, .data], laidTests := true, laidLooks := .later }
def JoinPlaysCardSaid : Prop := Claim7.holds Tryz.pinned (.plain (OpenSpec.ofChange joinPlaysSpec)) joinPlaysCard

/-- THE TIED CARD OF 'hopmeshlaw21.JoinBytes'. -/
def joinBytesCard : Claim7 := { stood := { row := joinBytesRow, standIns := [], harness := (true, "d1de2d02e1ad24801647f3a0bf7c95c2844b1323bc27b5c339d6978f92465f0a"), looks := false }, kinds := [], alts := [], laidByText := true, laidKinds := [.data, .data, .data], laidTests := true, laidLooks := .later }
def JoinBytesCardSaid : Prop := Claim7.holds Tryz.pinned (.plain (OpenSpec.ofChange joinBytesSpec)) joinBytesCard

/-- THE TIED CARD OF 'hopmeshlaw21.JoinBack'. -/
def joinBackCard : Claim7 := { stood := { row := joinBackRow, standIns := [], harness := (true, "d1de2d02e1ad24801647f3a0bf7c95c2844b1323bc27b5c339d6978f92465f0a"), looks := false }, kinds := [], alts := [], laidByText := true, laidKinds := [.data, .data, .data], laidTests := true, laidLooks := .later }
def JoinBackCardSaid : Prop := Claim7.holds Tryz.pinned (.plain (OpenSpec.ofChange joinBackSpec)) joinBackCard

/-- THE TIED CARD OF 'hopmeshtop.TopJoins'. -/
def topJoinsCard : Claim7 := { stood := { row := topJoinsRow, standIns := [], harness := (true, "d1de2d02e1ad24801647f3a0bf7c95c2844b1323bc27b5c339d6978f92465f0a"), looks := false }, kinds := [], alts := [], laidByText := true, laidKinds := [.data, .data, .data], laidTests := true, laidLooks := .later }
def TopJoinsCardSaid : Prop := Claim7.holds Tryz.pinned (.plain (OpenSpec.ofChange topJoinsSpec)) topJoinsCard

/-- THE SECOND FORM's CARD OF 'hopmeshlaw21.JoinAsks'. -/
def joinAsksUptoCard : Claim7 := { stood := { row := joinAsksUptoRow, standIns := [], harness := (true, "d1de2d02e1ad24801647f3a0bf7c95c2844b1323bc27b5c339d6978f92465f0a"), looks := false }, kinds := [], alts := [], laidByText := true, laidKinds := [.data, .data, .data], laidTests := true, laidLooks := .later }
def JoinAsksUptoCardSaid : Prop := Claim7.holds Tryz.pinned (.plain (OpenSpec.upto joinAsksSpec)) joinAsksUptoCard

/-- THE SECOND FORM's CARD OF 'hopmeshlaw21.JoinAdmits'. -/
def joinAdmitsUptoCard : Claim7 := { stood := { row := joinAdmitsUptoRow, standIns := [], harness := (true, "d1de2d02e1ad24801647f3a0bf7c95c2844b1323bc27b5c339d6978f92465f0a"), looks := false }, kinds := [], alts := [], laidByText := true, laidKinds := [.data, .data, .data], laidTests := true, laidLooks := .later }
def JoinAdmitsUptoCardSaid : Prop := Claim7.holds Tryz.pinned (.plain (OpenSpec.upto joinAdmitsSpec)) joinAdmitsUptoCard

/-- THE SECOND FORM's CARD OF 'hopmeshlaw21.JoinNumbers'. -/
def joinNumbersUptoCard : Claim7 := { stood := { row := joinNumbersUptoRow, standIns := [], harness := (true, "d1de2d02e1ad24801647f3a0bf7c95c2844b1323bc27b5c339d6978f92465f0a"), looks := false }, kinds := [], alts := [], laidByText := true, laidKinds := [.data, .data, .data], laidTests := true, laidLooks := .later }
def JoinNumbersUptoCardSaid : Prop := Claim7.holds Tryz.pinned (.plain (OpenSpec.upto joinNumbersSpec)) joinNumbersUptoCard

/-- THE SECOND FORM's CARD OF 'hopmeshlaw21.JoinProves'. -/
def joinProvesUptoCard : Claim7 := { stood := { row := joinProvesUptoRow, standIns := [], harness := (true, "d1de2d02e1ad24801647f3a0bf7c95c2844b1323bc27b5c339d6978f92465f0a"), looks := false }, kinds := [], alts := [], laidByText := true, laidKinds := [.data, .data, .data], laidTests := true, laidLooks := .later }
def JoinProvesUptoCardSaid : Prop := Claim7.holds Tryz.pinned (.plain (OpenSpec.upto joinProvesSpec)) joinProvesUptoCard

/-- THE SECOND FORM's CARD OF 'hopmeshlaw21.JoinJoiners'. -/
def joinJoinersUptoCard : Claim7 := { stood := { row := joinJoinersUptoRow, standIns := [], harness := (true, "d1de2d02e1ad24801647f3a0bf7c95c2844b1323bc27b5c339d6978f92465f0a"), looks := false }, kinds := [], alts := [], laidByText := true, laidKinds := [.data, .data, .data], laidTests := true, laidLooks := .later }
def JoinJoinersUptoCardSaid : Prop := Claim7.holds Tryz.pinned (.plain (OpenSpec.upto joinJoinersSpec)) joinJoinersUptoCard

/-- THE SECOND FORM's CARD OF 'hopmeshlaw21.JoinPlays'. -/
def joinPlaysUptoCard : Claim7 := { stood := { row := joinPlaysUptoRow, standIns := [], harness := (true, "d1de2d02e1ad24801647f3a0bf7c95c2844b1323bc27b5c339d6978f92465f0a"), looks := false }, kinds := [], alts := [], laidByText := true, laidKinds := [.data, .data, .data], laidTests := true, laidLooks := .later }
def JoinPlaysUptoCardSaid : Prop := Claim7.holds Tryz.pinned (.plain (OpenSpec.upto joinPlaysSpec)) joinPlaysUptoCard

/-- THE SECOND FORM's CARD OF 'hopmeshlaw21.JoinBytes'. -/
def joinBytesUptoCard : Claim7 := { stood := { row := joinBytesUptoRow, standIns := [], harness := (true, "d1de2d02e1ad24801647f3a0bf7c95c2844b1323bc27b5c339d6978f92465f0a"), looks := false }, kinds := [], alts := [], laidByText := true, laidKinds := [.data, .data, .data], laidTests := true, laidLooks := .later }
def JoinBytesUptoCardSaid : Prop := Claim7.holds Tryz.pinned (.plain (OpenSpec.upto joinBytesSpec)) joinBytesUptoCard

/-- THE SECOND FORM's CARD OF 'hopmeshlaw21.JoinBack'. -/
def joinBackUptoCard : Claim7 := { stood := { row := joinBackUptoRow, standIns := [], harness := (true, "d1de2d02e1ad24801647f3a0bf7c95c2844b1323bc27b5c339d6978f92465f0a"), looks := false }, kinds := [], alts := [], laidByText := true, laidKinds := [.data, .data, .data], laidTests := true, laidLooks := .later }
def JoinBackUptoCardSaid : Prop := Claim7.holds Tryz.pinned (.plain (OpenSpec.upto joinBackSpec)) joinBackUptoCard

/-- THE SECOND FORM's CARD OF 'hopmeshtop.TopJoins'. -/
def topJoinsUptoCard : Claim7 := { stood := { row := topJoinsUptoRow, standIns := [], harness := (true, "d1de2d02e1ad24801647f3a0bf7c95c2844b1323bc27b5c339d6978f92465f0a"), looks := false }, kinds := [], alts := [], laidByText := true, laidKinds := [.data, .data, .data], laidTests := true, laidLooks := .later }
def TopJoinsUptoCardSaid : Prop := Claim7.holds Tryz.pinned (.plain (OpenSpec.upto topJoinsSpec)) topJoinsUptoCard
end Rows
end Go.Proofs.YtdbcbclapipgdaaGreatDoor
