/-
  DERIVED. GIVEN WITH THE SEED: THE CARDS: each row of YtcfapbmjaiipjaaDoorRows.lean that lists a variable, with what it lists TIED to the program's text (the seventh form; the later family's looks); each row that meets fmt, with fmt's text TOLD by the authors' own Lean function (tested against real Go, not proved from fmt's source: count such statements apart). THE CARD IS WHAT COUNTS. Prove the row's statement (the work); the ties are given (YtcfapbmjaiipjaaDoorTie.lean); close each card by the builder's one call (the guide's Derived/Test/ToyasCard.lean, 'card_holds'). Laid BY PROGRAM, IN A SANDBOX (cutbox-door.mjs). By AI agents, Wed Nov 11 2026. No macro, syntax, notation, axiom, sorry.
-/
import Derived.Test.YtcfapbmjaiipjaaDoorRows
import GoSem.ClaimSeven
namespace Go.Proofs.YtcfapbmjaiipjaaDoor
namespace Rows

/-- THE TIED CARD OF 'seedcornlaw13.TokenStands'. -/
def tokenStandsCard : Claim7 := { stood := { row := tokenStandsRow, standIns := [], harness := (true, "07235ecd3b6fee7280ca8ca4239fac7187309f9dd4e82a001015b24d0f4e8c57"), looks := false }, kinds := [], alts := [], laidByText := true, laidKinds := [.data, .data], laidTests := true, laidLooks := .later }
def TokenStandsCardSaid : Prop := Claim7.holds Tryd.pinned (.plain (OpenSpec.ofChange tokenStandsSpec)) tokenStandsCard

/-- THE TIED CARD OF 'seedcornlaw13.TokenBack'. -/
def tokenBackCard : Claim7 := { stood := { row := tokenBackRow, standIns := [], harness := (true, "07235ecd3b6fee7280ca8ca4239fac7187309f9dd4e82a001015b24d0f4e8c57"), looks := false }, kinds := [], alts := [], laidByText := true, laidKinds := [.data, .data], laidTests := true, laidLooks := .later }
def TokenBackCardSaid : Prop := Claim7.holds Tryd.pinned (.plain (OpenSpec.ofChange tokenBackSpec)) tokenBackCard

/-- THE TIED CARD OF 'seedcornlaw13.TokenCuts'. -/
def tokenCutsCard : Claim7 := { stood := { row := tokenCutsRow, standIns := [], harness := (true, "07235ecd3b6fee7280ca8ca4239fac7187309f9dd4e82a001015b24d0f4e8c57"), looks := false }, kinds := [], alts := [], laidByText := true, laidKinds := [.data, .data], laidTests := true, laidLooks := .later }
def TokenCutsCardSaid : Prop := Claim7.holds Tryd.pinned (.plain (OpenSpec.ofChange tokenCutsSpec)) tokenCutsCard

/-- THE TIED CARD OF 'seedcornlaw13.TokenJoins'. -/
def tokenJoinsCard : Claim7 := { stood := { row := tokenJoinsRow, standIns := [], harness := (true, "07235ecd3b6fee7280ca8ca4239fac7187309f9dd4e82a001015b24d0f4e8c57"), looks := false }, kinds := [], alts := [], laidByText := true, laidKinds := [.data, .data], laidTests := true, laidLooks := .later }
def TokenJoinsCardSaid : Prop := Claim7.holds Tryd.pinned (.plain (OpenSpec.ofChange tokenJoinsSpec)) tokenJoinsCard

/-- THE TIED CARD OF 'seedcornlaw13.TokenLongest'. -/
def tokenLongestCard : Claim7 := { stood := { row := tokenLongestRow, standIns := [], harness := (true, "07235ecd3b6fee7280ca8ca4239fac7187309f9dd4e82a001015b24d0f4e8c57"), looks := false }, kinds := [], alts := [], laidByText := true, laidKinds := [.data, .data], laidTests := true, laidLooks := .later }
def TokenLongestCardSaid : Prop := Claim7.holds Tryd.pinned (.plain (OpenSpec.ofChange tokenLongestSpec)) tokenLongestCard

/-- THE TIED CARD OF 'seedcornlaw13.TokenFirst'. -/
def tokenFirstCard : Claim7 := { stood := { row := tokenFirstRow, standIns := [], harness := (true, "07235ecd3b6fee7280ca8ca4239fac7187309f9dd4e82a001015b24d0f4e8c57"), looks := false }, kinds := [], alts := [], laidByText := true, laidKinds := [.data, .data], laidTests := true, laidLooks := .later }
def TokenFirstCardSaid : Prop := Claim7.holds Tryd.pinned (.plain (OpenSpec.ofChange tokenFirstSpec)) tokenFirstCard

/-- THE TIED CARD OF 'seedcornlaw13.TokenNames'. -/
def tokenNamesCard : Claim7 := { stood := { row := tokenNamesRow, standIns := [], harness := (true, "07235ecd3b6fee7280ca8ca4239fac7187309f9dd4e82a001015b24d0f4e8c57"), looks := false }, kinds := [], alts := [], laidByText := true, laidKinds := [.data, .data], laidTests := true, laidLooks := .later }
def TokenNamesCardSaid : Prop := Claim7.holds Tryd.pinned (.plain (OpenSpec.ofChange tokenNamesSpec)) tokenNamesCard

/-- THE TIED CARD OF 'seedcornlaw13.TokenLexes'. -/
def tokenLexesCard : Claim7 := { stood := { row := tokenLexesRow, standIns := [], harness := (true, "07235ecd3b6fee7280ca8ca4239fac7187309f9dd4e82a001015b24d0f4e8c57"), looks := false }, kinds := [], alts := [], laidByText := true, laidKinds := [.data, .data], laidTests := true, laidLooks := .later }
def TokenLexesCardSaid : Prop := Claim7.holds Tryd.pinned (.plain (OpenSpec.ofChange tokenLexesSpec)) tokenLexesCard

/-- THE SECOND FORM's CARD OF 'seedcornlaw13.TokenStands'. -/
def tokenStandsUptoCard : Claim7 := { stood := { row := tokenStandsUptoRow, standIns := [], harness := (true, "07235ecd3b6fee7280ca8ca4239fac7187309f9dd4e82a001015b24d0f4e8c57"), looks := false }, kinds := [], alts := [], laidByText := true, laidKinds := [.data, .data], laidTests := true, laidLooks := .later }
def TokenStandsUptoCardSaid : Prop := Claim7.holds Tryd.pinned (.plain (OpenSpec.upto tokenStandsSpec)) tokenStandsUptoCard

/-- THE SECOND FORM's CARD OF 'seedcornlaw13.TokenBack'. -/
def tokenBackUptoCard : Claim7 := { stood := { row := tokenBackUptoRow, standIns := [], harness := (true, "07235ecd3b6fee7280ca8ca4239fac7187309f9dd4e82a001015b24d0f4e8c57"), looks := false }, kinds := [], alts := [], laidByText := true, laidKinds := [.data, .data], laidTests := true, laidLooks := .later }
def TokenBackUptoCardSaid : Prop := Claim7.holds Tryd.pinned (.plain (OpenSpec.upto tokenBackSpec)) tokenBackUptoCard

/-- THE SECOND FORM's CARD OF 'seedcornlaw13.TokenCuts'. -/
def tokenCutsUptoCard : Claim7 := { stood := { row := tokenCutsUptoRow, standIns := [], harness := (true, "07235ecd3b6fee7280ca8ca4239fac7187309f9dd4e82a001015b24d0f4e8c57"), looks := false }, kinds := [], alts := [], laidByText := true, laidKinds := [.data, .data], laidTests := true, laidLooks := .later }
def TokenCutsUptoCardSaid : Prop := Claim7.holds Tryd.pinned (.plain (OpenSpec.upto tokenCutsSpec)) tokenCutsUptoCard

/-- THE SECOND FORM's CARD OF 'seedcornlaw13.TokenJoins'. -/
def tokenJoinsUptoCard : Claim7 := { stood := { row := tokenJoinsUptoRow, standIns := [], harness := (true, "07235ecd3b6fee7280ca8ca4239fac7187309f9dd4e82a001015b24d0f4e8c57"), looks := false }, kinds := [], alts := [], laidByText := true, laidKinds := [.data, .data], laidTests := true, laidLooks := .later }
def TokenJoinsUptoCardSaid : Prop := Claim7.holds Tryd.pinned (.plain (OpenSpec.upto tokenJoinsSpec)) tokenJoinsUptoCard

/-- THE SECOND FORM's CARD OF 'seedcornlaw13.TokenLongest'. -/
def tokenLongestUptoCard : Claim7 := { stood := { row := tokenLongestUptoRow, standIns := [], harness := (true, "07235ecd3b6fee7280ca8ca4239fac7187309f9dd4e82a001015b24d0f4e8c57"), looks := false }, kinds := [], alts := [], laidByText := true, laidKinds := [.data, .data], laidTests := true, laidLooks := .later }
def TokenLongestUptoCardSaid : Prop := Claim7.holds Tryd.pinned (.plain (OpenSpec.upto tokenLongestSpec)) tokenLongestUptoCard

/-- THE SECOND FORM's CARD OF 'seedcornlaw13.TokenFirst'. -/
def tokenFirstUptoCard : Claim7 := { stood := { row := tokenFirstUptoRow, standIns := [], harness := (true, "07235ecd3b6fee7280ca8ca4239fac7187309f9dd4e82a001015b24d0f4e8c57"), looks := false }, kinds := [], alts := [], laidByText := true, laidKinds := [.data, .data], laidTests := true, laidLooks := .later }
def TokenFirstUptoCardSaid : Prop := Claim7.holds Tryd.pinned (.plain (OpenSpec.upto tokenFirstSpec)) tokenFirstUptoCard

/-- THE SECOND FORM's CARD OF 'seedcornlaw13.TokenNames'. -/
def tokenNamesUptoCard : Claim7 := { stood := { row := tokenNamesUptoRow, standIns := [], harness := (true, "07235ecd3b6fee7280ca8ca4239fac7187309f9dd4e82a001015b24d0f4e8c57"), looks := false }, kinds := [], alts := [], laidByText := true, laidKinds := [.data, .data], laidTests := true, laidLooks := .later }
def TokenNamesUptoCardSaid : Prop := Claim7.holds Tryd.pinned (.plain (OpenSpec.upto tokenNamesSpec)) tokenNamesUptoCard

/-- THE SECOND FORM's CARD OF 'seedcornlaw13.TokenLexes'. -/
def tokenLexesUptoCard : Claim7 := { stood := { row := tokenLexesUptoRow, standIns := [], harness := (true, "07235ecd3b6fee7280ca8ca4239fac7187309f9dd4e82a001015b24d0f4e8c57"), looks := false }, kinds := [], alts := [], laidByText := true, laidKinds := [.data, .data], laidTests := true, laidLooks := .later }
def TokenLexesUptoCardSaid : Prop := Claim7.holds Tryd.pinned (.plain (OpenSpec.upto tokenLexesSpec)) tokenLexesUptoCard
end Rows
end Go.Proofs.YtcfapbmjaiipjaaDoor
