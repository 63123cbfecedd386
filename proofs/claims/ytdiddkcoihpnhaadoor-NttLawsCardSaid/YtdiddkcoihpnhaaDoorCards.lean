/-
  DERIVED. GIVEN WITH THE SEED: THE CARDS: each row of YtdiddkcoihpnhaaDoorRows.lean that lists a variable, with what it lists TIED to the program's text (the seventh form; the later family's looks); each row that meets fmt, with fmt's text TOLD by the authors' own Lean function (tested against real Go, not proved from fmt's source: count such statements apart). THE CARD IS WHAT COUNTS. Prove the row's statement (the work); the ties are given (YtdiddkcoihpnhaaDoorTie.lean); close each card by the builder's one call (the guide's Derived/Test/ToyasCard.lean, 'card_holds'). Laid BY PROGRAM, IN A SANDBOX (cutbox-door.mjs). By AI agents, Wed Nov 11 2026. No macro, syntax, notation, axiom, sorry.
-/
import Derived.Test.YtdiddkcoihpnhaaDoorRows
import GoSem.ClaimSeven
namespace Go.Proofs.YtdiddkcoihpnhaaDoor
namespace Rows

/-- THE TIED CARD OF 'redanlaw10.ZqRests'. -/
def zqRestsCard : Claim7 := { stood := { row := zqRestsRow, standIns := [], harness := (true, "1f6e43d5c6dae1d4f27bafbb12724cf38b4e3e942705a41fc1e39c9b672c97d9"), looks := false }, kinds := [], alts := [], laidByText := true, laidKinds := [.data], laidTests := true, laidLooks := .later }
def ZqRestsCardSaid : Prop := Claim7.holds Tryd.pinned (.plain (OpenSpec.ofChange zqRestsSpec)) zqRestsCard

/-- THE TIED CARD OF 'redanlaw10.ZqPowers'. -/
def zqPowersCard : Claim7 := { stood := { row := zqPowersRow, standIns := [], harness := (true, "1f6e43d5c6dae1d4f27bafbb12724cf38b4e3e942705a41fc1e39c9b672c97d9"), looks := false }, kinds := [], alts := [], laidByText := true, laidKinds := [.data], laidTests := true, laidLooks := .later }
def ZqPowersCardSaid : Prop := Claim7.holds Tryd.pinned (.plain (OpenSpec.ofChange zqPowersSpec)) zqPowersCard

/-- THE TIED CARD OF 'redanlaw10.ZqBarrett'. -/
def zqBarrettCard : Claim7 := { stood := { row := zqBarrettRow, standIns := [], harness := (true, "1f6e43d5c6dae1d4f27bafbb12724cf38b4e3e942705a41fc1e39c9b672c97d9"), looks := false }, kinds := [], alts := [], laidByText := true, laidKinds := [.data], laidTests := true, laidLooks := .later }
def ZqBarrettCardSaid : Prop := Claim7.holds Tryd.pinned (.plain (OpenSpec.ofChange zqBarrettSpec)) zqBarrettCard

/-- THE TIED CARD OF 'redanlaw10.ZqMontgomery'. -/
def zqMontgomeryCard : Claim7 := { stood := { row := zqMontgomeryRow, standIns := [], harness := (true, "1f6e43d5c6dae1d4f27bafbb12724cf38b4e3e942705a41fc1e39c9b672c97d9"), looks := false }, kinds := [], alts := [], laidByText := true, laidKinds := [.data], laidTests := true, laidLooks := .later }
def ZqMontgomeryCardSaid : Prop := Claim7.holds Tryd.pinned (.plain (OpenSpec.ofChange zqMontgomerySpec)) zqMontgomeryCard

/-- THE TIED CARD OF 'redanlaw10.ZqCompresses'. -/
def zqCompressesCard : Claim7 := { stood := { row := zqCompressesRow, standIns := [], harness := (true, "1f6e43d5c6dae1d4f27bafbb12724cf38b4e3e942705a41fc1e39c9b672c97d9"), looks := false }, kinds := [], alts := [], laidByText := true, laidKinds := [.data], laidTests := true, laidLooks := .later }
def ZqCompressesCardSaid : Prop := Claim7.holds Tryd.pinned (.plain (OpenSpec.ofChange zqCompressesSpec)) zqCompressesCard

/-- THE TIED CARD OF 'redanlaw10.ZqSpreads'. -/
def zqSpreadsCard : Claim7 := { stood := { row := zqSpreadsRow, standIns := [], harness := (true, "1f6e43d5c6dae1d4f27bafbb12724cf38b4e3e942705a41fc1e39c9b672c97d9"), looks := false }, kinds := [], alts := [], laidByText := true, laidKinds := [.data], laidTests := true, laidLooks := .later }
def ZqSpreadsCardSaid : Prop := Claim7.holds Tryd.pinned (.plain (OpenSpec.ofChange zqSpreadsSpec)) zqSpreadsCard

/-- THE TIED CARD OF 'redanlaw10.ZqZetas'. -/
def zqZetasCard : Claim7 := { stood := { row := zqZetasRow, standIns := [], harness := (true, "1f6e43d5c6dae1d4f27bafbb12724cf38b4e3e942705a41fc1e39c9b672c97d9"), looks := false }, kinds := [], alts := [], laidByText := true, laidKinds := [.data], laidTests := true, laidLooks := .later }
def ZqZetasCardSaid : Prop := Claim7.holds Tryd.pinned (.plain (OpenSpec.ofChange zqZetasSpec)) zqZetasCard

/-- THE TIED CARD OF 'redanlaw10.ZqFields'. -/
def zqFieldsCard : Claim7 := { stood := { row := zqFieldsRow, standIns := [], harness := (true, "1f6e43d5c6dae1d4f27bafbb12724cf38b4e3e942705a41fc1e39c9b672c97d9"), looks := false }, kinds := [], alts := [], laidByText := true, laidKinds := [.data], laidTests := true, laidLooks := .later }
def ZqFieldsCardSaid : Prop := Claim7.holds Tryd.pinned (.plain (OpenSpec.ofChange zqFieldsSpec)) zqFieldsCard

/-- THE TIED CARD OF 'redanlaw11.NttSums'. -/
def nttSumsCard : Claim7 := { stood := { row := nttSumsRow, standIns := [], harness := (true, "1f6e43d5c6dae1d4f27bafbb12724cf38b4e3e942705a41fc1e39c9b672c97d9"), looks := false }, kinds := [], alts := [], laidByText := true, laidKinds := [.data], laidTests := true, laidLooks := .later }
def NttSumsCardSaid : Prop := Claim7.holds Tryd.pinned (.plain (OpenSpec.ofChange nttSumsSpec)) nttSumsCard

/-- THE TIED CARD OF 'redanlaw11.NttForward'. -/
def nttForwardCard : Claim7 := { stood := { row := nttForwardRow, standIns := [], harness := (true, "1f6e43d5c6dae1d4f27bafbb12724cf38b4e3e942705a41fc1e39c9b672c97d9"), looks := false }, kinds := [], alts := [], laidByText := true, laidKinds := [.data], laidTests := true, laidLooks := .later }
def NttForwardCardSaid : Prop := Claim7.holds Tryd.pinned (.plain (OpenSpec.ofChange nttForwardSpec)) nttForwardCard

/-- THE TIED CARD OF 'redanlaw11.NttInverse'. -/
def nttInverseCard : Claim7 := { stood := { row := nttInverseRow, standIns := [], harness := (true, "1f6e43d5c6dae1d4f27bafbb12724cf38b4e3e942705a41fc1e39c9b672c97d9"), looks := false }, kinds := [], alts := [], laidByText := true, laidKinds := [.data], laidTests := true, laidLooks := .later }
def NttInverseCardSaid : Prop := Claim7.holds Tryd.pinned (.plain (OpenSpec.ofChange nttInverseSpec)) nttInverseCard

/-- THE TIED CARD OF 'redanlaw11.NttTimes'. -/
def nttTimesCard : Claim7 := { stood := { row := nttTimesRow, standIns := [], harness := (true, "1f6e43d5c6dae1d4f27bafbb12724cf38b4e3e942705a41fc1e39c9b672c97d9"), looks := false }, kinds := [], alts := [], laidByText := true, laidKinds := [.data], laidTests := true, laidLooks := .later }
def NttTimesCardSaid : Prop := Claim7.holds Tryd.pinned (.plain (OpenSpec.ofChange nttTimesSpec)) nttTimesCard

/-- THE TIED CARD OF 'redanlaw11.NttProducts'. -/
def nttProductsCard : Claim7 := { stood := { row := nttProductsRow, standIns := [], harness := (true, "1f6e43d5c6dae1d4f27bafbb12724cf38b4e3e942705a41fc1e39c9b672c97d9"), looks := false }, kinds := [], alts := [], laidByText := true, laidKinds := [.data], laidTests := true, laidLooks := .later }
def NttProductsCardSaid : Prop := Claim7.holds Tryd.pinned (.plain (OpenSpec.ofChange nttProductsSpec)) nttProductsCard

/-- THE TIED CARD OF 'redanlaw11.NttLaws'. -/
def nttLawsCard : Claim7 := { stood := { row := nttLawsRow, standIns := [], harness := (true, "1f6e43d5c6dae1d4f27bafbb12724cf38b4e3e942705a41fc1e39c9b672c97d9"), looks := false }, kinds := [], alts := [], laidByText := true, laidKinds := [.data], laidTests := true, laidLooks := .later }
def NttLawsCardSaid : Prop := Claim7.holds Tryd.pinned (.plain (OpenSpec.ofChange nttLawsSpec)) nttLawsCard

/-- THE TIED CARD OF 'redanlaw11.NttPowers'. -/
def nttPowersCard : Claim7 := { stood := { row := nttPowersRow, standIns := [], harness := (true, "1f6e43d5c6dae1d4f27bafbb12724cf38b4e3e942705a41fc1e39c9b672c97d9"), looks := false }, kinds := [], alts := [], laidByText := true, laidKinds := [.data], laidTests := true, laidLooks := .later }
def NttPowersCardSaid : Prop := Claim7.holds Tryd.pinned (.plain (OpenSpec.ofChange nttPowersSpec)) nttPowersCard

/-- THE SECOND FORM's CARD OF 'redanlaw10.ZqRests'. -/
def zqRestsUptoCard : Claim7 := { stood := { row := zqRestsUptoRow, standIns := [], harness := (true, "1f6e43d5c6dae1d4f27bafbb12724cf38b4e3e942705a41fc1e39c9b672c97d9"), looks := false }, kinds := [], alts := [], laidByText := true, laidKinds := [.data], laidTests := true, laidLooks := .later }
def ZqRestsUptoCardSaid : Prop := Claim7.holds Tryd.pinned (.plain (OpenSpec.upto zqRestsSpec)) zqRestsUptoCard

/-- THE SECOND FORM's CARD OF 'redanlaw10.ZqPowers'. -/
def zqPowersUptoCard : Claim7 := { stood := { row := zqPowersUptoRow, standIns := [], harness := (true, "1f6e43d5c6dae1d4f27bafbb12724cf38b4e3e942705a41fc1e39c9b672c97d9"), looks := false }, kinds := [], alts := [], laidByText := true, laidKinds := [.data], laidTests := true, laidLooks := .later }
def ZqPowersUptoCardSaid : Prop := Claim7.holds Tryd.pinned (.plain (OpenSpec.upto zqPowersSpec)) zqPowersUptoCard

/-- THE SECOND FORM's CARD OF 'redanlaw10.ZqBarrett'. -/
def zqBarrettUptoCard : Claim7 := { stood := { row := zqBarrettUptoRow, standIns := [], harness := (true, "1f6e43d5c6dae1d4f27bafbb12724cf38b4e3e942705a41fc1e39c9b672c97d9"), looks := false }, kinds := [], alts := [], laidByText := true, laidKinds := [.data], laidTests := true, laidLooks := .later }
def ZqBarrettUptoCardSaid : Prop := Claim7.holds Tryd.pinned (.plain (OpenSpec.upto zqBarrettSpec)) zqBarrettUptoCard

/-- THE SECOND FORM's CARD OF 'redanlaw10.ZqMontgomery'. -/
def zqMontgomeryUptoCard : Claim7 := { stood := { row := zqMontgomeryUptoRow, standIns := [], harness := (true, "1f6e43d5c6dae1d4f27bafbb12724cf38b4e3e942705a41fc1e39c9b672c97d9"), looks := false }, kinds := [], alts := [], laidByText := true, laidKinds := [.data], laidTests := true, laidLooks := .later }
def ZqMontgomeryUptoCardSaid : Prop := Claim7.holds Tryd.pinned (.plain (OpenSpec.upto zqMontgomerySpec)) zqMontgomeryUptoCard

/-- THE SECOND FORM's CARD OF 'redanlaw10.ZqCompresses'. -/
def zqCompressesUptoCard : Claim7 := { stood := { row := zqCompressesUptoRow, standIns := [], harness := (true, "1f6e43d5c6dae1d4f27bafbb12724cf38b4e3e942705a41fc1e39c9b672c97d9"), looks := false }, kinds := [], alts := [], laidByText := true, laidKinds := [.data], laidTests := true, laidLooks := .later }
def ZqCompressesUptoCardSaid : Prop := Claim7.holds Tryd.pinned (.plain (OpenSpec.upto zqCompressesSpec)) zqCompressesUptoCard

/-- THE SECOND FORM's CARD OF 'redanlaw10.ZqSpreads'. -/
def zqSpreadsUptoCard : Claim7 := { stood := { row := zqSpreadsUptoRow, standIns := [], harness := (true, "1f6e43d5c6dae1d4f27bafbb12724cf38b4e3e942705a41fc1e39c9b672c97d9"), looks := false }, kinds := [], alts := [], laidByText := true, laidKinds := [.data], laidTests := true, laidLooks := .later }
def ZqSpreadsUptoCardSaid : Prop := Claim7.holds Tryd.pinned (.plain (OpenSpec.upto zqSpreadsSpec)) zqSpreadsUptoCard

/-- THE SECOND FORM's CARD OF 'redanlaw10.ZqZetas'. -/
def zqZetasUptoCard : Claim7 := { stood := { row := zqZetasUptoRow, standIns := [], harness := (true, "1f6e43d5c6dae1d4f27bafbb12724cf38b4e3e942705a41fc1e39c9b672c97d9"), looks := false }, kinds := [], alts := [], laidByText := true, laidKinds := [.data], laidTests := true, laidLooks := .later }
def ZqZetasUptoCardSaid : Prop := Claim7.holds Tryd.pinned (.plain (OpenSpec.upto zqZetasSpec)) zqZetasUptoCard

/-- THE SECOND FORM's CARD OF 'redanlaw10.ZqFields'. -/
def zqFieldsUptoCard : Claim7 := { stood := { row := zqFieldsUptoRow, standIns := [], harness := (true, "1f6e43d5c6dae1d4f27bafbb12724cf38b4e3e942705a41fc1e39c9b672c97d9"), looks := false }, kinds := [], alts := [], laidByText := true, laidKinds := [.data], laidTests := true, laidLooks := .later }
def ZqFieldsUptoCardSaid : Prop := Claim7.holds Tryd.pinned (.plain (OpenSpec.upto zqFieldsSpec)) zqFieldsUptoCard

/-- THE SECOND FORM's CARD OF 'redanlaw11.NttSums'. -/
def nttSumsUptoCard : Claim7 := { stood := { row := nttSumsUptoRow, standIns := [], harness := (true, "1f6e43d5c6dae1d4f27bafbb12724cf38b4e3e942705a41fc1e39c9b672c97d9"), looks := false }, kinds := [], alts := [], laidByText := true, laidKinds := [.data], laidTests := true, laidLooks := .later }
def NttSumsUptoCardSaid : Prop := Claim7.holds Tryd.pinned (.plain (OpenSpec.upto nttSumsSpec)) nttSumsUptoCard

/-- THE SECOND FORM's CARD OF 'redanlaw11.NttForward'. -/
def nttForwardUptoCard : Claim7 := { stood := { row := nttForwardUptoRow, standIns := [], harness := (true, "1f6e43d5c6dae1d4f27bafbb12724cf38b4e3e942705a41fc1e39c9b672c97d9"), looks := false }, kinds := [], alts := [], laidByText := true, laidKinds := [.data], laidTests := true, laidLooks := .later }
def NttForwardUptoCardSaid : Prop := Claim7.holds Tryd.pinned (.plain (OpenSpec.upto nttForwardSpec)) nttForwardUptoCard

/-- THE SECOND FORM's CARD OF 'redanlaw11.NttInverse'. -/
def nttInverseUptoCard : Claim7 := { stood := { row := nttInverseUptoRow, standIns := [], harness := (true, "1f6e43d5c6dae1d4f27bafbb12724cf38b4e3e942705a41fc1e39c9b672c97d9"), looks := false }, kinds := [], alts := [], laidByText := true, laidKinds := [.data], laidTests := true, laidLooks := .later }
def NttInverseUptoCardSaid : Prop := Claim7.holds Tryd.pinned (.plain (OpenSpec.upto nttInverseSpec)) nttInverseUptoCard

/-- THE SECOND FORM's CARD OF 'redanlaw11.NttTimes'. -/
def nttTimesUptoCard : Claim7 := { stood := { row := nttTimesUptoRow, standIns := [], harness := (true, "1f6e43d5c6dae1d4f27bafbb12724cf38b4e3e942705a41fc1e39c9b672c97d9"), looks := false }, kinds := [], alts := [], laidByText := true, laidKinds := [.data], laidTests := true, laidLooks := .later }
def NttTimesUptoCardSaid : Prop := Claim7.holds Tryd.pinned (.plain (OpenSpec.upto nttTimesSpec)) nttTimesUptoCard

/-- THE SECOND FORM's CARD OF 'redanlaw11.NttProducts'. -/
def nttProductsUptoCard : Claim7 := { stood := { row := nttProductsUptoRow, standIns := [], harness := (true, "1f6e43d5c6dae1d4f27bafbb12724cf38b4e3e942705a41fc1e39c9b672c97d9"), looks := false }, kinds := [], alts := [], laidByText := true, laidKinds := [.data], laidTests := true, laidLooks := .later }
def NttProductsUptoCardSaid : Prop := Claim7.holds Tryd.pinned (.plain (OpenSpec.upto nttProductsSpec)) nttProductsUptoCard

/-- THE SECOND FORM's CARD OF 'redanlaw11.NttLaws'. -/
def nttLawsUptoCard : Claim7 := { stood := { row := nttLawsUptoRow, standIns := [], harness := (true, "1f6e43d5c6dae1d4f27bafbb12724cf38b4e3e942705a41fc1e39c9b672c97d9"), looks := false }, kinds := [], alts := [], laidByText := true, laidKinds := [.data], laidTests := true, laidLooks := .later }
def NttLawsUptoCardSaid : Prop := Claim7.holds Tryd.pinned (.plain (OpenSpec.upto nttLawsSpec)) nttLawsUptoCard

/-- THE SECOND FORM's CARD OF 'redanlaw11.NttPowers'. -/
def nttPowersUptoCard : Claim7 := { stood := { row := nttPowersUptoRow, standIns := [], harness := (true, "1f6e43d5c6dae1d4f27bafbb12724cf38b4e3e942705a41fc1e39c9b672c97d9"), looks := false }, kinds := [], alts := [], laidByText := true, laidKinds := [.data], laidTests := true, laidLooks := .later }
def NttPowersUptoCardSaid : Prop := Claim7.holds Tryd.pinned (.plain (OpenSpec.upto nttPowersSpec)) nttPowersUptoCard
end Rows
end Go.Proofs.YtdiddkcoihpnhaaDoor
