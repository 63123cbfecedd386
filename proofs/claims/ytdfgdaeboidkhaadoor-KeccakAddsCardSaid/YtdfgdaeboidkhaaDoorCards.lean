/-
  DERIVED. GIVEN WITH THE SEED: THE CARDS: each row of YtdfgdaeboidkhaaDoorRows.lean that lists a variable, with what it lists TIED to the program's text (the seventh form; the later family's looks); each row that meets fmt, with fmt's text TOLD by the authors' own Lean function (tested against real Go, not proved from fmt's source: count such statements apart). THE CARD IS WHAT COUNTS. Prove the row's statement (the work); the ties are given (YtdfgdaeboidkhaaDoorTie.lean); close each card by the builder's one call (the guide's Derived/Test/ToyasCard.lean, 'card_holds'). Laid BY PROGRAM, IN A SANDBOX (cutbox-door.mjs). By AI agents, Wed Nov 11 2026. No macro, syntax, notation, axiom, sorry.
-/
import Derived.Test.YtdfgdaeboidkhaaDoorRows
import GoSem.ClaimSeven
namespace Go.Proofs.YtdfgdaeboidkhaaDoor
namespace Rows

/-- THE TIED CARD OF 'redanlaw02.KeccakTheta'. -/
def keccakThetaCard : Claim7 := { stood := { row := keccakThetaRow, standIns := [], harness := (true, "f3c47902f10fa8fc4457a3cbba8a4bc7722a53b146834253a3b0f0cb2d0fa435"), looks := false }, kinds := [], alts := [], laidByText := true, laidKinds := [.data, .data], laidTests := true, laidLooks := .later }
def KeccakThetaCardSaid : Prop := Claim7.holds Tryd.pinned (.plain (OpenSpec.ofChange keccakThetaSpec)) keccakThetaCard

/-- THE TIED CARD OF 'redanlaw02.KeccakRho'. -/
def keccakRhoCard : Claim7 := { stood := { row := keccakRhoRow, standIns := [], harness := (true, "f3c47902f10fa8fc4457a3cbba8a4bc7722a53b146834253a3b0f0cb2d0fa435"), looks := false }, kinds := [], alts := [], laidByText := true, laidKinds := [.data, .data], laidTests := true, laidLooks := .later }
def KeccakRhoCardSaid : Prop := Claim7.holds Tryd.pinned (.plain (OpenSpec.ofChange keccakRhoSpec)) keccakRhoCard

/-- THE TIED CARD OF 'redanlaw02.KeccakPi'. -/
def keccakPiCard : Claim7 := { stood := { row := keccakPiRow, standIns := [], harness := (true, "f3c47902f10fa8fc4457a3cbba8a4bc7722a53b146834253a3b0f0cb2d0fa435"), looks := false }, kinds := [], alts := [], laidByText := true, laidKinds := [.data, .data], laidTests := true, laidLooks := .later }
def KeccakPiCardSaid : Prop := Claim7.holds Tryd.pinned (.plain (OpenSpec.ofChange keccakPiSpec)) keccakPiCard

/-- THE TIED CARD OF 'redanlaw02.KeccakChi'. -/
def keccakChiCard : Claim7 := { stood := { row := keccakChiRow, standIns := [], harness := (true, "f3c47902f10fa8fc4457a3cbba8a4bc7722a53b146834253a3b0f0cb2d0fa435"), looks := false }, kinds := [], alts := [], laidByText := true, laidKinds := [.data, .data], laidTests := true, laidLooks := .later }
def KeccakChiCardSaid : Prop := Claim7.holds Tryd.pinned (.plain (OpenSpec.ofChange keccakChiSpec)) keccakChiCard

/-- THE TIED CARD OF 'redanlaw02.KeccakIota'. -/
def keccakIotaCard : Claim7 := { stood := { row := keccakIotaRow, standIns := [], harness := (true, "f3c47902f10fa8fc4457a3cbba8a4bc7722a53b146834253a3b0f0cb2d0fa435"), looks := false }, kinds := [], alts := [], laidByText := true, laidKinds := [.data, .data], laidTests := true, laidLooks := .later }
def KeccakIotaCardSaid : Prop := Claim7.holds Tryd.pinned (.plain (OpenSpec.ofChange keccakIotaSpec)) keccakIotaCard

/-- THE TIED CARD OF 'redanlaw02.KeccakRound'. -/
def keccakRoundCard : Claim7 := { stood := { row := keccakRoundRow, standIns := [], harness := (true, "f3c47902f10fa8fc4457a3cbba8a4bc7722a53b146834253a3b0f0cb2d0fa435"), looks := false }, kinds := [], alts := [], laidByText := true, laidKinds := [.data, .data], laidTests := true, laidLooks := .later }
def KeccakRoundCardSaid : Prop := Claim7.holds Tryd.pinned (.plain (OpenSpec.ofChange keccakRoundSpec)) keccakRoundCard

/-- THE TIED CARD OF 'redanlaw02.KeccakAll'. -/
def keccakAllCard : Claim7 := { stood := { row := keccakAllRow, standIns := [], harness := (true, "f3c47902f10fa8fc4457a3cbba8a4bc7722a53b146834253a3b0f0cb2d0fa435"), looks := false }, kinds := [], alts := [], laidByText := true, laidKinds := [.data, .data], laidTests := true, laidLooks := .later }
def KeccakAllCardSaid : Prop := Claim7.holds Tryd.pinned (.plain (OpenSpec.ofChange keccakAllSpec)) keccakAllCard

/-- THE TIED CARD OF 'redanlaw02.KeccakAdds'. -/
def keccakAddsCard : Claim7 := { stood := { row := keccakAddsRow, standIns := [], harness := (true, "f3c47902f10fa8fc4457a3cbba8a4bc7722a53b146834253a3b0f0cb2d0fa435"), looks := false }, kinds := [], alts := [], laidByText := true, laidKinds := [.data, .data], laidTests := true, laidLooks := .later }
def KeccakAddsCardSaid : Prop := Claim7.holds Tryd.pinned (.plain (OpenSpec.ofChange keccakAddsSpec)) keccakAddsCard

/-- THE TIED CARD OF 'redanlaw02.KeccakMany'. -/
def keccakManyCard : Claim7 := { stood := { row := keccakManyRow, standIns := [], harness := (true, "f3c47902f10fa8fc4457a3cbba8a4bc7722a53b146834253a3b0f0cb2d0fa435"), looks := false }, kinds := [], alts := [], laidByText := true, laidKinds := [.data, .data], laidTests := true, laidLooks := .later }
def KeccakManyCardSaid : Prop := Claim7.holds Tryd.pinned (.plain (OpenSpec.ofChange keccakManySpec)) keccakManyCard

/-- THE TIED CARD OF 'redanlaw02.KeccakOnes'. -/
def keccakOnesCard : Claim7 := { stood := { row := keccakOnesRow, standIns := [], harness := (true, "f3c47902f10fa8fc4457a3cbba8a4bc7722a53b146834253a3b0f0cb2d0fa435"), looks := false }, kinds := [], alts := [], laidByText := true, laidKinds := [.data, .data], laidTests := true, laidLooks := .later }
def KeccakOnesCardSaid : Prop := Claim7.holds Tryd.pinned (.plain (OpenSpec.ofChange keccakOnesSpec)) keccakOnesCard

/-- THE SECOND FORM's CARD OF 'redanlaw02.KeccakTheta'. -/
def keccakThetaUptoCard : Claim7 := { stood := { row := keccakThetaUptoRow, standIns := [], harness := (true, "f3c47902f10fa8fc4457a3cbba8a4bc7722a53b146834253a3b0f0cb2d0fa435"), looks := false }, kinds := [], alts := [], laidByText := true, laidKinds := [.data, .data], laidTests := true, laidLooks := .later }
def KeccakThetaUptoCardSaid : Prop := Claim7.holds Tryd.pinned (.plain (OpenSpec.upto keccakThetaSpec)) keccakThetaUptoCard

/-- THE SECOND FORM's CARD OF 'redanlaw02.KeccakRho'. -/
def keccakRhoUptoCard : Claim7 := { stood := { row := keccakRhoUptoRow, standIns := [], harness := (true, "f3c47902f10fa8fc4457a3cbba8a4bc7722a53b146834253a3b0f0cb2d0fa435"), looks := false }, kinds := [], alts := [], laidByText := true, laidKinds := [.data, .data], laidTests := true, laidLooks := .later }
def KeccakRhoUptoCardSaid : Prop := Claim7.holds Tryd.pinned (.plain (OpenSpec.upto keccakRhoSpec)) keccakRhoUptoCard

/-- THE SECOND FORM's CARD OF 'redanlaw02.KeccakPi'. -/
def keccakPiUptoCard : Claim7 := { stood := { row := keccakPiUptoRow, standIns := [], harness := (true, "f3c47902f10fa8fc4457a3cbba8a4bc7722a53b146834253a3b0f0cb2d0fa435"), looks := false }, kinds := [], alts := [], laidByText := true, laidKinds := [.data, .data], laidTests := true, laidLooks := .later }
def KeccakPiUptoCardSaid : Prop := Claim7.holds Tryd.pinned (.plain (OpenSpec.upto keccakPiSpec)) keccakPiUptoCard

/-- THE SECOND FORM's CARD OF 'redanlaw02.KeccakChi'. -/
def keccakChiUptoCard : Claim7 := { stood := { row := keccakChiUptoRow, standIns := [], harness := (true, "f3c47902f10fa8fc4457a3cbba8a4bc7722a53b146834253a3b0f0cb2d0fa435"), looks := false }, kinds := [], alts := [], laidByText := true, laidKinds := [.data, .data], laidTests := true, laidLooks := .later }
def KeccakChiUptoCardSaid : Prop := Claim7.holds Tryd.pinned (.plain (OpenSpec.upto keccakChiSpec)) keccakChiUptoCard

/-- THE SECOND FORM's CARD OF 'redanlaw02.KeccakIota'. -/
def keccakIotaUptoCard : Claim7 := { stood := { row := keccakIotaUptoRow, standIns := [], harness := (true, "f3c47902f10fa8fc4457a3cbba8a4bc7722a53b146834253a3b0f0cb2d0fa435"), looks := false }, kinds := [], alts := [], laidByText := true, laidKinds := [.data, .data], laidTests := true, laidLooks := .later }
def KeccakIotaUptoCardSaid : Prop := Claim7.holds Tryd.pinned (.plain (OpenSpec.upto keccakIotaSpec)) keccakIotaUptoCard

/-- THE SECOND FORM's CARD OF 'redanlaw02.KeccakRound'. -/
def keccakRoundUptoCard : Claim7 := { stood := { row := keccakRoundUptoRow, standIns := [], harness := (true, "f3c47902f10fa8fc4457a3cbba8a4bc7722a53b146834253a3b0f0cb2d0fa435"), looks := false }, kinds := [], alts := [], laidByText := true, laidKinds := [.data, .data], laidTests := true, laidLooks := .later }
def KeccakRoundUptoCardSaid : Prop := Claim7.holds Tryd.pinned (.plain (OpenSpec.upto keccakRoundSpec)) keccakRoundUptoCard

/-- THE SECOND FORM's CARD OF 'redanlaw02.KeccakAll'. -/
def keccakAllUptoCard : Claim7 := { stood := { row := keccakAllUptoRow, standIns := [], harness := (true, "f3c47902f10fa8fc4457a3cbba8a4bc7722a53b146834253a3b0f0cb2d0fa435"), looks := false }, kinds := [], alts := [], laidByText := true, laidKinds := [.data, .data], laidTests := true, laidLooks := .later }
def KeccakAllUptoCardSaid : Prop := Claim7.holds Tryd.pinned (.plain (OpenSpec.upto keccakAllSpec)) keccakAllUptoCard

/-- THE SECOND FORM's CARD OF 'redanlaw02.KeccakAdds'. -/
def keccakAddsUptoCard : Claim7 := { stood := { row := keccakAddsUptoRow, standIns := [], harness := (true, "f3c47902f10fa8fc4457a3cbba8a4bc7722a53b146834253a3b0f0cb2d0fa435"), looks := false }, kinds := [], alts := [], laidByText := true, laidKinds := [.data, .data], laidTests := true, laidLooks := .later }
def KeccakAddsUptoCardSaid : Prop := Claim7.holds Tryd.pinned (.plain (OpenSpec.upto keccakAddsSpec)) keccakAddsUptoCard

/-- THE SECOND FORM's CARD OF 'redanlaw02.KeccakMany'. -/
def keccakManyUptoCard : Claim7 := { stood := { row := keccakManyUptoRow, standIns := [], harness := (true, "f3c47902f10fa8fc4457a3cbba8a4bc7722a53b146834253a3b0f0cb2d0fa435"), looks := false }, kinds := [], alts := [], laidByText := true, laidKinds := [.data, .data], laidTests := true, laidLooks := .later }
def KeccakManyUptoCardSaid : Prop := Claim7.holds Tryd.pinned (.plain (OpenSpec.upto keccakManySpec)) keccakManyUptoCard

/-- THE SECOND FORM's CARD OF 'redanlaw02.KeccakOnes'. -/
def keccakOnesUptoCard : Claim7 := { stood := { row := keccakOnesUptoRow, standIns := [], harness := (true, "f3c47902f10fa8fc4457a3cbba8a4bc7722a53b146834253a3b0f0cb2d0fa435"), looks := false }, kinds := [], alts := [], laidByText := true, laidKinds := [.data, .data], laidTests := true, laidLooks := .later }
def KeccakOnesUptoCardSaid : Prop := Claim7.holds Tryd.pinned (.plain (OpenSpec.upto keccakOnesSpec)) keccakOnesUptoCard
end Rows
end Go.Proofs.YtdfgdaeboidkhaaDoor
