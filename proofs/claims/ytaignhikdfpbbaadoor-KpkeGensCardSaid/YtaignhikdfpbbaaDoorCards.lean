/-
  DERIVED. GIVEN WITH THE SEED: THE CARDS: each row of YtaignhikdfpbbaaDoorRows.lean that lists a variable, with what it lists TIED to the program's text (the seventh form; the later family's looks); each row that meets fmt, with fmt's text TOLD by the authors' own Lean function (tested against real Go, not proved from fmt's source: count such statements apart). THE CARD IS WHAT COUNTS. Prove the row's statement (the work); the ties are given (YtaignhikdfpbbaaDoorTie.lean); close each card by the builder's one call (the guide's Derived/Test/ToyasCard.lean, 'card_holds'). Laid BY PROGRAM, IN A SANDBOX (cutbox-door.mjs). By AI agents, Wed Nov 11 2026. No macro, syntax, notation, axiom, sorry.
-/
import Derived.Test.YtaignhikdfpbbaaDoorRows
import GoSem.ClaimSeven
namespace Go.Proofs.YtaignhikdfpbbaaDoor
namespace Rows

/-- THE TIED CARD OF 'redanlaw12.SampleUniform'. -/
def sampleUniformCard : Claim7 := { stood := { row := sampleUniformRow, standIns := [], harness := (true, "5a3a96ac1309f191992a858bae0426d1c45f6cc0fbc868b35b48fc73b8b6d176"), looks := false }, kinds := [], alts := [], laidByText := true, laidKinds := [.data, .data], laidTests := true, laidLooks := .later }
def SampleUniformCardSaid : Prop := Claim7.holds Tryd.pinned (.plain (OpenSpec.ofChange sampleUniformSpec)) sampleUniformCard

/-- THE TIED CARD OF 'redanlaw12.SampleNoise'. -/
def sampleNoiseCard : Claim7 := { stood := { row := sampleNoiseRow, standIns := [], harness := (true, "5a3a96ac1309f191992a858bae0426d1c45f6cc0fbc868b35b48fc73b8b6d176"), looks := false }, kinds := [], alts := [], laidByText := true, laidKinds := [.data, .data], laidTests := true, laidLooks := .later }
def SampleNoiseCardSaid : Prop := Claim7.holds Tryd.pinned (.plain (OpenSpec.ofChange sampleNoiseSpec)) sampleNoiseCard

/-- THE TIED CARD OF 'redanlaw12.SamplePacks'. -/
def samplePacksCard : Claim7 := { stood := { row := samplePacksRow, standIns := [], harness := (true, "5a3a96ac1309f191992a858bae0426d1c45f6cc0fbc868b35b48fc73b8b6d176"), looks := false }, kinds := [], alts := [], laidByText := true, laidKinds := [.data, .data], laidTests := true, laidLooks := .later }
def SamplePacksCardSaid : Prop := Claim7.holds Tryd.pinned (.plain (OpenSpec.ofChange samplePacksSpec)) samplePacksCard

/-- THE TIED CARD OF 'redanlaw12.SampleRounds'. -/
def sampleRoundsCard : Claim7 := { stood := { row := sampleRoundsRow, standIns := [], harness := (true, "5a3a96ac1309f191992a858bae0426d1c45f6cc0fbc868b35b48fc73b8b6d176"), looks := false }, kinds := [], alts := [], laidByText := true, laidKinds := [.data, .data], laidTests := true, laidLooks := .later }
def SampleRoundsCardSaid : Prop := Claim7.holds Tryd.pinned (.plain (OpenSpec.ofChange sampleRoundsSpec)) sampleRoundsCard

/-- THE TIED CARD OF 'redanlaw12.SampleBack'. -/
def sampleBackCard : Claim7 := { stood := { row := sampleBackRow, standIns := [], harness := (true, "5a3a96ac1309f191992a858bae0426d1c45f6cc0fbc868b35b48fc73b8b6d176"), looks := false }, kinds := [], alts := [], laidByText := true, laidKinds := [.data, .data], laidTests := true, laidLooks := .later }
def SampleBackCardSaid : Prop := Claim7.holds Tryd.pinned (.plain (OpenSpec.ofChange sampleBackSpec)) sampleBackCard

/-- THE TIED CARD OF 'redanlaw12.SampleBits'. -/
def sampleBitsCard : Claim7 := { stood := { row := sampleBitsRow, standIns := [], harness := (true, "5a3a96ac1309f191992a858bae0426d1c45f6cc0fbc868b35b48fc73b8b6d176"), looks := false }, kinds := [], alts := [], laidByText := true, laidKinds := [.data, .data], laidTests := true, laidLooks := .later }
def SampleBitsCardSaid : Prop := Claim7.holds Tryd.pinned (.plain (OpenSpec.ofChange sampleBitsSpec)) sampleBitsCard

/-- THE TIED CARD OF 'redanlaw12.SampleSmall'. -/
def sampleSmallCard : Claim7 := { stood := { row := sampleSmallRow, standIns := [], harness := (true, "5a3a96ac1309f191992a858bae0426d1c45f6cc0fbc868b35b48fc73b8b6d176"), looks := false }, kinds := [], alts := [], laidByText := true, laidKinds := [.data, .data], laidTests := true, laidLooks := .later }
def SampleSmallCardSaid : Prop := Claim7.holds Tryd.pinned (.plain (OpenSpec.ofChange sampleSmallSpec)) sampleSmallCard

/-- THE TIED CARD OF 'redanlaw13.KpkeGens'. -/
def kpkeGensCard : Claim7 := { stood := { row := kpkeGensRow, standIns := [], harness := (true, "5a3a96ac1309f191992a858bae0426d1c45f6cc0fbc868b35b48fc73b8b6d176"), looks := false }, kinds := [], alts := [], laidByText := true, laidKinds := [.data, .data, .data], laidTests := true, laidLooks := .later }
def KpkeGensCardSaid : Prop := Claim7.holds Tryd.pinned (.plain (OpenSpec.ofChange kpkeGensSpec)) kpkeGensCard

/-- THE SECOND FORM's CARD OF 'redanlaw12.SampleUniform'. -/
def sampleUniformUptoCard : Claim7 := { stood := { row := sampleUniformUptoRow, standIns := [], harness := (true, "5a3a96ac1309f191992a858bae0426d1c45f6cc0fbc868b35b48fc73b8b6d176"), looks := false }, kinds := [], alts := [], laidByText := true, laidKinds := [.data, .data], laidTests := true, laidLooks := .later }
def SampleUniformUptoCardSaid : Prop := Claim7.holds Tryd.pinned (.plain (OpenSpec.upto sampleUniformSpec)) sampleUniformUptoCard

/-- THE SECOND FORM's CARD OF 'redanlaw12.SampleNoise'. -/
def sampleNoiseUptoCard : Claim7 := { stood := { row := sampleNoiseUptoRow, standIns := [], harness := (true, "5a3a96ac1309f191992a858bae0426d1c45f6cc0fbc868b35b48fc73b8b6d176"), looks := false }, kinds := [], alts := [], laidByText := true, laidKinds := [.data, .data], laidTests := true, laidLooks := .later }
def SampleNoiseUptoCardSaid : Prop := Claim7.holds Tryd.pinned (.plain (OpenSpec.upto sampleNoiseSpec)) sampleNoiseUptoCard

/-- THE SECOND FORM's CARD OF 'redanlaw12.SamplePacks'. -/
def samplePacksUptoCard : Claim7 := { stood := { row := samplePacksUptoRow, standIns := [], harness := (true, "5a3a96ac1309f191992a858bae0426d1c45f6cc0fbc868b35b48fc73b8b6d176"), looks := false }, kinds := [], alts := [], laidByText := true, laidKinds := [.data, .data], laidTests := true, laidLooks := .later }
def SamplePacksUptoCardSaid : Prop := Claim7.holds Tryd.pinned (.plain (OpenSpec.upto samplePacksSpec)) samplePacksUptoCard

/-- THE SECOND FORM's CARD OF 'redanlaw12.SampleRounds'. -/
def sampleRoundsUptoCard : Claim7 := { stood := { row := sampleRoundsUptoRow, standIns := [], harness := (true, "5a3a96ac1309f191992a858bae0426d1c45f6cc0fbc868b35b48fc73b8b6d176"), looks := false }, kinds := [], alts := [], laidByText := true, laidKinds := [.data, .data], laidTests := true, laidLooks := .later }
def SampleRoundsUptoCardSaid : Prop := Claim7.holds Tryd.pinned (.plain (OpenSpec.upto sampleRoundsSpec)) sampleRoundsUptoCard

/-- THE SECOND FORM's CARD OF 'redanlaw12.SampleBack'. -/
def sampleBackUptoCard : Claim7 := { stood := { row := sampleBackUptoRow, standIns := [], harness := (true, "5a3a96ac1309f191992a858bae0426d1c45f6cc0fbc868b35b48fc73b8b6d176"), looks := false }, kinds := [], alts := [], laidByText := true, laidKinds := [.data, .data], laidTests := true, laidLooks := .later }
def SampleBackUptoCardSaid : Prop := Claim7.holds Tryd.pinned (.plain (OpenSpec.upto sampleBackSpec)) sampleBackUptoCard

/-- THE SECOND FORM's CARD OF 'redanlaw12.SampleBits'. -/
def sampleBitsUptoCard : Claim7 := { stood := { row := sampleBitsUptoRow, standIns := [], harness := (true, "5a3a96ac1309f191992a858bae0426d1c45f6cc0fbc868b35b48fc73b8b6d176"), looks := false }, kinds := [], alts := [], laidByText := true, laidKinds := [.data, .data], laidTests := true, laidLooks := .later }
def SampleBitsUptoCardSaid : Prop := Claim7.holds Tryd.pinned (.plain (OpenSpec.upto sampleBitsSpec)) sampleBitsUptoCard

/-- THE SECOND FORM's CARD OF 'redanlaw12.SampleSmall'. -/
def sampleSmallUptoCard : Claim7 := { stood := { row := sampleSmallUptoRow, standIns := [], harness := (true, "5a3a96ac1309f191992a858bae0426d1c45f6cc0fbc868b35b48fc73b8b6d176"), looks := false }, kinds := [], alts := [], laidByText := true, laidKinds := [.data, .data], laidTests := true, laidLooks := .later }
def SampleSmallUptoCardSaid : Prop := Claim7.holds Tryd.pinned (.plain (OpenSpec.upto sampleSmallSpec)) sampleSmallUptoCard

/-- THE SECOND FORM's CARD OF 'redanlaw13.KpkeGens'. -/
def kpkeGensUptoCard : Claim7 := { stood := { row := kpkeGensUptoRow, standIns := [], harness := (true, "5a3a96ac1309f191992a858bae0426d1c45f6cc0fbc868b35b48fc73b8b6d176"), looks := false }, kinds := [], alts := [], laidByText := true, laidKinds := [.data, .data, .data], laidTests := true, laidLooks := .later }
def KpkeGensUptoCardSaid : Prop := Claim7.holds Tryd.pinned (.plain (OpenSpec.upto kpkeGensSpec)) kpkeGensUptoCard
end Rows
end Go.Proofs.YtaignhikdfpbbaaDoor
