/-
  DERIVED. GIVEN WITH THE SEED: THE CARDS: each row of YtaignhikdfpbbaaGreatDoorRows.lean that lists a variable, with what it lists TIED to the program's text (the seventh form; the later family's looks); each row that meets fmt, with fmt's text TOLD by the authors' own Lean function (tested against real Go, not proved from fmt's source: count such statements apart). THE CARD IS WHAT COUNTS. Prove the row's statement (the work); the ties are given (YtaignhikdfpbbaaGreatDoorTie.lean); close each card by the builder's one call (the guide's Derived/Test/ToyasCard.lean, 'card_holds'). Laid BY PROGRAM, IN A SANDBOX (cutbox-door.mjs). By AI agents, Wed Nov 11 2026. No macro, syntax, notation, axiom, sorry.
-/
import Derived.Test.YtaignhikdfpbbaaGreatDoorRows
import GoSem.ClaimSeven
namespace Go.Proofs.YtaignhikdfpbbaaGreatDoor
namespace Rows

/-- THE TIED CARD OF 'redanlaw13.KpkeEncs'. -/
def kpkeEncsCard : Claim7 := { stood := { row := kpkeEncsRow, standIns := [], harness := (true, "919c2db6aa6de9c785397363da6f2ebcd6d43296501c36a240958625c0963b3e"), looks := false }, kinds := [], alts := [], laidByText := true, laidKinds := [.data, .data, .data], laidTests := true, laidLooks := .later }
def KpkeEncsCardSaid : Prop := Claim7.holds Tryz.pinned (.plain (OpenSpec.ofChange kpkeEncsSpec)) kpkeEncsCard

/-- THE TIED CARD OF 'redanlaw13.KpkeDecs'. -/
def kpkeDecsCard : Claim7 := { stood := { row := kpkeDecsRow, standIns := [], harness := (true, "919c2db6aa6de9c785397363da6f2ebcd6d43296501c36a240958625c0963b3e"), looks := false }, kinds := [], alts := [], laidByText := true, laidKinds := [.data, .data, .data], laidTests := true, laidLooks := .later }
def KpkeDecsCardSaid : Prop := Claim7.holds Tryz.pinned (.plain (OpenSpec.ofChange kpkeDecsSpec)) kpkeDecsCard

/-- THE TIED CARD OF 'redanlaw13.KpkeBytes'. -/
def kpkeBytesCard : Claim7 := { stood := { row := kpkeBytesRow, standIns := [], harness := (true, "919c2db6aa6de9c785397363da6f2ebcd6d43296501c36a240958625c0963b3e"), looks := false }, kinds := [], alts := [], laidByText := true, laidKinds := [.data, .data, .data], laidTests := true, laidLooks := .later }
def KpkeBytesCardSaid : Prop := Claim7.holds Tryz.pinned (.plain (OpenSpec.ofChange kpkeBytesSpec)) kpkeBytesCard

/-- THE TIED CARD OF 'redanlaw14.KemGens'. -/
def kemGensCard : Claim7 := { stood := { row := kemGensRow, standIns := [], harness := (true, "919c2db6aa6de9c785397363da6f2ebcd6d43296501c36a240958625c0963b3e"), looks := false }, kinds := [], alts := [], laidByText := true, laidKinds := [.data, .data, .data], laidTests := true, laidLooks := .later }
def KemGensCardSaid : Prop := Claim7.holds Tryz.pinned (.plain (OpenSpec.ofChange kemGensSpec)) kemGensCard

/-- THE TIED CARD OF 'redanlaw14.KemChecks'. -/
def kemChecksCard : Claim7 := { stood := { row := kemChecksRow, standIns := [], harness := (true, "919c2db6aa6de9c785397363da6f2ebcd6d43296501c36a240958625c0963b3e"), looks := false }, kinds := [], alts := [], laidByText := true, laidKinds := [.data, .data, .data], laidTests := true, laidLooks := .later }
def KemChecksCardSaid : Prop := Claim7.holds Tryz.pinned (.plain (OpenSpec.ofChange kemChecksSpec)) kemChecksCard

/-- THE TIED CARD OF 'redanlaw14.KemEncaps'. -/
def kemEncapsCard : Claim7 := { stood := { row := kemEncapsRow, standIns := [], harness := (true, "919c2db6aa6de9c785397363da6f2ebcd6d43296501c36a240958625c0963b3e"), looks := false }, kinds := [], alts := [], laidByText := true, laidKinds := [.data, .data, .data], laidTests := true, laidLooks := .later }
def KemEncapsCardSaid : Prop := Claim7.holds Tryz.pinned (.plain (OpenSpec.ofChange kemEncapsSpec)) kemEncapsCard

/-- THE TIED CARD OF 'redanlaw14.KemDecaps'. -/
def kemDecapsCard : Claim7 := { stood := { row := kemDecapsRow, standIns := [], harness := (true, "919c2db6aa6de9c785397363da6f2ebcd6d43296501c36a240958625c0963b3e"), looks := false }, kinds := [], alts := [], laidByText := true, laidKinds := [.data, .data, .data], laidTests := true, laidLooks := .later }
def KemDecapsCardSaid : Prop := Claim7.holds Tryz.pinned (.plain (OpenSpec.ofChange kemDecapsSpec)) kemDecapsCard

/-- THE TIED CARD OF 'redanlaw14.KemRejects'. -/
def kemRejectsCard : Claim7 := { stood := { row := kemRejectsRow, standIns := [], harness := (true, "919c2db6aa6de9c785397363da6f2ebcd6d43296501c36a240958625c0963b3e"), looks := false }, kinds := [], alts := [], laidByText := true, laidKinds := [.data, .data, .data], laidTests := true, laidLooks := .later }
def KemRejectsCardSaid : Prop := Claim7.holds Tryz.pinned (.plain (OpenSpec.ofChange kemRejectsSpec)) kemRejectsCard

/-- THE SECOND FORM's CARD OF 'redanlaw13.KpkeEncs'. -/
def kpkeEncsUptoCard : Claim7 := { stood := { row := kpkeEncsUptoRow, standIns := [], harness := (true, "919c2db6aa6de9c785397363da6f2ebcd6d43296501c36a240958625c0963b3e"), looks := false }, kinds := [], alts := [], laidByText := true, laidKinds := [.data, .data, .data], laidTests := true, laidLooks := .later }
def KpkeEncsUptoCardSaid : Prop := Claim7.holds Tryz.pinned (.plain (OpenSpec.upto kpkeEncsSpec)) kpkeEncsUptoCard

/-- THE SECOND FORM's CARD OF 'redanlaw13.KpkeDecs'. -/
def kpkeDecsUptoCard : Claim7 := { stood := { row := kpkeDecsUptoRow, standIns := [], harness := (true, "919c2db6aa6de9c785397363da6f2ebcd6d43296501c36a240958625c0963b3e"), looks := false }, kinds := [], alts := [], laidByText := true, laidKinds := [.data, .data, .data], laidTests := true, laidLooks := .later }
def KpkeDecsUptoCardSaid : Prop := Claim7.holds Tryz.pinned (.plain (OpenSpec.upto kpkeDecsSpec)) kpkeDecsUptoCard

/-- THE SECOND FORM's CARD OF 'redanlaw13.KpkeBytes'. -/
def kpkeBytesUptoCard : Claim7 := { stood := { row := kpkeBytesUptoRow, standIns := [], harness := (true, "919c2db6aa6de9c785397363da6f2ebcd6d43296501c36a240958625c0963b3e"), looks := false }, kinds := [], alts := [], laidByText := true, laidKinds := [.data, .data, .data], laidTests := true, laidLooks := .later }
def KpkeBytesUptoCardSaid : Prop := Claim7.holds Tryz.pinned (.plain (OpenSpec.upto kpkeBytesSpec)) kpkeBytesUptoCard

/-- THE SECOND FORM's CARD OF 'redanlaw14.KemGens'. -/
def kemGensUptoCard : Claim7 := { stood := { row := kemGensUptoRow, standIns := [], harness := (true, "919c2db6aa6de9c785397363da6f2ebcd6d43296501c36a240958625c0963b3e"), looks := false }, kinds := [], alts := [], laidByText := true, laidKinds := [.data, .data, .data], laidTests := true, laidLooks := .later }
def KemGensUptoCardSaid : Prop := Claim7.holds Tryz.pinned (.plain (OpenSpec.upto kemGensSpec)) kemGensUptoCard

/-- THE SECOND FORM's CARD OF 'redanlaw14.KemChecks'. -/
def kemChecksUptoCard : Claim7 := { stood := { row := kemChecksUptoRow, standIns := [], harness := (true, "919c2db6aa6de9c785397363da6f2ebcd6d43296501c36a240958625c0963b3e"), looks := false }, kinds := [], alts := [], laidByText := true, laidKinds := [.data, .data, .data], laidTests := true, laidLooks := .later }
def KemChecksUptoCardSaid : Prop := Claim7.holds Tryz.pinned (.plain (OpenSpec.upto kemChecksSpec)) kemChecksUptoCard

/-- THE SECOND FORM's CARD OF 'redanlaw14.KemEncaps'. -/
def kemEncapsUptoCard : Claim7 := { stood := { row := kemEncapsUptoRow, standIns := [], harness := (true, "919c2db6aa6de9c785397363da6f2ebcd6d43296501c36a240958625c0963b3e"), looks := false }, kinds := [], alts := [], laidByText := true, laidKinds := [.data, .data, .data], laidTests := true, laidLooks := .later }
def KemEncapsUptoCardSaid : Prop := Claim7.holds Tryz.pinned (.plain (OpenSpec.upto kemEncapsSpec)) kemEncapsUptoCard

/-- THE SECOND FORM's CARD OF 'redanlaw14.KemDecaps'. -/
def kemDecapsUptoCard : Claim7 := { stood := { row := kemDecapsUptoRow, standIns := [], harness := (true, "919c2db6aa6de9c785397363da6f2ebcd6d43296501c36a240958625c0963b3e"), looks := false }, kinds := [], alts := [], laidByText := true, laidKinds := [.data, .data, .data], laidTests := true, laidLooks := .later }
def KemDecapsUptoCardSaid : Prop := Claim7.holds Tryz.pinned (.plain (OpenSpec.upto kemDecapsSpec)) kemDecapsUptoCard

/-- THE SECOND FORM's CARD OF 'redanlaw14.KemRejects'. -/
def kemRejectsUptoCard : Claim7 := { stood := { row := kemRejectsUptoRow, standIns := [], harness := (true, "919c2db6aa6de9c785397363da6f2ebcd6d43296501c36a240958625c0963b3e"), looks := false }, kinds := [], alts := [], laidByText := true, laidKinds := [.data, .data, .data], laidTests := true, laidLooks := .later }
def KemRejectsUptoCardSaid : Prop := Claim7.holds Tryz.pinned (.plain (OpenSpec.upto kemRejectsSpec)) kemRejectsUptoCard
end Rows
end Go.Proofs.YtaignhikdfpbbaaGreatDoor
