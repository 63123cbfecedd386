/-
  DERIVED. GIVEN WITH THE SEED: THE CARDS: each row of YtdhgkfmniebghaaDoorRows.lean that lists a variable, with what it lists TIED to the program's text (the seventh form; the later family's looks); each row that meets fmt, with fmt's text TOLD by the authors' own Lean function (tested against real Go, not proved from fmt's source: count such statements apart). THE CARD IS WHAT COUNTS. Prove the row's statement (the work); the ties are given (YtdhgkfmniebghaaDoorTie.lean); close each card by the builder's one call (the guide's Derived/Test/ToyasCard.lean, 'card_holds'). Laid BY PROGRAM, IN A SANDBOX (cutbox-door.mjs). By AI agents, Wed Nov 11 2026. No macro, syntax, notation, axiom, sorry.
-/
import Derived.Test.YtdhgkfmniebghaaDoorRows
import GoSem.ClaimSeven
namespace Go.Proofs.YtdhgkfmniebghaaDoor
namespace Rows

/-- THE TIED CARD OF 'redanlaw03.SpongeAbsorbs'. -/
def spongeAbsorbsCard : Claim7 := { stood := { row := spongeAbsorbsRow, standIns := [], harness := (true, "e0f20debf93a6db270bb12bd06001511430f25ff46137dc3a0a69d1ad6c787b2"), looks := false }, kinds := [], alts := [], laidByText := true, laidKinds := [.data, .data], laidTests := true, laidLooks := .later }
def SpongeAbsorbsCardSaid : Prop := Claim7.holds Tryd.pinned (.plain (OpenSpec.ofChange spongeAbsorbsSpec)) spongeAbsorbsCard

/-- THE TIED CARD OF 'redanlaw03.SpongeSums'. -/
def spongeSumsCard : Claim7 := { stood := { row := spongeSumsRow, standIns := [], harness := (true, "e0f20debf93a6db270bb12bd06001511430f25ff46137dc3a0a69d1ad6c787b2"), looks := false }, kinds := [], alts := [], laidByText := true, laidKinds := [.data, .data], laidTests := true, laidLooks := .later }
def SpongeSumsCardSaid : Prop := Claim7.holds Tryd.pinned (.plain (OpenSpec.ofChange spongeSumsSpec)) spongeSumsCard

/-- THE TIED CARD OF 'redanlaw03.SpongeReads'. -/
def spongeReadsCard : Claim7 := { stood := { row := spongeReadsRow, standIns := [], harness := (true, "e0f20debf93a6db270bb12bd06001511430f25ff46137dc3a0a69d1ad6c787b2"), looks := false }, kinds := [], alts := [], laidByText := true, laidKinds := [.data, .data], laidTests := true, laidLooks := .later }
def SpongeReadsCardSaid : Prop := Claim7.holds Tryd.pinned (.plain (OpenSpec.ofChange spongeReadsSpec)) spongeReadsCard

/-- THE TIED CARD OF 'redanlaw03.SpongeNone'. -/
def spongeNoneCard : Claim7 := { stood := { row := spongeNoneRow, standIns := [], harness := (true, "e0f20debf93a6db270bb12bd06001511430f25ff46137dc3a0a69d1ad6c787b2"), looks := false }, kinds := [], alts := [], laidByText := true, laidKinds := [.data, .data], laidTests := true, laidLooks := .later }
def SpongeNoneCardSaid : Prop := Claim7.holds Tryd.pinned (.plain (OpenSpec.ofChange spongeNoneSpec)) spongeNoneCard

/-- THE TIED CARD OF 'redanlaw03.SpongeLong'. -/
def spongeLongCard : Claim7 := { stood := { row := spongeLongRow, standIns := [], harness := (true, "e0f20debf93a6db270bb12bd06001511430f25ff46137dc3a0a69d1ad6c787b2"), looks := false }, kinds := [], alts := [], laidByText := true, laidKinds := [.data, .data], laidTests := true, laidLooks := .later }
def SpongeLongCardSaid : Prop := Claim7.holds Tryd.pinned (.plain (OpenSpec.ofChange spongeLongSpec)) spongeLongCard

/-- THE TIED CARD OF 'redanlaw04.HkdfMac'. -/
def hkdfMacCard : Claim7 := { stood := { row := hkdfMacRow, standIns := [], harness := (true, "e0f20debf93a6db270bb12bd06001511430f25ff46137dc3a0a69d1ad6c787b2"), looks := false }, kinds := [], alts := [], laidByText := true, laidKinds := [.data, .data], laidTests := true, laidLooks := .later }
def HkdfMacCardSaid : Prop := Claim7.holds Tryd.pinned (.plain (OpenSpec.ofChange hkdfMacSpec)) hkdfMacCard

/-- THE TIED CARD OF 'redanlaw04.HkdfKeys'. -/
def hkdfKeysCard : Claim7 := { stood := { row := hkdfKeysRow, standIns := [], harness := (true, "e0f20debf93a6db270bb12bd06001511430f25ff46137dc3a0a69d1ad6c787b2"), looks := false }, kinds := [], alts := [], laidByText := true, laidKinds := [.data, .data], laidTests := true, laidLooks := .later }
def HkdfKeysCardSaid : Prop := Claim7.holds Tryd.pinned (.plain (OpenSpec.ofChange hkdfKeysSpec)) hkdfKeysCard

/-- THE TIED CARD OF 'redanlaw04.HkdfNoughts'. -/
def hkdfNoughtsCard : Claim7 := { stood := { row := hkdfNoughtsRow, standIns := [], harness := (true, "e0f20debf93a6db270bb12bd06001511430f25ff46137dc3a0a69d1ad6c787b2"), looks := false }, kinds := [], alts := [], laidByText := true, laidKinds := [.data, .data], laidTests := true, laidLooks := .later }
def HkdfNoughtsCardSaid : Prop := Claim7.holds Tryd.pinned (.plain (OpenSpec.ofChange hkdfNoughtsSpec)) hkdfNoughtsCard

/-- THE TIED CARD OF 'redanlaw04.HkdfLong'. -/
def hkdfLongCard : Claim7 := { stood := { row := hkdfLongRow, standIns := [], harness := (true, "e0f20debf93a6db270bb12bd06001511430f25ff46137dc3a0a69d1ad6c787b2"), looks := false }, kinds := [], alts := [], laidByText := true, laidKinds := [.data, .data], laidTests := true, laidLooks := .later }
def HkdfLongCardSaid : Prop := Claim7.holds Tryd.pinned (.plain (OpenSpec.ofChange hkdfLongSpec)) hkdfLongCard

/-- THE TIED CARD OF 'redanlaw04.HkdfChain'. -/
def hkdfChainCard : Claim7 := { stood := { row := hkdfChainRow, standIns := [], harness := (true, "e0f20debf93a6db270bb12bd06001511430f25ff46137dc3a0a69d1ad6c787b2"), looks := false }, kinds := [], alts := [], laidByText := true, laidKinds := [.data, .data], laidTests := true, laidLooks := .later }
def HkdfChainCardSaid : Prop := Claim7.holds Tryd.pinned (.plain (OpenSpec.ofChange hkdfChainSpec)) hkdfChainCard

/-- THE TIED CARD OF 'redanlaw21.CookieMakes'. -/
def cookieMakesCard : Claim7 := { stood := { row := cookieMakesRow, standIns := [], harness := (true, "e0f20debf93a6db270bb12bd06001511430f25ff46137dc3a0a69d1ad6c787b2"), looks := false }, kinds := [], alts := [], laidByText := true, laidKinds := [.data, .data], laidTests := true, laidLooks := .later }
def CookieMakesCardSaid : Prop := Claim7.holds Tryd.pinned (.plain (OpenSpec.ofChange cookieMakesSpec)) cookieMakesCard

/-- THE TIED CARD OF 'redanlaw21.CookieValid'. -/
def cookieValidCard : Claim7 := { stood := { row := cookieValidRow, standIns := [], harness := (true, "e0f20debf93a6db270bb12bd06001511430f25ff46137dc3a0a69d1ad6c787b2"), looks := false }, kinds := [], alts := [], laidByText := true, laidKinds := [.data, .data], laidTests := true, laidLooks := .later }
def CookieValidCardSaid : Prop := Claim7.holds Tryd.pinned (.plain (OpenSpec.ofChange cookieValidSpec)) cookieValidCard

/-- THE TIED CARD OF 'redanlaw21.CookieLasts'. -/
def cookieLastsCard : Claim7 := { stood := { row := cookieLastsRow, standIns := [], harness := (true, "e0f20debf93a6db270bb12bd06001511430f25ff46137dc3a0a69d1ad6c787b2"), looks := false }, kinds := [], alts := [], laidByText := true, laidKinds := [.data, .data], laidTests := true, laidLooks := .later }
def CookieLastsCardSaid : Prop := Claim7.holds Tryd.pinned (.plain (OpenSpec.ofChange cookieLastsSpec)) cookieLastsCard

/-- THE TIED CARD OF 'redanlaw21.CookieEpochs'. -/
def cookieEpochsCard : Claim7 := { stood := { row := cookieEpochsRow, standIns := [], harness := (true, "e0f20debf93a6db270bb12bd06001511430f25ff46137dc3a0a69d1ad6c787b2"), looks := false }, kinds := [], alts := [], laidByText := true, laidKinds := [.data, .data], laidTests := true, laidLooks := .later }
def CookieEpochsCardSaid : Prop := Claim7.holds Tryd.pinned (.plain (OpenSpec.ofChange cookieEpochsSpec)) cookieEpochsCard

/-- THE SECOND FORM's CARD OF 'redanlaw03.SpongeAbsorbs'. -/
def spongeAbsorbsUptoCard : Claim7 := { stood := { row := spongeAbsorbsUptoRow, standIns := [], harness := (true, "e0f20debf93a6db270bb12bd06001511430f25ff46137dc3a0a69d1ad6c787b2"), looks := false }, kinds := [], alts := [], laidByText := true, laidKinds := [.data, .data], laidTests := true, laidLooks := .later }
def SpongeAbsorbsUptoCardSaid : Prop := Claim7.holds Tryd.pinned (.plain (OpenSpec.upto spongeAbsorbsSpec)) spongeAbsorbsUptoCard

/-- THE SECOND FORM's CARD OF 'redanlaw03.SpongeSums'. -/
def spongeSumsUptoCard : Claim7 := { stood := { row := spongeSumsUptoRow, standIns := [], harness := (true, "e0f20debf93a6db270bb12bd06001511430f25ff46137dc3a0a69d1ad6c787b2"), looks := false }, kinds := [], alts := [], laidByText := true, laidKinds := [.data, .data], laidTests := true, laidLooks := .later }
def SpongeSumsUptoCardSaid : Prop := Claim7.holds Tryd.pinned (.plain (OpenSpec.upto spongeSumsSpec)) spongeSumsUptoCard

/-- THE SECOND FORM's CARD OF 'redanlaw03.SpongeReads'. -/
def spongeReadsUptoCard : Claim7 := { stood := { row := spongeReadsUptoRow, standIns := [], harness := (true, "e0f20debf93a6db270bb12bd06001511430f25ff46137dc3a0a69d1ad6c787b2"), looks := false }, kinds := [], alts := [], laidByText := true, laidKinds := [.data, .data], laidTests := true, laidLooks := .later }
def SpongeReadsUptoCardSaid : Prop := Claim7.holds Tryd.pinned (.plain (OpenSpec.upto spongeReadsSpec)) spongeReadsUptoCard

/-- THE SECOND FORM's CARD OF 'redanlaw03.SpongeNone'. -/
def spongeNoneUptoCard : Claim7 := { stood := { row := spongeNoneUptoRow, standIns := [], harness := (true, "e0f20debf93a6db270bb12bd06001511430f25ff46137dc3a0a69d1ad6c787b2"), looks := false }, kinds := [], alts := [], laidByText := true, laidKinds := [.data, .data], laidTests := true, laidLooks := .later }
def SpongeNoneUptoCardSaid : Prop := Claim7.holds Tryd.pinned (.plain (OpenSpec.upto spongeNoneSpec)) spongeNoneUptoCard

/-- THE SECOND FORM's CARD OF 'redanlaw03.SpongeLong'. -/
def spongeLongUptoCard : Claim7 := { stood := { row := spongeLongUptoRow, standIns := [], harness := (true, "e0f20debf93a6db270bb12bd06001511430f25ff46137dc3a0a69d1ad6c787b2"), looks := false }, kinds := [], alts := [], laidByText := true, laidKinds := [.data, .data], laidTests := true, laidLooks := .later }
def SpongeLongUptoCardSaid : Prop := Claim7.holds Tryd.pinned (.plain (OpenSpec.upto spongeLongSpec)) spongeLongUptoCard

/-- THE SECOND FORM's CARD OF 'redanlaw04.HkdfMac'. -/
def hkdfMacUptoCard : Claim7 := { stood := { row := hkdfMacUptoRow, standIns := [], harness := (true, "e0f20debf93a6db270bb12bd06001511430f25ff46137dc3a0a69d1ad6c787b2"), looks := false }, kinds := [], alts := [], laidByText := true, laidKinds := [.data, .data], laidTests := true, laidLooks := .later }
def HkdfMacUptoCardSaid : Prop := Claim7.holds Tryd.pinned (.plain (OpenSpec.upto hkdfMacSpec)) hkdfMacUptoCard

/-- THE SECOND FORM's CARD OF 'redanlaw04.HkdfKeys'. -/
def hkdfKeysUptoCard : Claim7 := { stood := { row := hkdfKeysUptoRow, standIns := [], harness := (true, "e0f20debf93a6db270bb12bd06001511430f25ff46137dc3a0a69d1ad6c787b2"), looks := false }, kinds := [], alts := [], laidByText := true, laidKinds := [.data, .data], laidTests := true, laidLooks := .later }
def HkdfKeysUptoCardSaid : Prop := Claim7.holds Tryd.pinned (.plain (OpenSpec.upto hkdfKeysSpec)) hkdfKeysUptoCard

/-- THE SECOND FORM's CARD OF 'redanlaw04.HkdfNoughts'. -/
def hkdfNoughtsUptoCard : Claim7 := { stood := { row := hkdfNoughtsUptoRow, standIns := [], harness := (true, "e0f20debf93a6db270bb12bd06001511430f25ff46137dc3a0a69d1ad6c787b2"), looks := false }, kinds := [], alts := [], laidByText := true, laidKinds := [.data, .data], laidTests := true, laidLooks := .later }
def HkdfNoughtsUptoCardSaid : Prop := Claim7.holds Tryd.pinned (.plain (OpenSpec.upto hkdfNoughtsSpec)) hkdfNoughtsUptoCard

/-- THE SECOND FORM's CARD OF 'redanlaw04.HkdfLong'. -/
def hkdfLongUptoCard : Claim7 := { stood := { row := hkdfLongUptoRow, standIns := [], harness := (true, "e0f20debf93a6db270bb12bd06001511430f25ff46137dc3a0a69d1ad6c787b2"), looks := false }, kinds := [], alts := [], laidByText := true, laidKinds := [.data, .data], laidTests := true, laidLooks := .later }
def HkdfLongUptoCardSaid : Prop := Claim7.holds Tryd.pinned (.plain (OpenSpec.upto hkdfLongSpec)) hkdfLongUptoCard

/-- THE SECOND FORM's CARD OF 'redanlaw04.HkdfChain'. -/
def hkdfChainUptoCard : Claim7 := { stood := { row := hkdfChainUptoRow, standIns := [], harness := (true, "e0f20debf93a6db270bb12bd06001511430f25ff46137dc3a0a69d1ad6c787b2"), looks := false }, kinds := [], alts := [], laidByText := true, laidKinds := [.data, .data], laidTests := true, laidLooks := .later }
def HkdfChainUptoCardSaid : Prop := Claim7.holds Tryd.pinned (.plain (OpenSpec.upto hkdfChainSpec)) hkdfChainUptoCard

/-- THE SECOND FORM's CARD OF 'redanlaw21.CookieMakes'. -/
def cookieMakesUptoCard : Claim7 := { stood := { row := cookieMakesUptoRow, standIns := [], harness := (true, "e0f20debf93a6db270bb12bd06001511430f25ff46137dc3a0a69d1ad6c787b2"), looks := false }, kinds := [], alts := [], laidByText := true, laidKinds := [.data, .data], laidTests := true, laidLooks := .later }
def CookieMakesUptoCardSaid : Prop := Claim7.holds Tryd.pinned (.plain (OpenSpec.upto cookieMakesSpec)) cookieMakesUptoCard

/-- THE SECOND FORM's CARD OF 'redanlaw21.CookieValid'. -/
def cookieValidUptoCard : Claim7 := { stood := { row := cookieValidUptoRow, standIns := [], harness := (true, "e0f20debf93a6db270bb12bd06001511430f25ff46137dc3a0a69d1ad6c787b2"), looks := false }, kinds := [], alts := [], laidByText := true, laidKinds := [.data, .data], laidTests := true, laidLooks := .later }
def CookieValidUptoCardSaid : Prop := Claim7.holds Tryd.pinned (.plain (OpenSpec.upto cookieValidSpec)) cookieValidUptoCard

/-- THE SECOND FORM's CARD OF 'redanlaw21.CookieLasts'. -/
def cookieLastsUptoCard : Claim7 := { stood := { row := cookieLastsUptoRow, standIns := [], harness := (true, "e0f20debf93a6db270bb12bd06001511430f25ff46137dc3a0a69d1ad6c787b2"), looks := false }, kinds := [], alts := [], laidByText := true, laidKinds := [.data, .data], laidTests := true, laidLooks := .later }
def CookieLastsUptoCardSaid : Prop := Claim7.holds Tryd.pinned (.plain (OpenSpec.upto cookieLastsSpec)) cookieLastsUptoCard

/-- THE SECOND FORM's CARD OF 'redanlaw21.CookieEpochs'. -/
def cookieEpochsUptoCard : Claim7 := { stood := { row := cookieEpochsUptoRow, standIns := [], harness := (true, "e0f20debf93a6db270bb12bd06001511430f25ff46137dc3a0a69d1ad6c787b2"), looks := false }, kinds := [], alts := [], laidByText := true, laidKinds := [.data, .data], laidTests := true, laidLooks := .later }
def CookieEpochsUptoCardSaid : Prop := Claim7.holds Tryd.pinned (.plain (OpenSpec.upto cookieEpochsSpec)) cookieEpochsUptoCard
end Rows
end Go.Proofs.YtdhgkfmniebghaaDoor
