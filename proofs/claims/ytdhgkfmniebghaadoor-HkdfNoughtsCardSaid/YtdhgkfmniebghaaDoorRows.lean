/-
  NARROWER THAN 'FOR EVERY INPUT', by the rows' own cells (each row's printed sentence says how): SpongeAbsorbs: laid · SpongeSums: laid · SpongeReads: laid · SpongeNone: laid · SpongeLong: laid · HkdfMac: laid · HkdfKeys: laid · HkdfNoughts: laid · HkdfLong: laid · HkdfChain: laid · CookieMakes: laid · CookieValid: laid · CookieLasts: laid · CookieEpochs: laid.
  DERIVED. THE GIVEN ROWS OF THIS SEAT. 14 by the template 'for every input the law returns true; each argument reads behind the call as it read before'; 0 by the template 'total and deterministic' (their statements: YtdhgkfmniebghaaDoorTotals.lean).
  GIVEN WITH THE SEED: the statements are not yours to turn. If you find one false, say at which input.
  Laid BY PROGRAM, IN A SANDBOX (cutbox-rows.mjs): the forced cells as the released guide's own fill.sh prints them over the translation 392890d7d17d0b98… (all of the seat's roots in one cut). By AI agents, Wed Nov 11 2026. No macro, syntax, notation, axiom, sorry.
-/
import Derived.Test.YtdhgkfmniebghaaDoorChecked
import GoSem.Claim
import GoSem.ClaimJoined
import GoSem.ClaimMapViews
import Derived.JoinedTies
import Derived.KernelRfl
namespace Go.Proofs.YtdhgkfmniebghaaDoor
/- THE CELL 'sum', in the pinned program and in every row, IS THE sha256 OF THE DUMP (.gsa) THAT YtdhgkfmniebghaaDoorProg.lean LOADS. Nothing in Lean hashes anything: it is a label: what it is worth is what the hold of that sum in a sandbox is worth. -/
noncomputable def Tryd.pinned : Pinned := { name := "ytdhgkfmniebghaadoor", sum := "392890d7d17d0b984262c6c13d581b8d404c523079ceb92382078787c6b2d044", checked := Tryd.checked }
namespace Rows
def none {H : Type} : Left H := { results := [], args := [] }

/- WHAT THE LISTED PACKAGE-LEVEL VARIABLES READ AS WHEN THE CALL BEGINS. Each datum BY PROGRAM (the guide's laid-datum.mjs) off the statement by which the dump's own 'gosem.cut.vars' lays the variable. In a bare row this is a premise. The card (YtdhgkfmniebghaaDoorCards.lean) ties it to the program's text. -/
def laid_redan_keccak_turns {H : Type} : DataW H := .agg [.lit (.int .i64 0), .lit (.int .i64 1), .lit (.int .i64 62), .lit (.int .i64 28), .lit (.int .i64 27), .lit (.int .i64 36), .lit (.int .i64 44), .lit (.int .i64 6), .lit (.int .i64 55), .lit (.int .i64 20), .lit (.int .i64 3), .lit (.int .i64 10), .lit (.int .i64 43), .lit (.int .i64 25), .lit (.int .i64 39), .lit (.int .i64 41), .lit (.int .i64 45), .lit (.int .i64 15), .lit (.int .i64 21), .lit (.int .i64 8), .lit (.int .i64 18), .lit (.int .i64 2), .lit (.int .i64 61), .lit (.int .i64 56), .lit (.int .i64 14)]
def laid_redan_keccak_constants {H : Type} : DataW H := .agg [.lit (.int .u64 1), .lit (.int .u64 32898), .lit (.int .u64 9223372036854808714), .lit (.int .u64 9223372039002292224), .lit (.int .u64 32907), .lit (.int .u64 2147483649), .lit (.int .u64 9223372039002292353), .lit (.int .u64 9223372036854808585), .lit (.int .u64 138), .lit (.int .u64 136), .lit (.int .u64 2147516425), .lit (.int .u64 2147483658), .lit (.int .u64 2147516555), .lit (.int .u64 9223372036854775947), .lit (.int .u64 9223372036854808713), .lit (.int .u64 9223372036854808579), .lit (.int .u64 9223372036854808578), .lit (.int .u64 9223372036854775936), .lit (.int .u64 32778), .lit (.int .u64 9223372039002259466), .lit (.int .u64 9223372039002292353), .lit (.int .u64 9223372036854808704), .lit (.int .u64 2147483649), .lit (.int .u64 9223372039002292232)]

/-- 'redanlaw03.SpongeAbsorbs': WHATEVER THE INPUT: true; the input reads as it did. -/
def spongeAbsorbsSpec : ChangeSpec := { name := "spongeAbsorbs", fn := fun _ => fun
  | [d1, d2, d3] => { results := [.lit (.bool true)], args := [d1, d2, d3] }
  | _ => none }
def spongeAbsorbsRow : OpenClaim := { program := "ytdhgkfmniebghaadoor", sum := "392890d7d17d0b984262c6c13d581b8d404c523079ceb92382078787c6b2d044", func := "redan/redanlaw03.SpongeAbsorbs", spec := "spongeAbsorbs", named := ["redan/keccak.constants", "redan/keccak.turns"], apart := false, laid := [("redan/keccak.turns", laid_redan_keccak_turns), ("redan/keccak.constants", laid_redan_keccak_constants)] }
def SpongeAbsorbsSaid : Prop := spongeAbsorbsRow.holds Tryd.pinned (OpenSpec.ofChange spongeAbsorbsSpec)

/-- ITS FALSE NEIGHBOUR: 'it returns false'. Refute it at one input. -/
def spongeAbsorbsWrong : ChangeSpec := { name := "spongeAbsorbs", fn := fun _ => fun
  | [d1, d2, d3] => { results := [.lit (.bool false)], args := [d1, d2, d3] }
  | _ => none }
def SpongeAbsorbsWrongFalsely : Prop := spongeAbsorbsRow.holds Tryd.pinned (OpenSpec.ofChange spongeAbsorbsWrong)

/-- 'redanlaw03.SpongeSums': WHATEVER THE INPUT: true; the input reads as it did. -/
def spongeSumsSpec : ChangeSpec := { name := "spongeSums", fn := fun _ => fun
  | [d] => { results := [.lit (.bool true)], args := [d] }
  | _ => none }
def spongeSumsRow : OpenClaim := { program := "ytdhgkfmniebghaadoor", sum := "392890d7d17d0b984262c6c13d581b8d404c523079ceb92382078787c6b2d044", func := "redan/redanlaw03.SpongeSums", spec := "spongeSums", named := ["redan/keccak.constants", "redan/keccak.turns"], apart := false, laid := [("redan/keccak.turns", laid_redan_keccak_turns), ("redan/keccak.constants", laid_redan_keccak_constants)] }
def SpongeSumsSaid : Prop := spongeSumsRow.holds Tryd.pinned (OpenSpec.ofChange spongeSumsSpec)

/-- ITS FALSE NEIGHBOUR: 'it returns false'. Refute it at one input. -/
def spongeSumsWrong : ChangeSpec := { name := "spongeSums", fn := fun _ => fun
  | [d] => { results := [.lit (.bool false)], args := [d] }
  | _ => none }
def SpongeSumsWrongFalsely : Prop := spongeSumsRow.holds Tryd.pinned (OpenSpec.ofChange spongeSumsWrong)

/-- 'redanlaw03.SpongeReads': WHATEVER THE INPUT: true; the input reads as it did. -/
def spongeReadsSpec : ChangeSpec := { name := "spongeReads", fn := fun _ => fun
  | [d1, d2] => { results := [.lit (.bool true)], args := [d1, d2] }
  | _ => none }
def spongeReadsRow : OpenClaim := { program := "ytdhgkfmniebghaadoor", sum := "392890d7d17d0b984262c6c13d581b8d404c523079ceb92382078787c6b2d044", func := "redan/redanlaw03.SpongeReads", spec := "spongeReads", named := ["redan/keccak.constants", "redan/keccak.turns"], apart := false, laid := [("redan/keccak.turns", laid_redan_keccak_turns), ("redan/keccak.constants", laid_redan_keccak_constants)] }
def SpongeReadsSaid : Prop := spongeReadsRow.holds Tryd.pinned (OpenSpec.ofChange spongeReadsSpec)

/-- ITS FALSE NEIGHBOUR: 'it returns false'. Refute it at one input. -/
def spongeReadsWrong : ChangeSpec := { name := "spongeReads", fn := fun _ => fun
  | [d1, d2] => { results := [.lit (.bool false)], args := [d1, d2] }
  | _ => none }
def SpongeReadsWrongFalsely : Prop := spongeReadsRow.holds Tryd.pinned (OpenSpec.ofChange spongeReadsWrong)

/-- 'redanlaw03.SpongeNone': WHATEVER THE INPUT: true; the input reads as it did. -/
def spongeNoneSpec : ChangeSpec := { name := "spongeNone", fn := fun _ => fun
  | [d1, d2] => { results := [.lit (.bool true)], args := [d1, d2] }
  | _ => none }
def spongeNoneRow : OpenClaim := { program := "ytdhgkfmniebghaadoor", sum := "392890d7d17d0b984262c6c13d581b8d404c523079ceb92382078787c6b2d044", func := "redan/redanlaw03.SpongeNone", spec := "spongeNone", named := ["redan/keccak.constants", "redan/keccak.turns"], apart := false, laid := [("redan/keccak.turns", laid_redan_keccak_turns), ("redan/keccak.constants", laid_redan_keccak_constants)] }
def SpongeNoneSaid : Prop := spongeNoneRow.holds Tryd.pinned (OpenSpec.ofChange spongeNoneSpec)

/-- ITS FALSE NEIGHBOUR: 'it returns false'. Refute it at one input. -/
def spongeNoneWrong : ChangeSpec := { name := "spongeNone", fn := fun _ => fun
  | [d1, d2] => { results := [.lit (.bool false)], args := [d1, d2] }
  | _ => none }
def SpongeNoneWrongFalsely : Prop := spongeNoneRow.holds Tryd.pinned (OpenSpec.ofChange spongeNoneWrong)

/-- 'redanlaw03.SpongeLong': WHATEVER THE INPUT: true; the input reads as it did. -/
def spongeLongSpec : ChangeSpec := { name := "spongeLong", fn := fun _ => fun
  | [d1, d2, d3] => { results := [.lit (.bool true)], args := [d1, d2, d3] }
  | _ => none }
def spongeLongRow : OpenClaim := { program := "ytdhgkfmniebghaadoor", sum := "392890d7d17d0b984262c6c13d581b8d404c523079ceb92382078787c6b2d044", func := "redan/redanlaw03.SpongeLong", spec := "spongeLong", named := ["redan/keccak.constants", "redan/keccak.turns"], apart := false, laid := [("redan/keccak.turns", laid_redan_keccak_turns), ("redan/keccak.constants", laid_redan_keccak_constants)] }
def SpongeLongSaid : Prop := spongeLongRow.holds Tryd.pinned (OpenSpec.ofChange spongeLongSpec)

/-- ITS FALSE NEIGHBOUR: 'it returns false'. Refute it at one input. -/
def spongeLongWrong : ChangeSpec := { name := "spongeLong", fn := fun _ => fun
  | [d1, d2, d3] => { results := [.lit (.bool false)], args := [d1, d2, d3] }
  | _ => none }
def SpongeLongWrongFalsely : Prop := spongeLongRow.holds Tryd.pinned (OpenSpec.ofChange spongeLongWrong)

/-- 'redanlaw04.HkdfMac': WHATEVER THE INPUT: true; the input reads as it did. -/
def hkdfMacSpec : ChangeSpec := { name := "hkdfMac", fn := fun _ => fun
  | [d1, d2] => { results := [.lit (.bool true)], args := [d1, d2] }
  | _ => none }
def hkdfMacRow : OpenClaim := { program := "ytdhgkfmniebghaadoor", sum := "392890d7d17d0b984262c6c13d581b8d404c523079ceb92382078787c6b2d044", func := "redan/redanlaw04.HkdfMac", spec := "hkdfMac", named := ["redan/keccak.constants", "redan/keccak.turns"], apart := false, laid := [("redan/keccak.turns", laid_redan_keccak_turns), ("redan/keccak.constants", laid_redan_keccak_constants)] }
def HkdfMacSaid : Prop := hkdfMacRow.holds Tryd.pinned (OpenSpec.ofChange hkdfMacSpec)

/-- ITS FALSE NEIGHBOUR: 'it returns false'. Refute it at one input. -/
def hkdfMacWrong : ChangeSpec := { name := "hkdfMac", fn := fun _ => fun
  | [d1, d2] => { results := [.lit (.bool false)], args := [d1, d2] }
  | _ => none }
def HkdfMacWrongFalsely : Prop := hkdfMacRow.holds Tryd.pinned (OpenSpec.ofChange hkdfMacWrong)

/-- 'redanlaw04.HkdfKeys': WHATEVER THE INPUT: true; the input reads as it did. -/
def hkdfKeysSpec : ChangeSpec := { name := "hkdfKeys", fn := fun _ => fun
  | [d1, d2] => { results := [.lit (.bool true)], args := [d1, d2] }
  | _ => none }
def hkdfKeysRow : OpenClaim := { program := "ytdhgkfmniebghaadoor", sum := "392890d7d17d0b984262c6c13d581b8d404c523079ceb92382078787c6b2d044", func := "redan/redanlaw04.HkdfKeys", spec := "hkdfKeys", named := ["redan/keccak.constants", "redan/keccak.turns"], apart := false, laid := [("redan/keccak.turns", laid_redan_keccak_turns), ("redan/keccak.constants", laid_redan_keccak_constants)] }
def HkdfKeysSaid : Prop := hkdfKeysRow.holds Tryd.pinned (OpenSpec.ofChange hkdfKeysSpec)

/-- ITS FALSE NEIGHBOUR: 'it returns false'. Refute it at one input. -/
def hkdfKeysWrong : ChangeSpec := { name := "hkdfKeys", fn := fun _ => fun
  | [d1, d2] => { results := [.lit (.bool false)], args := [d1, d2] }
  | _ => none }
def HkdfKeysWrongFalsely : Prop := hkdfKeysRow.holds Tryd.pinned (OpenSpec.ofChange hkdfKeysWrong)

/-- 'redanlaw04.HkdfNoughts': WHATEVER THE INPUT: true; the input reads as it did. -/
def hkdfNoughtsSpec : ChangeSpec := { name := "hkdfNoughts", fn := fun _ => fun
  | [d1, d2, d3] => { results := [.lit (.bool true)], args := [d1, d2, d3] }
  | _ => none }
def hkdfNoughtsRow : OpenClaim := { program := "ytdhgkfmniebghaadoor", sum := "392890d7d17d0b984262c6c13d581b8d404c523079ceb92382078787c6b2d044", func := "redan/redanlaw04.HkdfNoughts", spec := "hkdfNoughts", named := ["redan/keccak.constants", "redan/keccak.turns"], apart := false, laid := [("redan/keccak.turns", laid_redan_keccak_turns), ("redan/keccak.constants", laid_redan_keccak_constants)] }
def HkdfNoughtsSaid : Prop := hkdfNoughtsRow.holds Tryd.pinned (OpenSpec.ofChange hkdfNoughtsSpec)

/-- ITS FALSE NEIGHBOUR: 'it returns false'. Refute it at one input. -/
def hkdfNoughtsWrong : ChangeSpec := { name := "hkdfNoughts", fn := fun _ => fun
  | [d1, d2, d3] => { results := [.lit (.bool false)], args := [d1, d2, d3] }
  | _ => none }
def HkdfNoughtsWrongFalsely : Prop := hkdfNoughtsRow.holds Tryd.pinned (OpenSpec.ofChange hkdfNoughtsWrong)

/-- 'redanlaw04.HkdfLong': WHATEVER THE INPUT: true; the input reads as it did. -/
def hkdfLongSpec : ChangeSpec := { name := "hkdfLong", fn := fun _ => fun
  | [d1, d2, d3] => { results := [.lit (.bool true)], args := [d1, d2, d3] }
  | _ => none }
def hkdfLongRow : OpenClaim := { program := "ytdhgkfmniebghaadoor", sum := "392890d7d17d0b984262c6c13d581b8d404c523079ceb92382078787c6b2d044", func := "redan/redanlaw04.HkdfLong", spec := "hkdfLong", named := ["redan/keccak.constants", "redan/keccak.turns"], apart := false, laid := [("redan/keccak.turns", laid_redan_keccak_turns), ("redan/keccak.constants", laid_redan_keccak_constants)] }
def HkdfLongSaid : Prop := hkdfLongRow.holds Tryd.pinned (OpenSpec.ofChange hkdfLongSpec)

/-- ITS FALSE NEIGHBOUR: 'it returns false'. Refute it at one input. -/
def hkdfLongWrong : ChangeSpec := { name := "hkdfLong", fn := fun _ => fun
  | [d1, d2, d3] => { results := [.lit (.bool false)], args := [d1, d2, d3] }
  | _ => none }
def HkdfLongWrongFalsely : Prop := hkdfLongRow.holds Tryd.pinned (OpenSpec.ofChange hkdfLongWrong)

/-- 'redanlaw04.HkdfChain': WHATEVER THE INPUT: true; the input reads as it did. -/
def hkdfChainSpec : ChangeSpec := { name := "hkdfChain", fn := fun _ => fun
  | [d1, d2] => { results := [.lit (.bool true)], args := [d1, d2] }
  | _ => none }
def hkdfChainRow : OpenClaim := { program := "ytdhgkfmniebghaadoor", sum := "392890d7d17d0b984262c6c13d581b8d404c523079ceb92382078787c6b2d044", func := "redan/redanlaw04.HkdfChain", spec := "hkdfChain", named := ["redan/keccak.constants", "redan/keccak.turns"], apart := false, laid := [("redan/keccak.turns", laid_redan_keccak_turns), ("redan/keccak.constants", laid_redan_keccak_constants)] }
def HkdfChainSaid : Prop := hkdfChainRow.holds Tryd.pinned (OpenSpec.ofChange hkdfChainSpec)

/-- ITS FALSE NEIGHBOUR: 'it returns false'. Refute it at one input. -/
def hkdfChainWrong : ChangeSpec := { name := "hkdfChain", fn := fun _ => fun
  | [d1, d2] => { results := [.lit (.bool false)], args := [d1, d2] }
  | _ => none }
def HkdfChainWrongFalsely : Prop := hkdfChainRow.holds Tryd.pinned (OpenSpec.ofChange hkdfChainWrong)

/-- 'redanlaw21.CookieMakes': WHATEVER THE INPUT: true; the input reads as it did. -/
def cookieMakesSpec : ChangeSpec := { name := "cookieMakes", fn := fun _ => fun
  | [d1, d2, d3, d4, d5] => { results := [.lit (.bool true)], args := [d1, d2, d3, d4, d5] }
  | _ => none }
def cookieMakesRow : OpenClaim := { program := "ytdhgkfmniebghaadoor", sum := "392890d7d17d0b984262c6c13d581b8d404c523079ceb92382078787c6b2d044", func := "redan/redanlaw21.CookieMakes", spec := "cookieMakes", named := ["redan/keccak.constants", "redan/keccak.turns"], apart := false, laid := [("redan/keccak.turns", laid_redan_keccak_turns), ("redan/keccak.constants", laid_redan_keccak_constants)] }
def CookieMakesSaid : Prop := cookieMakesRow.holds Tryd.pinned (OpenSpec.ofChange cookieMakesSpec)

/-- ITS FALSE NEIGHBOUR: 'it returns false'. Refute it at one input. -/
def cookieMakesWrong : ChangeSpec := { name := "cookieMakes", fn := fun _ => fun
  | [d1, d2, d3, d4, d5] => { results := [.lit (.bool false)], args := [d1, d2, d3, d4, d5] }
  | _ => none }
def CookieMakesWrongFalsely : Prop := cookieMakesRow.holds Tryd.pinned (OpenSpec.ofChange cookieMakesWrong)

/-- 'redanlaw21.CookieValid': WHATEVER THE INPUT: true; the input reads as it did. -/
def cookieValidSpec : ChangeSpec := { name := "cookieValid", fn := fun _ => fun
  | [d1, d2, d3, d4, d5, d6, d7, d8] => { results := [.lit (.bool true)], args := [d1, d2, d3, d4, d5, d6, d7, d8] }
  | _ => none }
def cookieValidRow : OpenClaim := { program := "ytdhgkfmniebghaadoor", sum := "392890d7d17d0b984262c6c13d581b8d404c523079ceb92382078787c6b2d044", func := "redan/redanlaw21.CookieValid", spec := "cookieValid", named := ["redan/keccak.constants", "redan/keccak.turns"], apart := false, laid := [("redan/keccak.turns", laid_redan_keccak_turns), ("redan/keccak.constants", laid_redan_keccak_constants)] }
def CookieValidSaid : Prop := cookieValidRow.holds Tryd.pinned (OpenSpec.ofChange cookieValidSpec)

/-- ITS FALSE NEIGHBOUR: 'it returns false'. Refute it at one input. -/
def cookieValidWrong : ChangeSpec := { name := "cookieValid", fn := fun _ => fun
  | [d1, d2, d3, d4, d5, d6, d7, d8] => { results := [.lit (.bool false)], args := [d1, d2, d3, d4, d5, d6, d7, d8] }
  | _ => none }
def CookieValidWrongFalsely : Prop := cookieValidRow.holds Tryd.pinned (OpenSpec.ofChange cookieValidWrong)

/-- 'redanlaw21.CookieLasts': WHATEVER THE INPUT: true; the input reads as it did. -/
def cookieLastsSpec : ChangeSpec := { name := "cookieLasts", fn := fun _ => fun
  | [d1, d2, d3, d4, d5, d6] => { results := [.lit (.bool true)], args := [d1, d2, d3, d4, d5, d6] }
  | _ => none }
def cookieLastsRow : OpenClaim := { program := "ytdhgkfmniebghaadoor", sum := "392890d7d17d0b984262c6c13d581b8d404c523079ceb92382078787c6b2d044", func := "redan/redanlaw21.CookieLasts", spec := "cookieLasts", named := ["redan/keccak.constants", "redan/keccak.turns"], apart := false, laid := [("redan/keccak.turns", laid_redan_keccak_turns), ("redan/keccak.constants", laid_redan_keccak_constants)] }
def CookieLastsSaid : Prop := cookieLastsRow.holds Tryd.pinned (OpenSpec.ofChange cookieLastsSpec)

/-- ITS FALSE NEIGHBOUR: 'it returns false'. Refute it at one input. -/
def cookieLastsWrong : ChangeSpec := { name := "cookieLasts", fn := fun _ => fun
  | [d1, d2, d3, d4, d5, d6] => { results := [.lit (.bool false)], args := [d1, d2, d3, d4, d5, d6] }
  | _ => none }
def CookieLastsWrongFalsely : Prop := cookieLastsRow.holds Tryd.pinned (OpenSpec.ofChange cookieLastsWrong)

/-- 'redanlaw21.CookieEpochs': WHATEVER THE INPUT: true; the input reads as it did. -/
def cookieEpochsSpec : ChangeSpec := { name := "cookieEpochs", fn := fun _ => fun
  | [d1, d2] => { results := [.lit (.bool true)], args := [d1, d2] }
  | _ => none }
def cookieEpochsRow : OpenClaim := { program := "ytdhgkfmniebghaadoor", sum := "392890d7d17d0b984262c6c13d581b8d404c523079ceb92382078787c6b2d044", func := "redan/redanlaw21.CookieEpochs", spec := "cookieEpochs", named := ["redan/keccak.constants", "redan/keccak.turns"], apart := false, laid := [("redan/keccak.turns", laid_redan_keccak_turns), ("redan/keccak.constants", laid_redan_keccak_constants)] }
def CookieEpochsSaid : Prop := cookieEpochsRow.holds Tryd.pinned (OpenSpec.ofChange cookieEpochsSpec)

/-- ITS FALSE NEIGHBOUR: 'it returns false'. Refute it at one input. -/
def cookieEpochsWrong : ChangeSpec := { name := "cookieEpochs", fn := fun _ => fun
  | [d1, d2] => { results := [.lit (.bool false)], args := [d1, d2] }
  | _ => none }
def CookieEpochsWrongFalsely : Prop := cookieEpochsRow.holds Tryd.pinned (OpenSpec.ofChange cookieEpochsWrong)

/- THE SECOND FORM. 'bulk': how many values and letters a reading holds, each counted each time it is reached (what is shared counts as often as it is met; a slice's spare places count too). A statement '..UptoSaid' is the law's where the arguments, and the package variables that the reading takes, are together of bulk at most 1048576: NARROWER than '..Said'. Prove '..Said' where nothing that the law and all that it calls make is longer than what came in: it says more and counts as full. Else prove '..UptoSaid'. A law counts once. -/
mutual
def uptoBulk {H : Type} : DataW H → Nat
  | .lit (.string bytes) => bytes.length + 1
  | .lit _ => 1
  | .nil => 1
  | .ptr d => uptoBulk d + 1
  | .slice elems spare => uptoBulkAll elems + uptoBulkAll spare + 1
  | .agg parts => uptoBulkAll parts + 1
  | .iface _ d => uptoBulk d + 1
  | .map entries => uptoBulkEntries entries + 1
  | .held _ => 1
def uptoBulkAll {H : Type} : List (DataW H) → Nat
  | [] => 0
  | d :: r => uptoBulk d + uptoBulkAll r
def uptoBulkEntries {H : Type} : List (Lit × DataW H) → Nat
  | [] => 0
  | x :: r => uptoBulkEntry x + uptoBulkEntries r
def uptoBulkEntry {H : Type} : Lit × DataW H → Nat
  | (.string bytes, d) => bytes.length + uptoBulk d + 1
  | (_, d) => uptoBulk d + 1
 end
def uptoSmall : (H : Type) → List (DataW H) → Bool := fun _ ds => decide (uptoBulkAll ds ≤ 1048576)
def OpenSpec.upto (s : _root_.Go.ChangeSpec) : _root_.Go.OpenSpec := { _root_.Go.OpenSpec.ofChange s with cond := some uptoSmall }

/-- 'redanlaw03.SpongeAbsorbs', WHERE WHAT IT READS IS OF BULK AT MOST 1048576: true; the input reads as it did. -/
def spongeAbsorbsUptoRow : OpenClaim := { program := "ytdhgkfmniebghaadoor", sum := "392890d7d17d0b984262c6c13d581b8d404c523079ceb92382078787c6b2d044", func := "redan/redanlaw03.SpongeAbsorbs", spec := "spongeAbsorbs", named := ["redan/keccak.constants", "redan/keccak.turns"], apart := false, laid := [("redan/keccak.turns", laid_redan_keccak_turns), ("redan/keccak.constants", laid_redan_keccak_constants)], narrowed := true }
def SpongeAbsorbsUptoSaid : Prop := spongeAbsorbsUptoRow.holds Tryd.pinned (OpenSpec.upto spongeAbsorbsSpec)

/-- 'redanlaw03.SpongeSums', WHERE WHAT IT READS IS OF BULK AT MOST 1048576: true; the input reads as it did. -/
def spongeSumsUptoRow : OpenClaim := { program := "ytdhgkfmniebghaadoor", sum := "392890d7d17d0b984262c6c13d581b8d404c523079ceb92382078787c6b2d044", func := "redan/redanlaw03.SpongeSums", spec := "spongeSums", named := ["redan/keccak.constants", "redan/keccak.turns"], apart := false, laid := [("redan/keccak.turns", laid_redan_keccak_turns), ("redan/keccak.constants", laid_redan_keccak_constants)], narrowed := true }
def SpongeSumsUptoSaid : Prop := spongeSumsUptoRow.holds Tryd.pinned (OpenSpec.upto spongeSumsSpec)

/-- 'redanlaw03.SpongeReads', WHERE WHAT IT READS IS OF BULK AT MOST 1048576: true; the input reads as it did. -/
def spongeReadsUptoRow : OpenClaim := { program := "ytdhgkfmniebghaadoor", sum := "392890d7d17d0b984262c6c13d581b8d404c523079ceb92382078787c6b2d044", func := "redan/redanlaw03.SpongeReads", spec := "spongeReads", named := ["redan/keccak.constants", "redan/keccak.turns"], apart := false, laid := [("redan/keccak.turns", laid_redan_keccak_turns), ("redan/keccak.constants", laid_redan_keccak_constants)], narrowed := true }
def SpongeReadsUptoSaid : Prop := spongeReadsUptoRow.holds Tryd.pinned (OpenSpec.upto spongeReadsSpec)

/-- 'redanlaw03.SpongeNone', WHERE WHAT IT READS IS OF BULK AT MOST 1048576: true; the input reads as it did. -/
def spongeNoneUptoRow : OpenClaim := { program := "ytdhgkfmniebghaadoor", sum := "392890d7d17d0b984262c6c13d581b8d404c523079ceb92382078787c6b2d044", func := "redan/redanlaw03.SpongeNone", spec := "spongeNone", named := ["redan/keccak.constants", "redan/keccak.turns"], apart := false, laid := [("redan/keccak.turns", laid_redan_keccak_turns), ("redan/keccak.constants", laid_redan_keccak_constants)], narrowed := true }
def SpongeNoneUptoSaid : Prop := spongeNoneUptoRow.holds Tryd.pinned (OpenSpec.upto spongeNoneSpec)

/-- 'redanlaw03.SpongeLong', WHERE WHAT IT READS IS OF BULK AT MOST 1048576: true; the input reads as it did. -/
def spongeLongUptoRow : OpenClaim := { program := "ytdhgkfmniebghaadoor", sum := "392890d7d17d0b984262c6c13d581b8d404c523079ceb92382078787c6b2d044", func := "redan/redanlaw03.SpongeLong", spec := "spongeLong", named := ["redan/keccak.constants", "redan/keccak.turns"], apart := false, laid := [("redan/keccak.turns", laid_redan_keccak_turns), ("redan/keccak.constants", laid_redan_keccak_constants)], narrowed := true }
def SpongeLongUptoSaid : Prop := spongeLongUptoRow.holds Tryd.pinned (OpenSpec.upto spongeLongSpec)

/-- 'redanlaw04.HkdfMac', WHERE WHAT IT READS IS OF BULK AT MOST 1048576: true; the input reads as it did. -/
def hkdfMacUptoRow : OpenClaim := { program := "ytdhgkfmniebghaadoor", sum := "392890d7d17d0b984262c6c13d581b8d404c523079ceb92382078787c6b2d044", func := "redan/redanlaw04.HkdfMac", spec := "hkdfMac", named := ["redan/keccak.constants", "redan/keccak.turns"], apart := false, laid := [("redan/keccak.turns", laid_redan_keccak_turns), ("redan/keccak.constants", laid_redan_keccak_constants)], narrowed := true }
def HkdfMacUptoSaid : Prop := hkdfMacUptoRow.holds Tryd.pinned (OpenSpec.upto hkdfMacSpec)

/-- 'redanlaw04.HkdfKeys', WHERE WHAT IT READS IS OF BULK AT MOST 1048576: true; the input reads as it did. -/
def hkdfKeysUptoRow : OpenClaim := { program := "ytdhgkfmniebghaadoor", sum := "392890d7d17d0b984262c6c13d581b8d404c523079ceb92382078787c6b2d044", func := "redan/redanlaw04.HkdfKeys", spec := "hkdfKeys", named := ["redan/keccak.constants", "redan/keccak.turns"], apart := false, laid := [("redan/keccak.turns", laid_redan_keccak_turns), ("redan/keccak.constants", laid_redan_keccak_constants)], narrowed := true }
def HkdfKeysUptoSaid : Prop := hkdfKeysUptoRow.holds Tryd.pinned (OpenSpec.upto hkdfKeysSpec)

/-- 'redanlaw04.HkdfNoughts', WHERE WHAT IT READS IS OF BULK AT MOST 1048576: true; the input reads as it did. -/
def hkdfNoughtsUptoRow : OpenClaim := { program := "ytdhgkfmniebghaadoor", sum := "392890d7d17d0b984262c6c13d581b8d404c523079ceb92382078787c6b2d044", func := "redan/redanlaw04.HkdfNoughts", spec := "hkdfNoughts", named := ["redan/keccak.constants", "redan/keccak.turns"], apart := false, laid := [("redan/keccak.turns", laid_redan_keccak_turns), ("redan/keccak.constants", laid_redan_keccak_constants)], narrowed := true }
def HkdfNoughtsUptoSaid : Prop := hkdfNoughtsUptoRow.holds Tryd.pinned (OpenSpec.upto hkdfNoughtsSpec)

/-- 'redanlaw04.HkdfLong', WHERE WHAT IT READS IS OF BULK AT MOST 1048576: true; the input reads as it did. -/
def hkdfLongUptoRow : OpenClaim := { program := "ytdhgkfmniebghaadoor", sum := "392890d7d17d0b984262c6c13d581b8d404c523079ceb92382078787c6b2d044", func := "redan/redanlaw04.HkdfLong", spec := "hkdfLong", named := ["redan/keccak.constants", "redan/keccak.turns"], apart := false, laid := [("redan/keccak.turns", laid_redan_keccak_turns), ("redan/keccak.constants", laid_redan_keccak_constants)], narrowed := true }
def HkdfLongUptoSaid : Prop := hkdfLongUptoRow.holds Tryd.pinned (OpenSpec.upto hkdfLongSpec)

/-- 'redanlaw04.HkdfChain', WHERE WHAT IT READS IS OF BULK AT MOST 1048576: true; the input reads as it did. -/
def hkdfChainUptoRow : OpenClaim := { program := "ytdhgkfmniebghaadoor", sum := "392890d7d17d0b984262c6c13d581b8d404c523079ceb92382078787c6b2d044", func := "redan/redanlaw04.HkdfChain", spec := "hkdfChain", named := ["redan/keccak.constants", "redan/keccak.turns"], apart := false, laid := [("redan/keccak.turns", laid_redan_keccak_turns), ("redan/keccak.constants", laid_redan_keccak_constants)], narrowed := true }
def HkdfChainUptoSaid : Prop := hkdfChainUptoRow.holds Tryd.pinned (OpenSpec.upto hkdfChainSpec)

/-- 'redanlaw21.CookieMakes', WHERE WHAT IT READS IS OF BULK AT MOST 1048576: true; the input reads as it did. -/
def cookieMakesUptoRow : OpenClaim := { program := "ytdhgkfmniebghaadoor", sum := "392890d7d17d0b984262c6c13d581b8d404c523079ceb92382078787c6b2d044", func := "redan/redanlaw21.CookieMakes", spec := "cookieMakes", named := ["redan/keccak.constants", "redan/keccak.turns"], apart := false, laid := [("redan/keccak.turns", laid_redan_keccak_turns), ("redan/keccak.constants", laid_redan_keccak_constants)], narrowed := true }
def CookieMakesUptoSaid : Prop := cookieMakesUptoRow.holds Tryd.pinned (OpenSpec.upto cookieMakesSpec)

/-- 'redanlaw21.CookieValid', WHERE WHAT IT READS IS OF BULK AT MOST 1048576: true; the input reads as it did. -/
def cookieValidUptoRow : OpenClaim := { program := "ytdhgkfmniebghaadoor", sum := "392890d7d17d0b984262c6c13d581b8d404c523079ceb92382078787c6b2d044", func := "redan/redanlaw21.CookieValid", spec := "cookieValid", named := ["redan/keccak.constants", "redan/keccak.turns"], apart := false, laid := [("redan/keccak.turns", laid_redan_keccak_turns), ("redan/keccak.constants", laid_redan_keccak_constants)], narrowed := true }
def CookieValidUptoSaid : Prop := cookieValidUptoRow.holds Tryd.pinned (OpenSpec.upto cookieValidSpec)

/-- 'redanlaw21.CookieLasts', WHERE WHAT IT READS IS OF BULK AT MOST 1048576: true; the input reads as it did. -/
def cookieLastsUptoRow : OpenClaim := { program := "ytdhgkfmniebghaadoor", sum := "392890d7d17d0b984262c6c13d581b8d404c523079ceb92382078787c6b2d044", func := "redan/redanlaw21.CookieLasts", spec := "cookieLasts", named := ["redan/keccak.constants", "redan/keccak.turns"], apart := false, laid := [("redan/keccak.turns", laid_redan_keccak_turns), ("redan/keccak.constants", laid_redan_keccak_constants)], narrowed := true }
def CookieLastsUptoSaid : Prop := cookieLastsUptoRow.holds Tryd.pinned (OpenSpec.upto cookieLastsSpec)

/-- 'redanlaw21.CookieEpochs', WHERE WHAT IT READS IS OF BULK AT MOST 1048576: true; the input reads as it did. -/
def cookieEpochsUptoRow : OpenClaim := { program := "ytdhgkfmniebghaadoor", sum := "392890d7d17d0b984262c6c13d581b8d404c523079ceb92382078787c6b2d044", func := "redan/redanlaw21.CookieEpochs", spec := "cookieEpochs", named := ["redan/keccak.constants", "redan/keccak.turns"], apart := false, laid := [("redan/keccak.turns", laid_redan_keccak_turns), ("redan/keccak.constants", laid_redan_keccak_constants)], narrowed := true }
def CookieEpochsUptoSaid : Prop := cookieEpochsUptoRow.holds Tryd.pinned (OpenSpec.upto cookieEpochsSpec)

end Rows
end Go.Proofs.YtdhgkfmniebghaaDoor
