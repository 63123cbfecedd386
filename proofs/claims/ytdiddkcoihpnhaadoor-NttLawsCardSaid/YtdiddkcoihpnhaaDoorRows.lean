/-
  NARROWER THAN 'FOR EVERY INPUT', by the rows' own cells (each row's printed sentence says how): ZqRests: laid · ZqPowers: laid · ZqBarrett: laid · ZqMontgomery: laid · ZqCompresses: laid · ZqSpreads: laid · ZqZetas: laid · ZqFields: laid · NttSums: laid · NttForward: laid · NttInverse: laid · NttTimes: laid · NttProducts: laid · NttLaws: laid · NttPowers: laid.
  DERIVED. THE GIVEN ROWS OF THIS SEAT. 15 by the template 'for every input the law returns true; each argument reads behind the call as it read before'; 0 by the template 'total and deterministic' (their statements: YtdiddkcoihpnhaaDoorTotals.lean).
  GIVEN WITH THE SEED: the statements are not yours to turn. If you find one false, say at which input.
  Laid BY PROGRAM, IN A SANDBOX (cutbox-rows.mjs): the forced cells as the released guide's own fill.sh prints them over the translation a53b280f96a629a2… (all of the seat's roots in one cut). By AI agents, Wed Nov 11 2026. No macro, syntax, notation, axiom, sorry.
-/
import Derived.Test.YtdiddkcoihpnhaaDoorChecked
import GoSem.Claim
import GoSem.ClaimJoined
import GoSem.ClaimMapViews
import Derived.JoinedTies
import Derived.KernelRfl
namespace Go.Proofs.YtdiddkcoihpnhaaDoor
/- THE CELL 'sum', in the pinned program and in every row, IS THE sha256 OF THE DUMP (.gsa) THAT YtdiddkcoihpnhaaDoorProg.lean LOADS. Nothing in Lean hashes anything: it is a label: what it is worth is what the hold of that sum in a sandbox is worth. -/
noncomputable def Tryd.pinned : Pinned := { name := "ytdiddkcoihpnhaadoor", sum := "a53b280f96a629a27b1502b52d594cc5fbe57bc593d7d3a75398676050f3ae55", checked := Tryd.checked }
namespace Rows
def none {H : Type} : Left H := { results := [], args := [] }

/- WHAT THE LISTED PACKAGE-LEVEL VARIABLES READ AS WHEN THE CALL BEGINS. Each datum BY PROGRAM (the guide's laid-datum.mjs) off the statement by which the dump's own 'gosem.cut.vars' lays the variable. In a bare row this is a premise. The card (YtdiddkcoihpnhaaDoorCards.lean) ties it to the program's text. -/
def laid_redan_zq_powers {H : Type} : DataW H := .agg [.lit (.int .i64 1729), .lit (.int .i64 2580), .lit (.int .i64 2642), .lit (.int .i64 1062), .lit (.int .i64 296), .lit (.int .i64 289), .lit (.int .i64 17)]

/-- 'redanlaw10.ZqRests': WHATEVER THE INPUT: true; the input reads as it did. -/
def zqRestsSpec : ChangeSpec := { name := "zqRests", fn := fun _ => fun
  | [d1, d2] => { results := [.lit (.bool true)], args := [d1, d2] }
  | _ => none }
def zqRestsRow : OpenClaim := { program := "ytdiddkcoihpnhaadoor", sum := "a53b280f96a629a27b1502b52d594cc5fbe57bc593d7d3a75398676050f3ae55", func := "redan/redanlaw10.ZqRests", spec := "zqRests", named := ["redan/zq.powers"], apart := false, laid := [("redan/zq.powers", laid_redan_zq_powers)] }
def ZqRestsSaid : Prop := zqRestsRow.holds Tryd.pinned (OpenSpec.ofChange zqRestsSpec)

/-- ITS FALSE NEIGHBOUR: 'it returns false'. Refute it at one input. -/
def zqRestsWrong : ChangeSpec := { name := "zqRests", fn := fun _ => fun
  | [d1, d2] => { results := [.lit (.bool false)], args := [d1, d2] }
  | _ => none }
def ZqRestsWrongFalsely : Prop := zqRestsRow.holds Tryd.pinned (OpenSpec.ofChange zqRestsWrong)

/-- 'redanlaw10.ZqPowers': WHATEVER THE INPUT: true; the input reads as it did. -/
def zqPowersSpec : ChangeSpec := { name := "zqPowers", fn := fun _ => fun
  | [d1, d2] => { results := [.lit (.bool true)], args := [d1, d2] }
  | _ => none }
def zqPowersRow : OpenClaim := { program := "ytdiddkcoihpnhaadoor", sum := "a53b280f96a629a27b1502b52d594cc5fbe57bc593d7d3a75398676050f3ae55", func := "redan/redanlaw10.ZqPowers", spec := "zqPowers", named := ["redan/zq.powers"], apart := false, laid := [("redan/zq.powers", laid_redan_zq_powers)] }
def ZqPowersSaid : Prop := zqPowersRow.holds Tryd.pinned (OpenSpec.ofChange zqPowersSpec)

/-- ITS FALSE NEIGHBOUR: 'it returns false'. Refute it at one input. -/
def zqPowersWrong : ChangeSpec := { name := "zqPowers", fn := fun _ => fun
  | [d1, d2] => { results := [.lit (.bool false)], args := [d1, d2] }
  | _ => none }
def ZqPowersWrongFalsely : Prop := zqPowersRow.holds Tryd.pinned (OpenSpec.ofChange zqPowersWrong)

/-- 'redanlaw10.ZqBarrett': WHATEVER THE INPUT: true; the input reads as it did. -/
def zqBarrettSpec : ChangeSpec := { name := "zqBarrett", fn := fun _ => fun
  | [d] => { results := [.lit (.bool true)], args := [d] }
  | _ => none }
def zqBarrettRow : OpenClaim := { program := "ytdiddkcoihpnhaadoor", sum := "a53b280f96a629a27b1502b52d594cc5fbe57bc593d7d3a75398676050f3ae55", func := "redan/redanlaw10.ZqBarrett", spec := "zqBarrett", named := ["redan/zq.powers"], apart := false, laid := [("redan/zq.powers", laid_redan_zq_powers)] }
def ZqBarrettSaid : Prop := zqBarrettRow.holds Tryd.pinned (OpenSpec.ofChange zqBarrettSpec)

/-- ITS FALSE NEIGHBOUR: 'it returns false'. Refute it at one input. -/
def zqBarrettWrong : ChangeSpec := { name := "zqBarrett", fn := fun _ => fun
  | [d] => { results := [.lit (.bool false)], args := [d] }
  | _ => none }
def ZqBarrettWrongFalsely : Prop := zqBarrettRow.holds Tryd.pinned (OpenSpec.ofChange zqBarrettWrong)

/-- 'redanlaw10.ZqMontgomery': WHATEVER THE INPUT: true; the input reads as it did. -/
def zqMontgomerySpec : ChangeSpec := { name := "zqMontgomery", fn := fun _ => fun
  | [d] => { results := [.lit (.bool true)], args := [d] }
  | _ => none }
def zqMontgomeryRow : OpenClaim := { program := "ytdiddkcoihpnhaadoor", sum := "a53b280f96a629a27b1502b52d594cc5fbe57bc593d7d3a75398676050f3ae55", func := "redan/redanlaw10.ZqMontgomery", spec := "zqMontgomery", named := ["redan/zq.powers"], apart := false, laid := [("redan/zq.powers", laid_redan_zq_powers)] }
def ZqMontgomerySaid : Prop := zqMontgomeryRow.holds Tryd.pinned (OpenSpec.ofChange zqMontgomerySpec)

/-- ITS FALSE NEIGHBOUR: 'it returns false'. Refute it at one input. -/
def zqMontgomeryWrong : ChangeSpec := { name := "zqMontgomery", fn := fun _ => fun
  | [d] => { results := [.lit (.bool false)], args := [d] }
  | _ => none }
def ZqMontgomeryWrongFalsely : Prop := zqMontgomeryRow.holds Tryd.pinned (OpenSpec.ofChange zqMontgomeryWrong)

/-- 'redanlaw10.ZqCompresses': WHATEVER THE INPUT: true; the input reads as it did. -/
def zqCompressesSpec : ChangeSpec := { name := "zqCompresses", fn := fun _ => fun
  | [d1, d2] => { results := [.lit (.bool true)], args := [d1, d2] }
  | _ => none }
def zqCompressesRow : OpenClaim := { program := "ytdiddkcoihpnhaadoor", sum := "a53b280f96a629a27b1502b52d594cc5fbe57bc593d7d3a75398676050f3ae55", func := "redan/redanlaw10.ZqCompresses", spec := "zqCompresses", named := ["redan/zq.powers"], apart := false, laid := [("redan/zq.powers", laid_redan_zq_powers)] }
def ZqCompressesSaid : Prop := zqCompressesRow.holds Tryd.pinned (OpenSpec.ofChange zqCompressesSpec)

/-- ITS FALSE NEIGHBOUR: 'it returns false'. Refute it at one input. -/
def zqCompressesWrong : ChangeSpec := { name := "zqCompresses", fn := fun _ => fun
  | [d1, d2] => { results := [.lit (.bool false)], args := [d1, d2] }
  | _ => none }
def ZqCompressesWrongFalsely : Prop := zqCompressesRow.holds Tryd.pinned (OpenSpec.ofChange zqCompressesWrong)

/-- 'redanlaw10.ZqSpreads': WHATEVER THE INPUT: true; the input reads as it did. -/
def zqSpreadsSpec : ChangeSpec := { name := "zqSpreads", fn := fun _ => fun
  | [d1, d2] => { results := [.lit (.bool true)], args := [d1, d2] }
  | _ => none }
def zqSpreadsRow : OpenClaim := { program := "ytdiddkcoihpnhaadoor", sum := "a53b280f96a629a27b1502b52d594cc5fbe57bc593d7d3a75398676050f3ae55", func := "redan/redanlaw10.ZqSpreads", spec := "zqSpreads", named := ["redan/zq.powers"], apart := false, laid := [("redan/zq.powers", laid_redan_zq_powers)] }
def ZqSpreadsSaid : Prop := zqSpreadsRow.holds Tryd.pinned (OpenSpec.ofChange zqSpreadsSpec)

/-- ITS FALSE NEIGHBOUR: 'it returns false'. Refute it at one input. -/
def zqSpreadsWrong : ChangeSpec := { name := "zqSpreads", fn := fun _ => fun
  | [d1, d2] => { results := [.lit (.bool false)], args := [d1, d2] }
  | _ => none }
def ZqSpreadsWrongFalsely : Prop := zqSpreadsRow.holds Tryd.pinned (OpenSpec.ofChange zqSpreadsWrong)

/-- 'redanlaw10.ZqZetas': WHATEVER THE INPUT: true; the input reads as it did. -/
def zqZetasSpec : ChangeSpec := { name := "zqZetas", fn := fun _ => fun
  | [d] => { results := [.lit (.bool true)], args := [d] }
  | _ => none }
def zqZetasRow : OpenClaim := { program := "ytdiddkcoihpnhaadoor", sum := "a53b280f96a629a27b1502b52d594cc5fbe57bc593d7d3a75398676050f3ae55", func := "redan/redanlaw10.ZqZetas", spec := "zqZetas", named := ["redan/zq.powers"], apart := false, laid := [("redan/zq.powers", laid_redan_zq_powers)] }
def ZqZetasSaid : Prop := zqZetasRow.holds Tryd.pinned (OpenSpec.ofChange zqZetasSpec)

/-- ITS FALSE NEIGHBOUR: 'it returns false'. Refute it at one input. -/
def zqZetasWrong : ChangeSpec := { name := "zqZetas", fn := fun _ => fun
  | [d] => { results := [.lit (.bool false)], args := [d] }
  | _ => none }
def ZqZetasWrongFalsely : Prop := zqZetasRow.holds Tryd.pinned (OpenSpec.ofChange zqZetasWrong)

/-- 'redanlaw10.ZqFields': WHATEVER THE INPUT: true; the input reads as it did. -/
def zqFieldsSpec : ChangeSpec := { name := "zqFields", fn := fun _ => fun
  | [d1, d2, d3] => { results := [.lit (.bool true)], args := [d1, d2, d3] }
  | _ => none }
def zqFieldsRow : OpenClaim := { program := "ytdiddkcoihpnhaadoor", sum := "a53b280f96a629a27b1502b52d594cc5fbe57bc593d7d3a75398676050f3ae55", func := "redan/redanlaw10.ZqFields", spec := "zqFields", named := ["redan/zq.powers"], apart := false, laid := [("redan/zq.powers", laid_redan_zq_powers)] }
def ZqFieldsSaid : Prop := zqFieldsRow.holds Tryd.pinned (OpenSpec.ofChange zqFieldsSpec)

/-- ITS FALSE NEIGHBOUR: 'it returns false'. Refute it at one input. -/
def zqFieldsWrong : ChangeSpec := { name := "zqFields", fn := fun _ => fun
  | [d1, d2, d3] => { results := [.lit (.bool false)], args := [d1, d2, d3] }
  | _ => none }
def ZqFieldsWrongFalsely : Prop := zqFieldsRow.holds Tryd.pinned (OpenSpec.ofChange zqFieldsWrong)

/-- 'redanlaw11.NttSums': WHATEVER THE INPUT: true; the input reads as it did. -/
def nttSumsSpec : ChangeSpec := { name := "nttSums", fn := fun _ => fun
  | [d1, d2] => { results := [.lit (.bool true)], args := [d1, d2] }
  | _ => none }
def nttSumsRow : OpenClaim := { program := "ytdiddkcoihpnhaadoor", sum := "a53b280f96a629a27b1502b52d594cc5fbe57bc593d7d3a75398676050f3ae55", func := "redan/redanlaw11.NttSums", spec := "nttSums", unfollowed := true, recurses := true, named := ["redan/zq.powers"], apart := false, laid := [("redan/zq.powers", laid_redan_zq_powers)] }
def NttSumsSaid : Prop := nttSumsRow.holds Tryd.pinned (OpenSpec.ofChange nttSumsSpec)

/-- ITS FALSE NEIGHBOUR: 'it returns false'. Refute it at one input. -/
def nttSumsWrong : ChangeSpec := { name := "nttSums", fn := fun _ => fun
  | [d1, d2] => { results := [.lit (.bool false)], args := [d1, d2] }
  | _ => none }
def NttSumsWrongFalsely : Prop := nttSumsRow.holds Tryd.pinned (OpenSpec.ofChange nttSumsWrong)

/-- 'redanlaw11.NttForward': WHATEVER THE INPUT: true; the input reads as it did. -/
def nttForwardSpec : ChangeSpec := { name := "nttForward", fn := fun _ => fun
  | [d] => { results := [.lit (.bool true)], args := [d] }
  | _ => none }
def nttForwardRow : OpenClaim := { program := "ytdiddkcoihpnhaadoor", sum := "a53b280f96a629a27b1502b52d594cc5fbe57bc593d7d3a75398676050f3ae55", func := "redan/redanlaw11.NttForward", spec := "nttForward", unfollowed := true, recurses := true, named := ["redan/zq.powers"], apart := false, laid := [("redan/zq.powers", laid_redan_zq_powers)] }
def NttForwardSaid : Prop := nttForwardRow.holds Tryd.pinned (OpenSpec.ofChange nttForwardSpec)

/-- ITS FALSE NEIGHBOUR: 'it returns false'. Refute it at one input. -/
def nttForwardWrong : ChangeSpec := { name := "nttForward", fn := fun _ => fun
  | [d] => { results := [.lit (.bool false)], args := [d] }
  | _ => none }
def NttForwardWrongFalsely : Prop := nttForwardRow.holds Tryd.pinned (OpenSpec.ofChange nttForwardWrong)

/-- 'redanlaw11.NttInverse': WHATEVER THE INPUT: true; the input reads as it did. -/
def nttInverseSpec : ChangeSpec := { name := "nttInverse", fn := fun _ => fun
  | [d] => { results := [.lit (.bool true)], args := [d] }
  | _ => none }
def nttInverseRow : OpenClaim := { program := "ytdiddkcoihpnhaadoor", sum := "a53b280f96a629a27b1502b52d594cc5fbe57bc593d7d3a75398676050f3ae55", func := "redan/redanlaw11.NttInverse", spec := "nttInverse", unfollowed := true, recurses := true, named := ["redan/zq.powers"], apart := false, laid := [("redan/zq.powers", laid_redan_zq_powers)] }
def NttInverseSaid : Prop := nttInverseRow.holds Tryd.pinned (OpenSpec.ofChange nttInverseSpec)

/-- ITS FALSE NEIGHBOUR: 'it returns false'. Refute it at one input. -/
def nttInverseWrong : ChangeSpec := { name := "nttInverse", fn := fun _ => fun
  | [d] => { results := [.lit (.bool false)], args := [d] }
  | _ => none }
def NttInverseWrongFalsely : Prop := nttInverseRow.holds Tryd.pinned (OpenSpec.ofChange nttInverseWrong)

/-- 'redanlaw11.NttTimes': WHATEVER THE INPUT: true; the input reads as it did. -/
def nttTimesSpec : ChangeSpec := { name := "nttTimes", fn := fun _ => fun
  | [d1, d2] => { results := [.lit (.bool true)], args := [d1, d2] }
  | _ => none }
def nttTimesRow : OpenClaim := { program := "ytdiddkcoihpnhaadoor", sum := "a53b280f96a629a27b1502b52d594cc5fbe57bc593d7d3a75398676050f3ae55", func := "redan/redanlaw11.NttTimes", spec := "nttTimes", unfollowed := true, recurses := true, named := ["redan/zq.powers"], apart := false, laid := [("redan/zq.powers", laid_redan_zq_powers)] }
def NttTimesSaid : Prop := nttTimesRow.holds Tryd.pinned (OpenSpec.ofChange nttTimesSpec)

/-- ITS FALSE NEIGHBOUR: 'it returns false'. Refute it at one input. -/
def nttTimesWrong : ChangeSpec := { name := "nttTimes", fn := fun _ => fun
  | [d1, d2] => { results := [.lit (.bool false)], args := [d1, d2] }
  | _ => none }
def NttTimesWrongFalsely : Prop := nttTimesRow.holds Tryd.pinned (OpenSpec.ofChange nttTimesWrong)

/-- 'redanlaw11.NttProducts': WHATEVER THE INPUT: true; the input reads as it did. -/
def nttProductsSpec : ChangeSpec := { name := "nttProducts", fn := fun _ => fun
  | [d1, d2] => { results := [.lit (.bool true)], args := [d1, d2] }
  | _ => none }
def nttProductsRow : OpenClaim := { program := "ytdiddkcoihpnhaadoor", sum := "a53b280f96a629a27b1502b52d594cc5fbe57bc593d7d3a75398676050f3ae55", func := "redan/redanlaw11.NttProducts", spec := "nttProducts", unfollowed := true, recurses := true, named := ["redan/zq.powers"], apart := false, laid := [("redan/zq.powers", laid_redan_zq_powers)] }
def NttProductsSaid : Prop := nttProductsRow.holds Tryd.pinned (OpenSpec.ofChange nttProductsSpec)

/-- ITS FALSE NEIGHBOUR: 'it returns false'. Refute it at one input. -/
def nttProductsWrong : ChangeSpec := { name := "nttProducts", fn := fun _ => fun
  | [d1, d2] => { results := [.lit (.bool false)], args := [d1, d2] }
  | _ => none }
def NttProductsWrongFalsely : Prop := nttProductsRow.holds Tryd.pinned (OpenSpec.ofChange nttProductsWrong)

/-- 'redanlaw11.NttLaws': WHATEVER THE INPUT: true; the input reads as it did. -/
def nttLawsSpec : ChangeSpec := { name := "nttLaws", fn := fun _ => fun
  | [d1, d2, d3] => { results := [.lit (.bool true)], args := [d1, d2, d3] }
  | _ => none }
def nttLawsRow : OpenClaim := { program := "ytdiddkcoihpnhaadoor", sum := "a53b280f96a629a27b1502b52d594cc5fbe57bc593d7d3a75398676050f3ae55", func := "redan/redanlaw11.NttLaws", spec := "nttLaws", unfollowed := true, recurses := true, named := ["redan/zq.powers"], apart := false, laid := [("redan/zq.powers", laid_redan_zq_powers)] }
def NttLawsSaid : Prop := nttLawsRow.holds Tryd.pinned (OpenSpec.ofChange nttLawsSpec)

/-- ITS FALSE NEIGHBOUR: 'it returns false'. Refute it at one input. -/
def nttLawsWrong : ChangeSpec := { name := "nttLaws", fn := fun _ => fun
  | [d1, d2, d3] => { results := [.lit (.bool false)], args := [d1, d2, d3] }
  | _ => none }
def NttLawsWrongFalsely : Prop := nttLawsRow.holds Tryd.pinned (OpenSpec.ofChange nttLawsWrong)

/-- 'redanlaw11.NttPowers': WHATEVER THE INPUT: true; the input reads as it did. -/
def nttPowersSpec : ChangeSpec := { name := "nttPowers", fn := fun _ => fun
  | [d1, d2, d3] => { results := [.lit (.bool true)], args := [d1, d2, d3] }
  | _ => none }
def nttPowersRow : OpenClaim := { program := "ytdiddkcoihpnhaadoor", sum := "a53b280f96a629a27b1502b52d594cc5fbe57bc593d7d3a75398676050f3ae55", func := "redan/redanlaw11.NttPowers", spec := "nttPowers", unfollowed := true, recurses := true, named := ["redan/zq.powers"], apart := false, laid := [("redan/zq.powers", laid_redan_zq_powers)] }
def NttPowersSaid : Prop := nttPowersRow.holds Tryd.pinned (OpenSpec.ofChange nttPowersSpec)

/-- ITS FALSE NEIGHBOUR: 'it returns false'. Refute it at one input. -/
def nttPowersWrong : ChangeSpec := { name := "nttPowers", fn := fun _ => fun
  | [d1, d2, d3] => { results := [.lit (.bool false)], args := [d1, d2, d3] }
  | _ => none }
def NttPowersWrongFalsely : Prop := nttPowersRow.holds Tryd.pinned (OpenSpec.ofChange nttPowersWrong)

/- THE SECOND FORM. 'bulk': how many values and letters a reading holds, each counted each time it is reached (what is shared counts as often as it is met; a slice's spare places count too). A statement '..UptoSaid' is the law's where the arguments, and the package variables that the reading takes, are together of bulk at most 1048576: NARROWER than '..Said'. Prove '..Said' where nothing that the law and all that it calls make is longer than what came in: it says more and counts as full. Else prove '..UptoSaid'. A law counts once. -/
mutual
def uptoBulk {H : Type} : DataW H → Nat
  | .lit (.string bytes) => bytes.length + 1
  | .lit _ => 1
  | .nil => 1
  | .ptr d => uptoBulk d + 1
  | .slice elems spare => uptoBulkAll elems + uptoBulkAll spare + 1
  | .agg parts => uptoBulkAll parts + 1
  | .iface _ d => uptoBulk d + 1
  | .map entries => uptoBulkEntries entries + 1
  | .held _ => 1
def uptoBulkAll {H : Type} : List (DataW H) → Nat
  | [] => 0
  | d :: r => uptoBulk d + uptoBulkAll r
def uptoBulkEntries {H : Type} : List (Lit × DataW H) → Nat
  | [] => 0
  | x :: r => uptoBulkEntry x + uptoBulkEntries r
def uptoBulkEntry {H : Type} : Lit × DataW H → Nat
  | (.string bytes, d) => bytes.length + uptoBulk d + 1
  | (_, d) => uptoBulk d + 1
 end
def uptoSmall : (H : Type) → List (DataW H) → Bool := fun _ ds => decide (uptoBulkAll ds ≤ 1048576)
def OpenSpec.upto (s : _root_.Go.ChangeSpec) : _root_.Go.OpenSpec := { _root_.Go.OpenSpec.ofChange s with cond := some uptoSmall }

/-- 'redanlaw10.ZqRests', WHERE WHAT IT READS IS OF BULK AT MOST 1048576: true; the input reads as it did. -/
def zqRestsUptoRow : OpenClaim := { program := "ytdiddkcoihpnhaadoor", sum := "a53b280f96a629a27b1502b52d594cc5fbe57bc593d7d3a75398676050f3ae55", func := "redan/redanlaw10.ZqRests", spec := "zqRests", named := ["redan/zq.powers"], apart := false, laid := [("redan/zq.powers", laid_redan_zq_powers)], narrowed := true }
def ZqRestsUptoSaid : Prop := zqRestsUptoRow.holds Tryd.pinned (OpenSpec.upto zqRestsSpec)

/-- 'redanlaw10.ZqPowers', WHERE WHAT IT READS IS OF BULK AT MOST 1048576: true; the input reads as it did. -/
def zqPowersUptoRow : OpenClaim := { program := "ytdiddkcoihpnhaadoor", sum := "a53b280f96a629a27b1502b52d594cc5fbe57bc593d7d3a75398676050f3ae55", func := "redan/redanlaw10.ZqPowers", spec := "zqPowers", named := ["redan/zq.powers"], apart := false, laid := [("redan/zq.powers", laid_redan_zq_powers)], narrowed := true }
def ZqPowersUptoSaid : Prop := zqPowersUptoRow.holds Tryd.pinned (OpenSpec.upto zqPowersSpec)

/-- 'redanlaw10.ZqBarrett', WHERE WHAT IT READS IS OF BULK AT MOST 1048576: true; the input reads as it did. -/
def zqBarrettUptoRow : OpenClaim := { program := "ytdiddkcoihpnhaadoor", sum := "a53b280f96a629a27b1502b52d594cc5fbe57bc593d7d3a75398676050f3ae55", func := "redan/redanlaw10.ZqBarrett", spec := "zqBarrett", named := ["redan/zq.powers"], apart := false, laid := [("redan/zq.powers", laid_redan_zq_powers)], narrowed := true }
def ZqBarrettUptoSaid : Prop := zqBarrettUptoRow.holds Tryd.pinned (OpenSpec.upto zqBarrettSpec)

/-- 'redanlaw10.ZqMontgomery', WHERE WHAT IT READS IS OF BULK AT MOST 1048576: true; the input reads as it did. -/
def zqMontgomeryUptoRow : OpenClaim := { program := "ytdiddkcoihpnhaadoor", sum := "a53b280f96a629a27b1502b52d594cc5fbe57bc593d7d3a75398676050f3ae55", func := "redan/redanlaw10.ZqMontgomery", spec := "zqMontgomery", named := ["redan/zq.powers"], apart := false, laid := [("redan/zq.powers", laid_redan_zq_powers)], narrowed := true }
def ZqMontgomeryUptoSaid : Prop := zqMontgomeryUptoRow.holds Tryd.pinned (OpenSpec.upto zqMontgomerySpec)

/-- 'redanlaw10.ZqCompresses', WHERE WHAT IT READS IS OF BULK AT MOST 1048576: true; the input reads as it did. -/
def zqCompressesUptoRow : OpenClaim := { program := "ytdiddkcoihpnhaadoor", sum := "a53b280f96a629a27b1502b52d594cc5fbe57bc593d7d3a75398676050f3ae55", func := "redan/redanlaw10.ZqCompresses", spec := "zqCompresses", named := ["redan/zq.powers"], apart := false, laid := [("redan/zq.powers", laid_redan_zq_powers)], narrowed := true }
def ZqCompressesUptoSaid : Prop := zqCompressesUptoRow.holds Tryd.pinned (OpenSpec.upto zqCompressesSpec)

/-- 'redanlaw10.ZqSpreads', WHERE WHAT IT READS IS OF BULK AT MOST 1048576: true; the input reads as it did. -/
def zqSpreadsUptoRow : OpenClaim := { program := "ytdiddkcoihpnhaadoor", sum := "a53b280f96a629a27b1502b52d594cc5fbe57bc593d7d3a75398676050f3ae55", func := "redan/redanlaw10.ZqSpreads", spec := "zqSpreads", named := ["redan/zq.powers"], apart := false, laid := [("redan/zq.powers", laid_redan_zq_powers)], narrowed := true }
def ZqSpreadsUptoSaid : Prop := zqSpreadsUptoRow.holds Tryd.pinned (OpenSpec.upto zqSpreadsSpec)

/-- 'redanlaw10.ZqZetas', WHERE WHAT IT READS IS OF BULK AT MOST 1048576: true; the input reads as it did. -/
def zqZetasUptoRow : OpenClaim := { program := "ytdiddkcoihpnhaadoor", sum := "a53b280f96a629a27b1502b52d594cc5fbe57bc593d7d3a75398676050f3ae55", func := "redan/redanlaw10.ZqZetas", spec := "zqZetas", named := ["redan/zq.powers"], apart := false, laid := [("redan/zq.powers", laid_redan_zq_powers)], narrowed := true }
def ZqZetasUptoSaid : Prop := zqZetasUptoRow.holds Tryd.pinned (OpenSpec.upto zqZetasSpec)

/-- 'redanlaw10.ZqFields', WHERE WHAT IT READS IS OF BULK AT MOST 1048576: true; the input reads as it did. -/
def zqFieldsUptoRow : OpenClaim := { program := "ytdiddkcoihpnhaadoor", sum := "a53b280f96a629a27b1502b52d594cc5fbe57bc593d7d3a75398676050f3ae55", func := "redan/redanlaw10.ZqFields", spec := "zqFields", named := ["redan/zq.powers"], apart := false, laid := [("redan/zq.powers", laid_redan_zq_powers)], narrowed := true }
def ZqFieldsUptoSaid : Prop := zqFieldsUptoRow.holds Tryd.pinned (OpenSpec.upto zqFieldsSpec)

/-- 'redanlaw11.NttSums', WHERE WHAT IT READS IS OF BULK AT MOST 1048576: true; the input reads as it did. -/
def nttSumsUptoRow : OpenClaim := { program := "ytdiddkcoihpnhaadoor", sum := "a53b280f96a629a27b1502b52d594cc5fbe57bc593d7d3a75398676050f3ae55", func := "redan/redanlaw11.NttSums", spec := "nttSums", unfollowed := true, recurses := true, named := ["redan/zq.powers"], apart := false, laid := [("redan/zq.powers", laid_redan_zq_powers)], narrowed := true }
def NttSumsUptoSaid : Prop := nttSumsUptoRow.holds Tryd.pinned (OpenSpec.upto nttSumsSpec)

/-- 'redanlaw11.NttForward', WHERE WHAT IT READS IS OF BULK AT MOST 1048576: true; the input reads as it did. -/
def nttForwardUptoRow : OpenClaim := { program := "ytdiddkcoihpnhaadoor", sum := "a53b280f96a629a27b1502b52d594cc5fbe57bc593d7d3a75398676050f3ae55", func := "redan/redanlaw11.NttForward", spec := "nttForward", unfollowed := true, recurses := true, named := ["redan/zq.powers"], apart := false, laid := [("redan/zq.powers", laid_redan_zq_powers)], narrowed := true }
def NttForwardUptoSaid : Prop := nttForwardUptoRow.holds Tryd.pinned (OpenSpec.upto nttForwardSpec)

/-- 'redanlaw11.NttInverse', WHERE WHAT IT READS IS OF BULK AT MOST 1048576: true; the input reads as it did. -/
def nttInverseUptoRow : OpenClaim := { program := "ytdiddkcoihpnhaadoor", sum := "a53b280f96a629a27b1502b52d594cc5fbe57bc593d7d3a75398676050f3ae55", func := "redan/redanlaw11.NttInverse", spec := "nttInverse", unfollowed := true, recurses := true, named := ["redan/zq.powers"], apart := false, laid := [("redan/zq.powers", laid_redan_zq_powers)], narrowed := true }
def NttInverseUptoSaid : Prop := nttInverseUptoRow.holds Tryd.pinned (OpenSpec.upto nttInverseSpec)

/-- 'redanlaw11.NttTimes', WHERE WHAT IT READS IS OF BULK AT MOST 1048576: true; the input reads as it did. -/
def nttTimesUptoRow : OpenClaim := { program := "ytdiddkcoihpnhaadoor", sum := "a53b280f96a629a27b1502b52d594cc5fbe57bc593d7d3a75398676050f3ae55", func := "redan/redanlaw11.NttTimes", spec := "nttTimes", unfollowed := true, recurses := true, named := ["redan/zq.powers"], apart := false, laid := [("redan/zq.powers", laid_redan_zq_powers)], narrowed := true }
def NttTimesUptoSaid : Prop := nttTimesUptoRow.holds Tryd.pinned (OpenSpec.upto nttTimesSpec)

/-- 'redanlaw11.NttProducts', WHERE WHAT IT READS IS OF BULK AT MOST 1048576: true; the input reads as it did. -/
def nttProductsUptoRow : OpenClaim := { program := "ytdiddkcoihpnhaadoor", sum := "a53b280f96a629a27b1502b52d594cc5fbe57bc593d7d3a75398676050f3ae55", func := "redan/redanlaw11.NttProducts", spec := "nttProducts", unfollowed := true, recurses := true, named := ["redan/zq.powers"], apart := false, laid := [("redan/zq.powers", laid_redan_zq_powers)], narrowed := true }
def NttProductsUptoSaid : Prop := nttProductsUptoRow.holds Tryd.pinned (OpenSpec.upto nttProductsSpec)

/-- 'redanlaw11.NttLaws', WHERE WHAT IT READS IS OF BULK AT MOST 1048576: true; the input reads as it did. -/
def nttLawsUptoRow : OpenClaim := { program := "ytdiddkcoihpnhaadoor", sum := "a53b280f96a629a27b1502b52d594cc5fbe57bc593d7d3a75398676050f3ae55", func := "redan/redanlaw11.NttLaws", spec := "nttLaws", unfollowed := true, recurses := true, named := ["redan/zq.powers"], apart := false, laid := [("redan/zq.powers", laid_redan_zq_powers)], narrowed := true }
def NttLawsUptoSaid : Prop := nttLawsUptoRow.holds Tryd.pinned (OpenSpec.upto nttLawsSpec)

/-- 'redanlaw11.NttPowers', WHERE WHAT IT READS IS OF BULK AT MOST 1048576: true; the input reads as it did. -/
def nttPowersUptoRow : OpenClaim := { program := "ytdiddkcoihpnhaadoor", sum := "a53b280f96a629a27b1502b52d594cc5fbe57bc593d7d3a75398676050f3ae55", func := "redan/redanlaw11.NttPowers", spec := "nttPowers", unfollowed := true, recurses := true, named := ["redan/zq.powers"], apart := false, laid := [("redan/zq.powers", laid_redan_zq_powers)], narrowed := true }
def NttPowersUptoSaid : Prop := nttPowersUptoRow.holds Tryd.pinned (OpenSpec.upto nttPowersSpec)

end Rows
end Go.Proofs.YtdiddkcoihpnhaaDoor
