/-
  NARROWER THAN 'FOR EVERY INPUT', by the rows' own cells (each row's printed sentence says how): KpkeEncs: laid · KpkeDecs: laid · KpkeBytes: laid · KemGens: laid · KemChecks: laid · KemEncaps: laid · KemDecaps: laid · KemRejects: laid.
  DERIVED. THE GIVEN ROWS OF THIS SEAT. 8 by the template 'for every input the law returns true; each argument reads behind the call as it read before'; 0 by the template 'total and deterministic' (their statements: YtaignhikdfpbbaaGreatDoorTotals.lean).
  GIVEN WITH THE SEED: the statements are not yours to turn. If you find one false, say at which input.
  Laid BY PROGRAM, IN A SANDBOX (cutbox-rows.mjs): the forced cells as the released guide's own fill.sh prints them over the translation 248b9f4b2662827e… (all of the seat's roots in one cut). By AI agents, Wed Nov 11 2026. No macro, syntax, notation, axiom, sorry.
-/
import Derived.Test.YtaignhikdfpbbaaGreatDoorChecked
import GoSem.Claim
import GoSem.ClaimJoined
import GoSem.ClaimMapViews
import Derived.JoinedTies
import Derived.KernelRfl
namespace Go.Proofs.YtaignhikdfpbbaaGreatDoor
/- THE CELL 'sum', in the pinned program and in every row, IS THE sha256 OF THE DUMP (.gsa) THAT YtaignhikdfpbbaaGreatDoorProg.lean LOADS. Nothing in Lean hashes anything: it is a label: what it is worth is what the hold of that sum in a sandbox is worth. -/
noncomputable def Tryz.pinned : Pinned := { name := "ytaignhikdfpbbaagreatdoor", sum := "248b9f4b2662827ee851c3bf940aabde4bb5c8aaa5be322f2838e6d9a8503351", checked := Tryz.checked }
namespace Rows
def none {H : Type} : Left H := { results := [], args := [] }

/- WHAT THE LISTED PACKAGE-LEVEL VARIABLES READ AS WHEN THE CALL BEGINS. Each datum BY PROGRAM (the guide's laid-datum.mjs) off the statement by which the dump's own 'gosem.cut.vars' lays the variable. In a bare row this is a premise. The card (YtaignhikdfpbbaaGreatDoorCards.lean) ties it to the program's text. -/
def laid_redan_keccak_turns {H : Type} : DataW H := .agg [.lit (.int .i64 0), .lit (.int .i64 1), .lit (.int .i64 62), .lit (.int .i64 28), .lit (.int .i64 27), .lit (.int .i64 36), .lit (.int .i64 44), .lit (.int .i64 6), .lit (.int .i64 55), .lit (.int .i64 20), .lit (.int .i64 3), .lit (.int .i64 10), .lit (.int .i64 43), .lit (.int .i64 25), .lit (.int .i64 39), .lit (.int .i64 41), .lit (.int .i64 45), .lit (.int .i64 15), .lit (.int .i64 21), .lit (.int .i64 8), .lit (.int .i64 18), .lit (.int .i64 2), .lit (.int .i64 61), .lit (.int .i64 56), .lit (.int .i64 14)]
def laid_redan_keccak_constants {H : Type} : DataW H := .agg [.lit (.int .u64 1), .lit (.int .u64 32898), .lit (.int .u64 9223372036854808714), .lit (.int .u64 9223372039002292224), .lit (.int .u64 32907), .lit (.int .u64 2147483649), .lit (.int .u64 9223372039002292353), .lit (.int .u64 9223372036854808585), .lit (.int .u64 138), .lit (.int .u64 136), .lit (.int .u64 2147516425), .lit (.int .u64 2147483658), .lit (.int .u64 2147516555), .lit (.int .u64 9223372036854775947), .lit (.int .u64 9223372036854808713), .lit (.int .u64 9223372036854808579), .lit (.int .u64 9223372036854808578), .lit (.int .u64 9223372036854775936), .lit (.int .u64 32778), .lit (.int .u64 9223372039002259466), .lit (.int .u64 9223372039002292353), .lit (.int .u64 9223372036854808704), .lit (.int .u64 2147483649), .lit (.int .u64 9223372039002292232)]
def laid_redan_zq_powers {H : Type} : DataW H := .agg [.lit (.int .i64 1729), .lit (.int .i64 2580), .lit (.int .i64 2642), .lit (.int .i64 1062), .lit (.int .i64 296), .lit (.int .i64 289), .lit (.int .i64 17)]

/-- 'redanlaw13.KpkeEncs': WHATEVER THE INPUT: true; the input reads as it did. -/
def kpkeEncsSpec : ChangeSpec := { name := "kpkeEncs", fn := fun _ => fun
  | [d1, d2, d3, d4] => { results := [.lit (.bool true)], args := [d1, d2, d3, d4] }
  | _ => none }
def kpkeEncsRow : OpenClaim := { program := "ytaignhikdfpbbaagreatdoor", sum := "248b9f4b2662827ee851c3bf940aabde4bb5c8aaa5be322f2838e6d9a8503351", func := "redan/redanlaw13.KpkeEncs", spec := "kpkeEncs", unfollowed := true, recurses := true, named := ["redan/keccak.constants", "redan/keccak.turns", "redan/zq.powers"], apart := false, laid := [("redan/keccak.turns", laid_redan_keccak_turns), ("redan/keccak.constants", laid_redan_keccak_constants), ("redan/zq.powers", laid_redan_zq_powers)] }
def KpkeEncsSaid : Prop := kpkeEncsRow.holds Tryz.pinned (OpenSpec.ofChange kpkeEncsSpec)

/-- ITS FALSE NEIGHBOUR: 'it returns false'. Refute it at one input. -/
def kpkeEncsWrong : ChangeSpec := { name := "kpkeEncs", fn := fun _ => fun
  | [d1, d2, d3, d4] => { results := [.lit (.bool false)], args := [d1, d2, d3, d4] }
  | _ => none }
def KpkeEncsWrongFalsely : Prop := kpkeEncsRow.holds Tryz.pinned (OpenSpec.ofChange kpkeEncsWrong)

/-- 'redanlaw13.KpkeDecs': WHATEVER THE INPUT: true; the input reads as it did. -/
def kpkeDecsSpec : ChangeSpec := { name := "kpkeDecs", fn := fun _ => fun
  | [d1, d2, d3, d4] => { results := [.lit (.bool true)], args := [d1, d2, d3, d4] }
  | _ => none }
def kpkeDecsRow : OpenClaim := { program := "ytaignhikdfpbbaagreatdoor", sum := "248b9f4b2662827ee851c3bf940aabde4bb5c8aaa5be322f2838e6d9a8503351", func := "redan/redanlaw13.KpkeDecs", spec := "kpkeDecs", unfollowed := true, recurses := true, named := ["redan/keccak.constants", "redan/keccak.turns", "redan/zq.powers"], apart := false, laid := [("redan/keccak.turns", laid_redan_keccak_turns), ("redan/keccak.constants", laid_redan_keccak_constants), ("redan/zq.powers", laid_redan_zq_powers)] }
def KpkeDecsSaid : Prop := kpkeDecsRow.holds Tryz.pinned (OpenSpec.ofChange kpkeDecsSpec)

/-- ITS FALSE NEIGHBOUR: 'it returns false'. Refute it at one input. -/
def kpkeDecsWrong : ChangeSpec := { name := "kpkeDecs", fn := fun _ => fun
  | [d1, d2, d3, d4] => { results := [.lit (.bool false)], args := [d1, d2, d3, d4] }
  | _ => none }
def KpkeDecsWrongFalsely : Prop := kpkeDecsRow.holds Tryz.pinned (OpenSpec.ofChange kpkeDecsWrong)

/-- 'redanlaw13.KpkeBytes': WHATEVER THE INPUT: true; the input reads as it did. -/
def kpkeBytesSpec : ChangeSpec := { name := "kpkeBytes", fn := fun _ => fun
  | [d1, d2] => { results := [.lit (.bool true)], args := [d1, d2] }
  | _ => none }
def kpkeBytesRow : OpenClaim := { program := "ytaignhikdfpbbaagreatdoor", sum := "248b9f4b2662827ee851c3bf940aabde4bb5c8aaa5be322f2838e6d9a8503351", func := "redan/redanlaw13.KpkeBytes", spec := "kpkeBytes", unfollowed := true, recurses := true, named := ["redan/keccak.constants", "redan/keccak.turns", "redan/zq.powers"], apart := false, laid := [("redan/keccak.turns", laid_redan_keccak_turns), ("redan/keccak.constants", laid_redan_keccak_constants), ("redan/zq.powers", laid_redan_zq_powers)] }
def KpkeBytesSaid : Prop := kpkeBytesRow.holds Tryz.pinned (OpenSpec.ofChange kpkeBytesSpec)

/-- ITS FALSE NEIGHBOUR: 'it returns false'. Refute it at one input. -/
def kpkeBytesWrong : ChangeSpec := { name := "kpkeBytes", fn := fun _ => fun
  | [d1, d2] => { results := [.lit (.bool false)], args := [d1, d2] }
  | _ => none }
def KpkeBytesWrongFalsely : Prop := kpkeBytesRow.holds Tryz.pinned (OpenSpec.ofChange kpkeBytesWrong)

/-- 'redanlaw14.KemGens': WHATEVER THE INPUT: true; the input reads as it did. -/
def kemGensSpec : ChangeSpec := { name := "kemGens", fn := fun _ => fun
  | [d1, d2] => { results := [.lit (.bool true)], args := [d1, d2] }
  | _ => none }
def kemGensRow : OpenClaim := { program := "ytaignhikdfpbbaagreatdoor", sum := "248b9f4b2662827ee851c3bf940aabde4bb5c8aaa5be322f2838e6d9a8503351", func := "redan/redanlaw14.KemGens", spec := "kemGens", unfollowed := true, recurses := true, named := ["redan/keccak.constants", "redan/keccak.turns", "redan/zq.powers"], apart := false, laid := [("redan/keccak.turns", laid_redan_keccak_turns), ("redan/keccak.constants", laid_redan_keccak_constants), ("redan/zq.powers", laid_redan_zq_powers)] }
def KemGensSaid : Prop := kemGensRow.holds Tryz.pinned (OpenSpec.ofChange kemGensSpec)

/-- ITS FALSE NEIGHBOUR: 'it returns false'. Refute it at one input. -/
def kemGensWrong : ChangeSpec := { name := "kemGens", fn := fun _ => fun
  | [d1, d2] => { results := [.lit (.bool false)], args := [d1, d2] }
  | _ => none }
def KemGensWrongFalsely : Prop := kemGensRow.holds Tryz.pinned (OpenSpec.ofChange kemGensWrong)

/-- 'redanlaw14.KemChecks': WHATEVER THE INPUT: true; the input reads as it did. -/
def kemChecksSpec : ChangeSpec := { name := "kemChecks", fn := fun _ => fun
  | [d1, d2, d3] => { results := [.lit (.bool true)], args := [d1, d2, d3] }
  | _ => none }
def kemChecksRow : OpenClaim := { program := "ytaignhikdfpbbaagreatdoor", sum := "248b9f4b2662827ee851c3bf940aabde4bb5c8aaa5be322f2838e6d9a8503351", func := "redan/redanlaw14.KemChecks", spec := "kemChecks", unfollowed := true, recurses := true, named := ["redan/keccak.constants", "redan/keccak.turns", "redan/zq.powers"], apart := false, laid := [("redan/keccak.turns", laid_redan_keccak_turns), ("redan/keccak.constants", laid_redan_keccak_constants), ("redan/zq.powers", laid_redan_zq_powers)] }
def KemChecksSaid : Prop := kemChecksRow.holds Tryz.pinned (OpenSpec.ofChange kemChecksSpec)

/-- ITS FALSE NEIGHBOUR: 'it returns false'. Refute it at one input. -/
def kemChecksWrong : ChangeSpec := { name := "kemChecks", fn := fun _ => fun
  | [d1, d2, d3] => { results := [.lit (.bool false)], args := [d1, d2, d3] }
  | _ => none }
def KemChecksWrongFalsely : Prop := kemChecksRow.holds Tryz.pinned (OpenSpec.ofChange kemChecksWrong)

/-- 'redanlaw14.KemEncaps': WHATEVER THE INPUT: true; the input reads as it did. -/
def kemEncapsSpec : ChangeSpec := { name := "kemEncaps", fn := fun _ => fun
  | [d1, d2, d3] => { results := [.lit (.bool true)], args := [d1, d2, d3] }
  | _ => none }
def kemEncapsRow : OpenClaim := { program := "ytaignhikdfpbbaagreatdoor", sum := "248b9f4b2662827ee851c3bf940aabde4bb5c8aaa5be322f2838e6d9a8503351", func := "redan/redanlaw14.KemEncaps", spec := "kemEncaps", unfollowed := true, recurses := true, named := ["redan/keccak.constants", "redan/keccak.turns", "redan/zq.powers"], apart := false, laid := [("redan/keccak.turns", laid_redan_keccak_turns), ("redan/keccak.constants", laid_redan_keccak_constants), ("redan/zq.powers", laid_redan_zq_powers)] }
def KemEncapsSaid : Prop := kemEncapsRow.holds Tryz.pinned (OpenSpec.ofChange kemEncapsSpec)

/-- ITS FALSE NEIGHBOUR: 'it returns false'. Refute it at one input. -/
def kemEncapsWrong : ChangeSpec := { name := "kemEncaps", fn := fun _ => fun
  | [d1, d2, d3] => { results := [.lit (.bool false)], args := [d1, d2, d3] }
  | _ => none }
def KemEncapsWrongFalsely : Prop := kemEncapsRow.holds Tryz.pinned (OpenSpec.ofChange kemEncapsWrong)

/-- 'redanlaw14.KemDecaps': WHATEVER THE INPUT: true; the input reads as it did. -/
def kemDecapsSpec : ChangeSpec := { name := "kemDecaps", fn := fun _ => fun
  | [d1, d2, d3, d4, d5] => { results := [.lit (.bool true)], args := [d1, d2, d3, d4, d5] }
  | _ => none }
def kemDecapsRow : OpenClaim := { program := "ytaignhikdfpbbaagreatdoor", sum := "248b9f4b2662827ee851c3bf940aabde4bb5c8aaa5be322f2838e6d9a8503351", func := "redan/redanlaw14.KemDecaps", spec := "kemDecaps", unfollowed := true, recurses := true, named := ["redan/keccak.constants", "redan/keccak.turns", "redan/zq.powers"], apart := false, laid := [("redan/keccak.turns", laid_redan_keccak_turns), ("redan/keccak.constants", laid_redan_keccak_constants), ("redan/zq.powers", laid_redan_zq_powers)] }
def KemDecapsSaid : Prop := kemDecapsRow.holds Tryz.pinned (OpenSpec.ofChange kemDecapsSpec)

/-- ITS FALSE NEIGHBOUR: 'it returns false'. Refute it at one input. -/
def kemDecapsWrong : ChangeSpec := { name := "kemDecaps", fn := fun _ => fun
  | [d1, d2, d3, d4, d5] => { results := [.lit (.bool false)], args := [d1, d2, d3, d4, d5] }
  | _ => none }
def KemDecapsWrongFalsely : Prop := kemDecapsRow.holds Tryz.pinned (OpenSpec.ofChange kemDecapsWrong)

/-- 'redanlaw14.KemRejects': WHATEVER THE INPUT: true; the input reads as it did. -/
def kemRejectsSpec : ChangeSpec := { name := "kemRejects", fn := fun _ => fun
  | [d1, d2, d3, d4] => { results := [.lit (.bool true)], args := [d1, d2, d3, d4] }
  | _ => none }
def kemRejectsRow : OpenClaim := { program := "ytaignhikdfpbbaagreatdoor", sum := "248b9f4b2662827ee851c3bf940aabde4bb5c8aaa5be322f2838e6d9a8503351", func := "redan/redanlaw14.KemRejects", spec := "kemRejects", unfollowed := true, recurses := true, named := ["redan/keccak.constants", "redan/keccak.turns", "redan/zq.powers"], apart := false, laid := [("redan/keccak.turns", laid_redan_keccak_turns), ("redan/keccak.constants", laid_redan_keccak_constants), ("redan/zq.powers", laid_redan_zq_powers)] }
def KemRejectsSaid : Prop := kemRejectsRow.holds Tryz.pinned (OpenSpec.ofChange kemRejectsSpec)

/-- ITS FALSE NEIGHBOUR: 'it returns false'. Refute it at one input. -/
def kemRejectsWrong : ChangeSpec := { name := "kemRejects", fn := fun _ => fun
  | [d1, d2, d3, d4] => { results := [.lit (.bool false)], args := [d1, d2, d3, d4] }
  | _ => none }
def KemRejectsWrongFalsely : Prop := kemRejectsRow.holds Tryz.pinned (OpenSpec.ofChange kemRejectsWrong)

/- THE SECOND FORM. 'bulk': how many values and letters a reading holds, each counted each time it is reached (what is shared counts as often as it is met; a slice's spare places count too). A statement '..UptoSaid' is the law's where the arguments, and the package variables that the reading takes, are together of bulk at most 1048576: NARROWER than '..Said'. Prove '..Said' where nothing that the law and all that it calls make is longer than what came in: it says more and counts as full. Else prove '..UptoSaid'. A law counts once. -/
mutual
def uptoBulk {H : Type} : DataW H → Nat
  | .lit (.string bytes) => bytes.length + 1
  | .lit _ => 1
  | .nil => 1
  | .ptr d => uptoBulk d + 1
  | .slice elems spare => uptoBulkAll elems + uptoBulkAll spare + 1
  | .agg parts => uptoBulkAll parts + 1
  | .iface _ d => uptoBulk d + 1
  | .map entries => uptoBulkEntries entries + 1
  | .held _ => 1
def uptoBulkAll {H : Type} : List (DataW H) → Nat
  | [] => 0
  | d :: r => uptoBulk d + uptoBulkAll r
def uptoBulkEntries {H : Type} : List (Lit × DataW H) → Nat
  | [] => 0
  | x :: r => uptoBulkEntry x + uptoBulkEntries r
def uptoBulkEntry {H : Type} : Lit × DataW H → Nat
  | (.string bytes, d) => bytes.length + uptoBulk d + 1
  | (_, d) => uptoBulk d + 1
 end
def uptoSmall : (H : Type) → List (DataW H) → Bool := fun _ ds => decide (uptoBulkAll ds ≤ 1048576)
def OpenSpec.upto (s : _root_.Go.ChangeSpec) : _root_.Go.OpenSpec := { _root_.Go.OpenSpec.ofChange s with cond := some uptoSmall }

/-- 'redanlaw13.KpkeEncs', WHERE WHAT IT READS IS OF BULK AT MOST 1048576: true; the input reads as it did. -/
def kpkeEncsUptoRow : OpenClaim := { program := "ytaignhikdfpbbaagreatdoor", sum := "248b9f4b2662827ee851c3bf940aabde4bb5c8aaa5be322f2838e6d9a8503351", func := "redan/redanlaw13.KpkeEncs", spec := "kpkeEncs", unfollowed := true, recurses := true, named := ["redan/keccak.constants", "redan/keccak.turns", "redan/zq.powers"], apart := false, laid := [("redan/keccak.turns", laid_redan_keccak_turns), ("redan/keccak.constants", laid_redan_keccak_constants), ("redan/zq.powers", laid_redan_zq_powers)], narrowed := true }
def KpkeEncsUptoSaid : Prop := kpkeEncsUptoRow.holds Tryz.pinned (OpenSpec.upto kpkeEncsSpec)

/-- 'redanlaw13.KpkeDecs', WHERE WHAT IT READS IS OF BULK AT MOST 1048576: true; the input reads as it did. -/
def kpkeDecsUptoRow : OpenClaim := { program := "ytaignhikdfpbbaagreatdoor", sum := "248b9f4b2662827ee851c3bf940aabde4bb5c8aaa5be322f2838e6d9a8503351", func := "redan/redanlaw13.KpkeDecs", spec := "kpkeDecs", unfollowed := true, recurses := true, named := ["redan/keccak.constants", "redan/keccak.turns", "redan/zq.powers"], apart := false, laid := [("redan/keccak.turns", laid_redan_keccak_turns), ("redan/keccak.constants", laid_redan_keccak_constants), ("redan/zq.powers", laid_redan_zq_powers)], narrowed := true }
def KpkeDecsUptoSaid : Prop := kpkeDecsUptoRow.holds Tryz.pinned (OpenSpec.upto kpkeDecsSpec)

/-- 'redanlaw13.KpkeBytes', WHERE WHAT IT READS IS OF BULK AT MOST 1048576: true; the input reads as it did. -/
def kpkeBytesUptoRow : OpenClaim := { program := "ytaignhikdfpbbaagreatdoor", sum := "248b9f4b2662827ee851c3bf940aabde4bb5c8aaa5be322f2838e6d9a8503351", func := "redan/redanlaw13.KpkeBytes", spec := "kpkeBytes", unfollowed := true, recurses := true, named := ["redan/keccak.constants", "redan/keccak.turns", "redan/zq.powers"], apart := false, laid := [("redan/keccak.turns", laid_redan_keccak_turns), ("redan/keccak.constants", laid_redan_keccak_constants), ("redan/zq.powers", laid_redan_zq_powers)], narrowed := true }
def KpkeBytesUptoSaid : Prop := kpkeBytesUptoRow.holds Tryz.pinned (OpenSpec.upto kpkeBytesSpec)

/-- 'redanlaw14.KemGens', WHERE WHAT IT READS IS OF BULK AT MOST 1048576: true; the input reads as it did. -/
def kemGensUptoRow : OpenClaim := { program := "ytaignhikdfpbbaagreatdoor", sum := "248b9f4b2662827ee851c3bf940aabde4bb5c8aaa5be322f2838e6d9a8503351", func := "redan/redanlaw14.KemGens", spec := "kemGens", unfollowed := true, recurses := true, named := ["redan/keccak.constants", "redan/keccak.turns", "redan/zq.powers"], apart := false, laid := [("redan/keccak.turns", laid_redan_keccak_turns), ("redan/keccak.constants", laid_redan_keccak_constants), ("redan/zq.powers", laid_redan_zq_powers)], narrowed := true }
def KemGensUptoSaid : Prop := kemGensUptoRow.holds Tryz.pinned (OpenSpec.upto kemGensSpec)

/-- 'redanlaw14.KemChecks', WHERE WHAT IT READS IS OF BULK AT MOST 1048576: true; the input reads as it did. -/
def kemChecksUptoRow : OpenClaim := { program := "ytaignhikdfpbbaagreatdoor", sum := "248b9f4b2662827ee851c3bf940aabde4bb5c8aaa5be322f2838e6d9a8503351", func := "redan/redanlaw14.KemChecks", spec := "kemChecks", unfollowed := true, recurses := true, named := ["redan/keccak.constants", "redan/keccak.turns", "redan/zq.powers"], apart := false, laid := [("redan/keccak.turns", laid_redan_keccak_turns), ("redan/keccak.constants", laid_redan_keccak_constants), ("redan/zq.powers", laid_redan_zq_powers)], narrowed := true }
def KemChecksUptoSaid : Prop := kemChecksUptoRow.holds Tryz.pinned (OpenSpec.upto kemChecksSpec)

/-- 'redanlaw14.KemEncaps', WHERE WHAT IT READS IS OF BULK AT MOST 1048576: true; the input reads as it did. -/
def kemEncapsUptoRow : OpenClaim := { program := "ytaignhikdfpbbaagreatdoor", sum := "248b9f4b2662827ee851c3bf940aabde4bb5c8aaa5be322f2838e6d9a8503351", func := "redan/redanlaw14.KemEncaps", spec := "kemEncaps", unfollowed := true, recurses := true, named := ["redan/keccak.constants", "redan/keccak.turns", "redan/zq.powers"], apart := false, laid := [("redan/keccak.turns", laid_redan_keccak_turns), ("redan/keccak.constants", laid_redan_keccak_constants), ("redan/zq.powers", laid_redan_zq_powers)], narrowed := true }
def KemEncapsUptoSaid : Prop := kemEncapsUptoRow.holds Tryz.pinned (OpenSpec.upto kemEncapsSpec)

/-- 'redanlaw14.KemDecaps', WHERE WHAT IT READS IS OF BULK AT MOST 1048576: true; the input reads as it did. -/
def kemDecapsUptoRow : OpenClaim := { program := "ytaignhikdfpbbaagreatdoor", sum := "248b9f4b2662827ee851c3bf940aabde4bb5c8aaa5be322f2838e6d9a8503351", func := "redan/redanlaw14.KemDecaps", spec := "kemDecaps", unfollowed := true, recurses := true, named := ["redan/keccak.constants", "redan/keccak.turns", "redan/zq.powers"], apart := false, laid := [("redan/keccak.turns", laid_redan_keccak_turns), ("redan/keccak.constants", laid_redan_keccak_constants), ("redan/zq.powers", laid_redan_zq_powers)], narrowed := true }
def KemDecapsUptoSaid : Prop := kemDecapsUptoRow.holds Tryz.pinned (OpenSpec.upto kemDecapsSpec)

/-- 'redanlaw14.KemRejects', WHERE WHAT IT READS IS OF BULK AT MOST 1048576: true; the input reads as it did. -/
def kemRejectsUptoRow : OpenClaim := { program := "ytaignhikdfpbbaagreatdoor", sum := "248b9f4b2662827ee851c3bf940aabde4bb5c8aaa5be322f2838e6d9a8503351", func := "redan/redanlaw14.KemRejects", spec := "kemRejects", unfollowed := true, recurses := true, named := ["redan/keccak.constants", "redan/keccak.turns", "redan/zq.powers"], apart := false, laid := [("redan/keccak.turns", laid_redan_keccak_turns), ("redan/keccak.constants", laid_redan_keccak_constants), ("redan/zq.powers", laid_redan_zq_powers)], narrowed := true }
def KemRejectsUptoSaid : Prop := kemRejectsUptoRow.holds Tryz.pinned (OpenSpec.upto kemRejectsSpec)

end Rows
end Go.Proofs.YtaignhikdfpbbaaGreatDoor
