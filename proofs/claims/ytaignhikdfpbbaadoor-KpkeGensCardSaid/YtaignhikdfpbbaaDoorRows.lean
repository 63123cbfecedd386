/-
  NARROWER THAN 'FOR EVERY INPUT', by the rows' own cells (each row's printed sentence says how): SampleUniform: laid · SampleNoise: laid · SamplePacks: laid · SampleRounds: laid · SampleBack: laid · SampleBits: laid · SampleSmall: laid · KpkeGens: laid.
  DERIVED. THE GIVEN ROWS OF THIS SEAT. 8 by the template 'for every input the law returns true; each argument reads behind the call as it read before'; 0 by the template 'total and deterministic' (their statements: YtaignhikdfpbbaaDoorTotals.lean).
  GIVEN WITH THE SEED: the statements are not yours to turn. If you find one false, say at which input.
  Laid BY PROGRAM, IN A SANDBOX (cutbox-rows.mjs): the forced cells as the released guide's own fill.sh prints them over the translation fec72072e517b01d… (all of the seat's roots in one cut). By AI agents, Wed Nov 11 2026. No macro, syntax, notation, axiom, sorry.
-/
import Derived.Test.YtaignhikdfpbbaaDoorChecked
import GoSem.Claim
import GoSem.ClaimJoined
import GoSem.ClaimMapViews
import Derived.JoinedTies
import Derived.KernelRfl
namespace Go.Proofs.YtaignhikdfpbbaaDoor
/- THE CELL 'sum', in the pinned program and in every row, IS THE sha256 OF THE DUMP (.gsa) THAT YtaignhikdfpbbaaDoorProg.lean LOADS. Nothing in Lean hashes anything: it is a label: what it is worth is what the hold of that sum in a sandbox is worth. -/
noncomputable def Tryd.pinned : Pinned := { name := "ytaignhikdfpbbaadoor", sum := "fec72072e517b01d55bafb032aad96aa12b4d50463bac7cde86ef85582c45741", checked := Tryd.checked }
namespace Rows
def none {H : Type} : Left H := { results := [], args := [] }

/- WHAT THE LISTED PACKAGE-LEVEL VARIABLES READ AS WHEN THE CALL BEGINS. Each datum BY PROGRAM (the guide's laid-datum.mjs) off the statement by which the dump's own 'gosem.cut.vars' lays the variable. In a bare row this is a premise. The card (YtaignhikdfpbbaaDoorCards.lean) ties it to the program's text. -/
def laid_redan_keccak_turns {H : Type} : DataW H := .agg [.lit (.int .i64 0), .lit (.int .i64 1), .lit (.int .i64 62), .lit (.int .i64 28), .lit (.int .i64 27), .lit (.int .i64 36), .lit (.int .i64 44), .lit (.int .i64 6), .lit (.int .i64 55), .lit (.int .i64 20), .lit (.int .i64 3), .lit (.int .i64 10), .lit (.int .i64 43), .lit (.int .i64 25), .lit (.int .i64 39), .lit (.int .i64 41), .lit (.int .i64 45), .lit (.int .i64 15), .lit (.int .i64 21), .lit (.int .i64 8), .lit (.int .i64 18), .lit (.int .i64 2), .lit (.int .i64 61), .lit (.int .i64 56), .lit (.int .i64 14)]
def laid_redan_keccak_constants {H : Type} : DataW H := .agg [.lit (.int .u64 1), .lit (.int .u64 32898), .lit (.int .u64 9223372036854808714), .lit (.int .u64 9223372039002292224), .lit (.int .u64 32907), .lit (.int .u64 2147483649), .lit (.int .u64 9223372039002292353), .lit (.int .u64 9223372036854808585), .lit (.int .u64 138), .lit (.int .u64 136), .lit (.int .u64 2147516425), .lit (.int .u64 2147483658), .lit (.int .u64 2147516555), .lit (.int .u64 9223372036854775947), .lit (.int .u64 9223372036854808713), .lit (.int .u64 9223372036854808579), .lit (.int .u64 9223372036854808578), .lit (.int .u64 9223372036854775936), .lit (.int .u64 32778), .lit (.int .u64 9223372039002259466), .lit (.int .u64 9223372039002292353), .lit (.int .u64 9223372036854808704), .lit (.int .u64 2147483649), .lit (.int .u64 9223372039002292232)]
def laid_redan_zq_powers {H : Type} : DataW H := .agg [.lit (.int .i64 1729), .lit (.int .i64 2580), .lit (.int .i64 2642), .lit (.int .i64 1062), .lit (.int .i64 296), .lit (.int .i64 289), .lit (.int .i64 17)]

/-- 'redanlaw12.SampleUniform': WHATEVER THE INPUT: true; the input reads as it did. -/
def sampleUniformSpec : ChangeSpec := { name := "sampleUniform", fn := fun _ => fun
  | [d] => { results := [.lit (.bool true)], args := [d] }
  | _ => none }
def sampleUniformRow : OpenClaim := { program := "ytaignhikdfpbbaadoor", sum := "fec72072e517b01d55bafb032aad96aa12b4d50463bac7cde86ef85582c45741", func := "redan/redanlaw12.SampleUniform", spec := "sampleUniform", named := ["redan/keccak.constants", "redan/keccak.turns"], apart := false, laid := [("redan/keccak.turns", laid_redan_keccak_turns), ("redan/keccak.constants", laid_redan_keccak_constants)] }
def SampleUniformSaid : Prop := sampleUniformRow.holds Tryd.pinned (OpenSpec.ofChange sampleUniformSpec)

/-- ITS FALSE NEIGHBOUR: 'it returns false'. Refute it at one input. -/
def sampleUniformWrong : ChangeSpec := { name := "sampleUniform", fn := fun _ => fun
  | [d] => { results := [.lit (.bool false)], args := [d] }
  | _ => none }
def SampleUniformWrongFalsely : Prop := sampleUniformRow.holds Tryd.pinned (OpenSpec.ofChange sampleUniformWrong)

/-- 'redanlaw12.SampleNoise': WHATEVER THE INPUT: true; the input reads as it did. -/
def sampleNoiseSpec : ChangeSpec := { name := "sampleNoise", fn := fun _ => fun
  | [d1, d2, d3] => { results := [.lit (.bool true)], args := [d1, d2, d3] }
  | _ => none }
def sampleNoiseRow : OpenClaim := { program := "ytaignhikdfpbbaadoor", sum := "fec72072e517b01d55bafb032aad96aa12b4d50463bac7cde86ef85582c45741", func := "redan/redanlaw12.SampleNoise", spec := "sampleNoise", named := ["redan/keccak.constants", "redan/keccak.turns"], apart := false, laid := [("redan/keccak.turns", laid_redan_keccak_turns), ("redan/keccak.constants", laid_redan_keccak_constants)] }
def SampleNoiseSaid : Prop := sampleNoiseRow.holds Tryd.pinned (OpenSpec.ofChange sampleNoiseSpec)

/-- ITS FALSE NEIGHBOUR: 'it returns false'. Refute it at one input. -/
def sampleNoiseWrong : ChangeSpec := { name := "sampleNoise", fn := fun _ => fun
  | [d1, d2, d3] => { results := [.lit (.bool false)], args := [d1, d2, d3] }
  | _ => none }
def SampleNoiseWrongFalsely : Prop := sampleNoiseRow.holds Tryd.pinned (OpenSpec.ofChange sampleNoiseWrong)

/-- 'redanlaw12.SamplePacks': WHATEVER THE INPUT: true; the input reads as it did. -/
def samplePacksSpec : ChangeSpec := { name := "samplePacks", fn := fun _ => fun
  | [d1, d2, d3] => { results := [.lit (.bool true)], args := [d1, d2, d3] }
  | _ => none }
def samplePacksRow : OpenClaim := { program := "ytaignhikdfpbbaadoor", sum := "fec72072e517b01d55bafb032aad96aa12b4d50463bac7cde86ef85582c45741", func := "redan/redanlaw12.SamplePacks", spec := "samplePacks", named := ["redan/keccak.constants", "redan/keccak.turns"], apart := false, laid := [("redan/keccak.turns", laid_redan_keccak_turns), ("redan/keccak.constants", laid_redan_keccak_constants)] }
def SamplePacksSaid : Prop := samplePacksRow.holds Tryd.pinned (OpenSpec.ofChange samplePacksSpec)

/-- ITS FALSE NEIGHBOUR: 'it returns false'. Refute it at one input. -/
def samplePacksWrong : ChangeSpec := { name := "samplePacks", fn := fun _ => fun
  | [d1, d2, d3] => { results := [.lit (.bool false)], args := [d1, d2, d3] }
  | _ => none }
def SamplePacksWrongFalsely : Prop := samplePacksRow.holds Tryd.pinned (OpenSpec.ofChange samplePacksWrong)

/-- 'redanlaw12.SampleRounds': WHATEVER THE INPUT: true; the input reads as it did. -/
def sampleRoundsSpec : ChangeSpec := { name := "sampleRounds", fn := fun _ => fun
  | [d1, d2] => { results := [.lit (.bool true)], args := [d1, d2] }
  | _ => none }
def sampleRoundsRow : OpenClaim := { program := "ytaignhikdfpbbaadoor", sum := "fec72072e517b01d55bafb032aad96aa12b4d50463bac7cde86ef85582c45741", func := "redan/redanlaw12.SampleRounds", spec := "sampleRounds", named := ["redan/keccak.constants", "redan/keccak.turns"], apart := false, laid := [("redan/keccak.turns", laid_redan_keccak_turns), ("redan/keccak.constants", laid_redan_keccak_constants)] }
def SampleRoundsSaid : Prop := sampleRoundsRow.holds Tryd.pinned (OpenSpec.ofChange sampleRoundsSpec)

/-- ITS FALSE NEIGHBOUR: 'it returns false'. Refute it at one input. -/
def sampleRoundsWrong : ChangeSpec := { name := "sampleRounds", fn := fun _ => fun
  | [d1, d2] => { results := [.lit (.bool false)], args := [d1, d2] }
  | _ => none }
def SampleRoundsWrongFalsely : Prop := sampleRoundsRow.holds Tryd.pinned (OpenSpec.ofChange sampleRoundsWrong)

/-- 'redanlaw12.SampleBack': WHATEVER THE INPUT: true; the input reads as it did. -/
def sampleBackSpec : ChangeSpec := { name := "sampleBack", fn := fun _ => fun
  | [d1, d2, d3] => { results := [.lit (.bool true)], args := [d1, d2, d3] }
  | _ => none }
def sampleBackRow : OpenClaim := { program := "ytaignhikdfpbbaadoor", sum := "fec72072e517b01d55bafb032aad96aa12b4d50463bac7cde86ef85582c45741", func := "redan/redanlaw12.SampleBack", spec := "sampleBack", named := ["redan/keccak.constants", "redan/keccak.turns"], apart := false, laid := [("redan/keccak.turns", laid_redan_keccak_turns), ("redan/keccak.constants", laid_redan_keccak_constants)] }
def SampleBackSaid : Prop := sampleBackRow.holds Tryd.pinned (OpenSpec.ofChange sampleBackSpec)

/-- ITS FALSE NEIGHBOUR: 'it returns false'. Refute it at one input. -/
def sampleBackWrong : ChangeSpec := { name := "sampleBack", fn := fun _ => fun
  | [d1, d2, d3] => { results := [.lit (.bool false)], args := [d1, d2, d3] }
  | _ => none }
def SampleBackWrongFalsely : Prop := sampleBackRow.holds Tryd.pinned (OpenSpec.ofChange sampleBackWrong)

/-- 'redanlaw12.SampleBits': WHATEVER THE INPUT: true; the input reads as it did. -/
def sampleBitsSpec : ChangeSpec := { name := "sampleBits", fn := fun _ => fun
  | [d1, d2, d3] => { results := [.lit (.bool true)], args := [d1, d2, d3] }
  | _ => none }
def sampleBitsRow : OpenClaim := { program := "ytaignhikdfpbbaadoor", sum := "fec72072e517b01d55bafb032aad96aa12b4d50463bac7cde86ef85582c45741", func := "redan/redanlaw12.SampleBits", spec := "sampleBits", named := ["redan/keccak.constants", "redan/keccak.turns"], apart := false, laid := [("redan/keccak.turns", laid_redan_keccak_turns), ("redan/keccak.constants", laid_redan_keccak_constants)] }
def SampleBitsSaid : Prop := sampleBitsRow.holds Tryd.pinned (OpenSpec.ofChange sampleBitsSpec)

/-- ITS FALSE NEIGHBOUR: 'it returns false'. Refute it at one input. -/
def sampleBitsWrong : ChangeSpec := { name := "sampleBits", fn := fun _ => fun
  | [d1, d2, d3] => { results := [.lit (.bool false)], args := [d1, d2, d3] }
  | _ => none }
def SampleBitsWrongFalsely : Prop := sampleBitsRow.holds Tryd.pinned (OpenSpec.ofChange sampleBitsWrong)

/-- 'redanlaw12.SampleSmall': WHATEVER THE INPUT: true; the input reads as it did. -/
def sampleSmallSpec : ChangeSpec := { name := "sampleSmall", fn := fun _ => fun
  | [d1, d2, d3] => { results := [.lit (.bool true)], args := [d1, d2, d3] }
  | _ => none }
def sampleSmallRow : OpenClaim := { program := "ytaignhikdfpbbaadoor", sum := "fec72072e517b01d55bafb032aad96aa12b4d50463bac7cde86ef85582c45741", func := "redan/redanlaw12.SampleSmall", spec := "sampleSmall", named := ["redan/keccak.constants", "redan/keccak.turns"], apart := false, laid := [("redan/keccak.turns", laid_redan_keccak_turns), ("redan/keccak.constants", laid_redan_keccak_constants)] }
def SampleSmallSaid : Prop := sampleSmallRow.holds Tryd.pinned (OpenSpec.ofChange sampleSmallSpec)

/-- ITS FALSE NEIGHBOUR: 'it returns false'. Refute it at one input. -/
def sampleSmallWrong : ChangeSpec := { name := "sampleSmall", fn := fun _ => fun
  | [d1, d2, d3] => { results := [.lit (.bool false)], args := [d1, d2, d3] }
  | _ => none }
def SampleSmallWrongFalsely : Prop := sampleSmallRow.holds Tryd.pinned (OpenSpec.ofChange sampleSmallWrong)

/-- 'redanlaw13.KpkeGens': WHATEVER THE INPUT: true; the input reads as it did. -/
def kpkeGensSpec : ChangeSpec := { name := "kpkeGens", fn := fun _ => fun
  | [d] => { results := [.lit (.bool true)], args := [d] }
  | _ => none }
def kpkeGensRow : OpenClaim := { program := "ytaignhikdfpbbaadoor", sum := "fec72072e517b01d55bafb032aad96aa12b4d50463bac7cde86ef85582c45741", func := "redan/redanlaw13.KpkeGens", spec := "kpkeGens", unfollowed := true, recurses := true, named := ["redan/keccak.constants", "redan/keccak.turns", "redan/zq.powers"], apart := false, laid := [("redan/keccak.turns", laid_redan_keccak_turns), ("redan/keccak.constants", laid_redan_keccak_constants), ("redan/zq.powers", laid_redan_zq_powers)] }
def KpkeGensSaid : Prop := kpkeGensRow.holds Tryd.pinned (OpenSpec.ofChange kpkeGensSpec)

/-- ITS FALSE NEIGHBOUR: 'it returns false'. Refute it at one input. -/
def kpkeGensWrong : ChangeSpec := { name := "kpkeGens", fn := fun _ => fun
  | [d] => { results := [.lit (.bool false)], args := [d] }
  | _ => none }
def KpkeGensWrongFalsely : Prop := kpkeGensRow.holds Tryd.pinned (OpenSpec.ofChange kpkeGensWrong)

/- THE SECOND FORM. 'bulk': how many values and letters a reading holds, each counted each time it is reached (what is shared counts as often as it is met; a slice's spare places count too). A statement '..UptoSaid' is the law's where the arguments, and the package variables that the reading takes, are together of bulk at most 1048576: NARROWER than '..Said'. Prove '..Said' where nothing that the law and all that it calls make is longer than what came in: it says more and counts as full. Else prove '..UptoSaid'. A law counts once. -/
mutual
def uptoBulk {H : Type} : DataW H → Nat
  | .lit (.string bytes) => bytes.length + 1
  | .lit _ => 1
  | .nil => 1
  | .ptr d => uptoBulk d + 1
  | .slice elems spare => uptoBulkAll elems + uptoBulkAll spare + 1
  | .agg parts => uptoBulkAll parts + 1
  | .iface _ d => uptoBulk d + 1
  | .map entries => uptoBulkEntries entries + 1
  | .held _ => 1
def uptoBulkAll {H : Type} : List (DataW H) → Nat
  | [] => 0
  | d :: r => uptoBulk d + uptoBulkAll r
def uptoBulkEntries {H : Type} : List (Lit × DataW H) → Nat
  | [] => 0
  | x :: r => uptoBulkEntry x + uptoBulkEntries r
def uptoBulkEntry {H : Type} : Lit × DataW H → Nat
  | (.string bytes, d) => bytes.length + uptoBulk d + 1
  | (_, d) => uptoBulk d + 1
 end
def uptoSmall : (H : Type) → List (DataW H) → Bool := fun _ ds => decide (uptoBulkAll ds ≤ 1048576)
def OpenSpec.upto (s : _root_.Go.ChangeSpec) : _root_.Go.OpenSpec := { _root_.Go.OpenSpec.ofChange s with cond := some uptoSmall }

/-- 'redanlaw12.SampleUniform', WHERE WHAT IT READS IS OF BULK AT MOST 1048576: true; the input reads as it did. -/
def sampleUniformUptoRow : OpenClaim := { program := "ytaignhikdfpbbaadoor", sum := "fec72072e517b01d55bafb032aad96aa12b4d50463bac7cde86ef85582c45741", func := "redan/redanlaw12.SampleUniform", spec := "sampleUniform", named := ["redan/keccak.constants", "redan/keccak.turns"], apart := false, laid := [("redan/keccak.turns", laid_redan_keccak_turns), ("redan/keccak.constants", laid_redan_keccak_constants)], narrowed := true }
def SampleUniformUptoSaid : Prop := sampleUniformUptoRow.holds Tryd.pinned (OpenSpec.upto sampleUniformSpec)

/-- 'redanlaw12.SampleNoise', WHERE WHAT IT READS IS OF BULK AT MOST 1048576: true; the input reads as it did. -/
def sampleNoiseUptoRow : OpenClaim := { program := "ytaignhikdfpbbaadoor", sum := "fec72072e517b01d55bafb032aad96aa12b4d50463bac7cde86ef85582c45741", func := "redan/redanlaw12.SampleNoise", spec := "sampleNoise", named := ["redan/keccak.constants", "redan/keccak.turns"], apart := false, laid := [("redan/keccak.turns", laid_redan_keccak_turns), ("redan/keccak.constants", laid_redan_keccak_constants)], narrowed := true }
def SampleNoiseUptoSaid : Prop := sampleNoiseUptoRow.holds Tryd.pinned (OpenSpec.upto sampleNoiseSpec)

/-- 'redanlaw12.SamplePacks', WHERE WHAT IT READS IS OF BULK AT MOST 1048576: true; the input reads as it did. -/
def samplePacksUptoRow : OpenClaim := { program := "ytaignhikdfpbbaadoor", sum := "fec72072e517b01d55bafb032aad96aa12b4d50463bac7cde86ef85582c45741", func := "redan/redanlaw12.SamplePacks", spec := "samplePacks", named := ["redan/keccak.constants", "redan/keccak.turns"], apart := false, laid := [("redan/keccak.turns", laid_redan_keccak_turns), ("redan/keccak.constants", laid_redan_keccak_constants)], narrowed := true }
def SamplePacksUptoSaid : Prop := samplePacksUptoRow.holds Tryd.pinned (OpenSpec.upto samplePacksSpec)

/-- 'redanlaw12.SampleRounds', WHERE WHAT IT READS IS OF BULK AT MOST 1048576: true; the input reads as it did. -/
def sampleRoundsUptoRow : OpenClaim := { program := "ytaignhikdfpbbaadoor", sum := "fec72072e517b01d55bafb032aad96aa12b4d50463bac7cde86ef85582c45741", func := "redan/redanlaw12.SampleRounds", spec := "sampleRounds", named := ["redan/keccak.constants", "redan/keccak.turns"], apart := false, laid := [("redan/keccak.turns", laid_redan_keccak_turns), ("redan/keccak.constants", laid_redan_keccak_constants)], narrowed := true }
def SampleRoundsUptoSaid : Prop := sampleRoundsUptoRow.holds Tryd.pinned (OpenSpec.upto sampleRoundsSpec)

/-- 'redanlaw12.SampleBack', WHERE WHAT IT READS IS OF BULK AT MOST 1048576: true; the input reads as it did. -/
def sampleBackUptoRow : OpenClaim := { program := "ytaignhikdfpbbaadoor", sum := "fec72072e517b01d55bafb032aad96aa12b4d50463bac7cde86ef85582c45741", func := "redan/redanlaw12.SampleBack", spec := "sampleBack", named := ["redan/keccak.constants", "redan/keccak.turns"], apart := false, laid := [("redan/keccak.turns", laid_redan_keccak_turns), ("redan/keccak.constants", laid_redan_keccak_constants)], narrowed := true }
def SampleBackUptoSaid : Prop := sampleBackUptoRow.holds Tryd.pinned (OpenSpec.upto sampleBackSpec)

/-- 'redanlaw12.SampleBits', WHERE WHAT IT READS IS OF BULK AT MOST 1048576: true; the input reads as it did. -/
def sampleBitsUptoRow : OpenClaim := { program := "ytaignhikdfpbbaadoor", sum := "fec72072e517b01d55bafb032aad96aa12b4d50463bac7cde86ef85582c45741", func := "redan/redanlaw12.SampleBits", spec := "sampleBits", named := ["redan/keccak.constants", "redan/keccak.turns"], apart := false, laid := [("redan/keccak.turns", laid_redan_keccak_turns), ("redan/keccak.constants", laid_redan_keccak_constants)], narrowed := true }
def SampleBitsUptoSaid : Prop := sampleBitsUptoRow.holds Tryd.pinned (OpenSpec.upto sampleBitsSpec)

/-- 'redanlaw12.SampleSmall', WHERE WHAT IT READS IS OF BULK AT MOST 1048576: true; the input reads as it did. -/
def sampleSmallUptoRow : OpenClaim := { program := "ytaignhikdfpbbaadoor", sum := "fec72072e517b01d55bafb032aad96aa12b4d50463bac7cde86ef85582c45741", func := "redan/redanlaw12.SampleSmall", spec := "sampleSmall", named := ["redan/keccak.constants", "redan/keccak.turns"], apart := false, laid := [("redan/keccak.turns", laid_redan_keccak_turns), ("redan/keccak.constants", laid_redan_keccak_constants)], narrowed := true }
def SampleSmallUptoSaid : Prop := sampleSmallUptoRow.holds Tryd.pinned (OpenSpec.upto sampleSmallSpec)

/-- 'redanlaw13.KpkeGens', WHERE WHAT IT READS IS OF BULK AT MOST 1048576: true; the input reads as it did. -/
def kpkeGensUptoRow : OpenClaim := { program := "ytaignhikdfpbbaadoor", sum := "fec72072e517b01d55bafb032aad96aa12b4d50463bac7cde86ef85582c45741", func := "redan/redanlaw13.KpkeGens", spec := "kpkeGens", unfollowed := true, recurses := true, named := ["redan/keccak.constants", "redan/keccak.turns", "redan/zq.powers"], apart := false, laid := [("redan/keccak.turns", laid_redan_keccak_turns), ("redan/keccak.constants", laid_redan_keccak_constants), ("redan/zq.powers", laid_redan_zq_powers)], narrowed := true }
def KpkeGensUptoSaid : Prop := kpkeGensUptoRow.holds Tryd.pinned (OpenSpec.upto kpkeGensSpec)

end Rows
end Go.Proofs.YtaignhikdfpbbaaDoor
