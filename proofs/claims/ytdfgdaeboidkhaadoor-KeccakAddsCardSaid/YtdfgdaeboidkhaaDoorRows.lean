/-
  NARROWER THAN 'FOR EVERY INPUT', by the rows' own cells (each row's printed sentence says how): KeccakTheta: laid · KeccakRho: laid · KeccakPi: laid · KeccakChi: laid · KeccakIota: laid · KeccakRound: laid · KeccakAll: laid · KeccakAdds: laid · KeccakMany: laid · KeccakOnes: laid.
  DERIVED. THE GIVEN ROWS OF THIS SEAT. 10 by the template 'for every input the law returns true; each argument reads behind the call as it read before'; 0 by the template 'total and deterministic' (their statements: YtdfgdaeboidkhaaDoorTotals.lean).
  GIVEN WITH THE SEED: the statements are not yours to turn. If you find one false, say at which input.
  Laid BY PROGRAM, IN A SANDBOX (cutbox-rows.mjs): the forced cells as the released guide's own fill.sh prints them over the translation e4b96a4572b12ad1… (all of the seat's roots in one cut). By AI agents, Wed Nov 11 2026. No macro, syntax, notation, axiom, sorry.
-/
import Derived.Test.YtdfgdaeboidkhaaDoorChecked
import GoSem.Claim
import GoSem.ClaimJoined
import GoSem.ClaimMapViews
import Derived.JoinedTies
import Derived.KernelRfl
namespace Go.Proofs.YtdfgdaeboidkhaaDoor
/- THE CELL 'sum', in the pinned program and in every row, IS THE sha256 OF THE DUMP (.gsa) THAT YtdfgdaeboidkhaaDoorProg.lean LOADS. Nothing in Lean hashes anything: it is a label: what it is worth is what the hold of that sum in a sandbox is worth. -/
noncomputable def Tryd.pinned : Pinned := { name := "ytdfgdaeboidkhaadoor", sum := "e4b96a4572b12ad18181e51afe2e978d00cad3c9fb28eaea73ced60a85c3bed6", checked := Tryd.checked }
namespace Rows
def none {H : Type} : Left H := { results := [], args := [] }

/- WHAT THE LISTED PACKAGE-LEVEL VARIABLES READ AS WHEN THE CALL BEGINS. Each datum BY PROGRAM (the guide's laid-datum.mjs) off the statement by which the dump's own 'gosem.cut.vars' lays the variable. In a bare row this is a premise. The card (YtdfgdaeboidkhaaDoorCards.lean) ties it to the program's text. -/
def laid_redan_keccak_turns {H : Type} : DataW H := .agg [.lit (.int .i64 0), .lit (.int .i64 1), .lit (.int .i64 62), .lit (.int .i64 28), .lit (.int .i64 27), .lit (.int .i64 36), .lit (.int .i64 44), .lit (.int .i64 6), .lit (.int .i64 55), .lit (.int .i64 20), .lit (.int .i64 3), .lit (.int .i64 10), .lit (.int .i64 43), .lit (.int .i64 25), .lit (.int .i64 39), .lit (.int .i64 41), .lit (.int .i64 45), .lit (.int .i64 15), .lit (.int .i64 21), .lit (.int .i64 8), .lit (.int .i64 18), .lit (.int .i64 2), .lit (.int .i64 61), .lit (.int .i64 56), .lit (.int .i64 14)]
def laid_redan_keccak_constants {H : Type} : DataW H := .agg [.lit (.int .u64 1), .lit (.int .u64 32898), .lit (.int .u64 9223372036854808714), .lit (.int .u64 9223372039002292224), .lit (.int .u64 32907), .lit (.int .u64 2147483649), .lit (.int .u64 9223372039002292353), .lit (.int .u64 9223372036854808585), .lit (.int .u64 138), .lit (.int .u64 136), .lit (.int .u64 2147516425), .lit (.int .u64 2147483658), .lit (.int .u64 2147516555), .lit (.int .u64 9223372036854775947), .lit (.int .u64 9223372036854808713), .lit (.int .u64 9223372036854808579), .lit (.int .u64 9223372036854808578), .lit (.int .u64 9223372036854775936), .lit (.int .u64 32778), .lit (.int .u64 9223372039002259466), .lit (.int .u64 9223372039002292353), .lit (.int .u64 9223372036854808704), .lit (.int .u64 2147483649), .lit (.int .u64 9223372039002292232)]

/-- 'redanlaw02.KeccakTheta': WHATEVER THE INPUT: true; the input reads as it did. -/
def keccakThetaSpec : ChangeSpec := { name := "keccakTheta", fn := fun _ => fun
  | [d] => { results := [.lit (.bool true)], args := [d] }
  | _ => none }
def keccakThetaRow : OpenClaim := { program := "ytdfgdaeboidkhaadoor", sum := "e4b96a4572b12ad18181e51afe2e978d00cad3c9fb28eaea73ced60a85c3bed6", func := "redan/redanlaw02.KeccakTheta", spec := "keccakTheta", named := ["redan/keccak.constants", "redan/keccak.turns"], apart := false, laid := [("redan/keccak.turns", laid_redan_keccak_turns), ("redan/keccak.constants", laid_redan_keccak_constants)] }
def KeccakThetaSaid : Prop := keccakThetaRow.holds Tryd.pinned (OpenSpec.ofChange keccakThetaSpec)

/-- ITS FALSE NEIGHBOUR: 'it returns false'. Refute it at one input. -/
def keccakThetaWrong : ChangeSpec := { name := "keccakTheta", fn := fun _ => fun
  | [d] => { results := [.lit (.bool false)], args := [d] }
  | _ => none }
def KeccakThetaWrongFalsely : Prop := keccakThetaRow.holds Tryd.pinned (OpenSpec.ofChange keccakThetaWrong)

/-- 'redanlaw02.KeccakRho': WHATEVER THE INPUT: true; the input reads as it did. -/
def keccakRhoSpec : ChangeSpec := { name := "keccakRho", fn := fun _ => fun
  | [d] => { results := [.lit (.bool true)], args := [d] }
  | _ => none }
def keccakRhoRow : OpenClaim := { program := "ytdfgdaeboidkhaadoor", sum := "e4b96a4572b12ad18181e51afe2e978d00cad3c9fb28eaea73ced60a85c3bed6", func := "redan/redanlaw02.KeccakRho", spec := "keccakRho", named := ["redan/keccak.constants", "redan/keccak.turns"], apart := false, laid := [("redan/keccak.turns", laid_redan_keccak_turns), ("redan/keccak.constants", laid_redan_keccak_constants)] }
def KeccakRhoSaid : Prop := keccakRhoRow.holds Tryd.pinned (OpenSpec.ofChange keccakRhoSpec)

/-- ITS FALSE NEIGHBOUR: 'it returns false'. Refute it at one input. -/
def keccakRhoWrong : ChangeSpec := { name := "keccakRho", fn := fun _ => fun
  | [d] => { results := [.lit (.bool false)], args := [d] }
  | _ => none }
def KeccakRhoWrongFalsely : Prop := keccakRhoRow.holds Tryd.pinned (OpenSpec.ofChange keccakRhoWrong)

/-- 'redanlaw02.KeccakPi': WHATEVER THE INPUT: true; the input reads as it did. -/
def keccakPiSpec : ChangeSpec := { name := "keccakPi", fn := fun _ => fun
  | [d] => { results := [.lit (.bool true)], args := [d] }
  | _ => none }
def keccakPiRow : OpenClaim := { program := "ytdfgdaeboidkhaadoor", sum := "e4b96a4572b12ad18181e51afe2e978d00cad3c9fb28eaea73ced60a85c3bed6", func := "redan/redanlaw02.KeccakPi", spec := "keccakPi", named := ["redan/keccak.constants", "redan/keccak.turns"], apart := false, laid := [("redan/keccak.turns", laid_redan_keccak_turns), ("redan/keccak.constants", laid_redan_keccak_constants)] }
def KeccakPiSaid : Prop := keccakPiRow.holds Tryd.pinned (OpenSpec.ofChange keccakPiSpec)

/-- ITS FALSE NEIGHBOUR: 'it returns false'. Refute it at one input. -/
def keccakPiWrong : ChangeSpec := { name := "keccakPi", fn := fun _ => fun
  | [d] => { results := [.lit (.bool false)], args := [d] }
  | _ => none }
def KeccakPiWrongFalsely : Prop := keccakPiRow.holds Tryd.pinned (OpenSpec.ofChange keccakPiWrong)

/-- 'redanlaw02.KeccakChi': WHATEVER THE INPUT: true; the input reads as it did. -/
def keccakChiSpec : ChangeSpec := { name := "keccakChi", fn := fun _ => fun
  | [d] => { results := [.lit (.bool true)], args := [d] }
  | _ => none }
def keccakChiRow : OpenClaim := { program := "ytdfgdaeboidkhaadoor", sum := "e4b96a4572b12ad18181e51afe2e978d00cad3c9fb28eaea73ced60a85c3bed6", func := "redan/redanlaw02.KeccakChi", spec := "keccakChi", named := ["redan/keccak.constants", "redan/keccak.turns"], apart := false, laid := [("redan/keccak.turns", laid_redan_keccak_turns), ("redan/keccak.constants", laid_redan_keccak_constants)] }
def KeccakChiSaid : Prop := keccakChiRow.holds Tryd.pinned (OpenSpec.ofChange keccakChiSpec)

/-- ITS FALSE NEIGHBOUR: 'it returns false'. Refute it at one input. -/
def keccakChiWrong : ChangeSpec := { name := "keccakChi", fn := fun _ => fun
  | [d] => { results := [.lit (.bool false)], args := [d] }
  | _ => none }
def KeccakChiWrongFalsely : Prop := keccakChiRow.holds Tryd.pinned (OpenSpec.ofChange keccakChiWrong)

/-- 'redanlaw02.KeccakIota': WHATEVER THE INPUT: true; the input reads as it did. -/
def keccakIotaSpec : ChangeSpec := { name := "keccakIota", fn := fun _ => fun
  | [d1, d2] => { results := [.lit (.bool true)], args := [d1, d2] }
  | _ => none }
def keccakIotaRow : OpenClaim := { program := "ytdfgdaeboidkhaadoor", sum := "e4b96a4572b12ad18181e51afe2e978d00cad3c9fb28eaea73ced60a85c3bed6", func := "redan/redanlaw02.KeccakIota", spec := "keccakIota", named := ["redan/keccak.constants", "redan/keccak.turns"], apart := false, laid := [("redan/keccak.turns", laid_redan_keccak_turns), ("redan/keccak.constants", laid_redan_keccak_constants)] }
def KeccakIotaSaid : Prop := keccakIotaRow.holds Tryd.pinned (OpenSpec.ofChange keccakIotaSpec)

/-- ITS FALSE NEIGHBOUR: 'it returns false'. Refute it at one input. -/
def keccakIotaWrong : ChangeSpec := { name := "keccakIota", fn := fun _ => fun
  | [d1, d2] => { results := [.lit (.bool false)], args := [d1, d2] }
  | _ => none }
def KeccakIotaWrongFalsely : Prop := keccakIotaRow.holds Tryd.pinned (OpenSpec.ofChange keccakIotaWrong)

/-- 'redanlaw02.KeccakRound': WHATEVER THE INPUT: true; the input reads as it did. -/
def keccakRoundSpec : ChangeSpec := { name := "keccakRound", fn := fun _ => fun
  | [d1, d2] => { results := [.lit (.bool true)], args := [d1, d2] }
  | _ => none }
def keccakRoundRow : OpenClaim := { program := "ytdfgdaeboidkhaadoor", sum := "e4b96a4572b12ad18181e51afe2e978d00cad3c9fb28eaea73ced60a85c3bed6", func := "redan/redanlaw02.KeccakRound", spec := "keccakRound", named := ["redan/keccak.constants", "redan/keccak.turns"], apart := false, laid := [("redan/keccak.turns", laid_redan_keccak_turns), ("redan/keccak.constants", laid_redan_keccak_constants)] }
def KeccakRoundSaid : Prop := keccakRoundRow.holds Tryd.pinned (OpenSpec.ofChange keccakRoundSpec)

/-- ITS FALSE NEIGHBOUR: 'it returns false'. Refute it at one input. -/
def keccakRoundWrong : ChangeSpec := { name := "keccakRound", fn := fun _ => fun
  | [d1, d2] => { results := [.lit (.bool false)], args := [d1, d2] }
  | _ => none }
def KeccakRoundWrongFalsely : Prop := keccakRoundRow.holds Tryd.pinned (OpenSpec.ofChange keccakRoundWrong)

/-- 'redanlaw02.KeccakAll': WHATEVER THE INPUT: true; the input reads as it did. -/
def keccakAllSpec : ChangeSpec := { name := "keccakAll", fn := fun _ => fun
  | [d] => { results := [.lit (.bool true)], args := [d] }
  | _ => none }
def keccakAllRow : OpenClaim := { program := "ytdfgdaeboidkhaadoor", sum := "e4b96a4572b12ad18181e51afe2e978d00cad3c9fb28eaea73ced60a85c3bed6", func := "redan/redanlaw02.KeccakAll", spec := "keccakAll", named := ["redan/keccak.constants", "redan/keccak.turns"], apart := false, laid := [("redan/keccak.turns", laid_redan_keccak_turns), ("redan/keccak.constants", laid_redan_keccak_constants)] }
def KeccakAllSaid : Prop := keccakAllRow.holds Tryd.pinned (OpenSpec.ofChange keccakAllSpec)

/-- ITS FALSE NEIGHBOUR: 'it returns false'. Refute it at one input. -/
def keccakAllWrong : ChangeSpec := { name := "keccakAll", fn := fun _ => fun
  | [d] => { results := [.lit (.bool false)], args := [d] }
  | _ => none }
def KeccakAllWrongFalsely : Prop := keccakAllRow.holds Tryd.pinned (OpenSpec.ofChange keccakAllWrong)

/-- 'redanlaw02.KeccakAdds': WHATEVER THE INPUT: true; the input reads as it did. -/
def keccakAddsSpec : ChangeSpec := { name := "keccakAdds", fn := fun _ => fun
  | [d1, d2] => { results := [.lit (.bool true)], args := [d1, d2] }
  | _ => none }
def keccakAddsRow : OpenClaim := { program := "ytdfgdaeboidkhaadoor", sum := "e4b96a4572b12ad18181e51afe2e978d00cad3c9fb28eaea73ced60a85c3bed6", func := "redan/redanlaw02.KeccakAdds", spec := "keccakAdds", named := ["redan/keccak.constants", "redan/keccak.turns"], apart := false, laid := [("redan/keccak.turns", laid_redan_keccak_turns), ("redan/keccak.constants", laid_redan_keccak_constants)] }
def KeccakAddsSaid : Prop := keccakAddsRow.holds Tryd.pinned (OpenSpec.ofChange keccakAddsSpec)

/-- ITS FALSE NEIGHBOUR: 'it returns false'. Refute it at one input. -/
def keccakAddsWrong : ChangeSpec := { name := "keccakAdds", fn := fun _ => fun
  | [d1, d2] => { results := [.lit (.bool false)], args := [d1, d2] }
  | _ => none }
def KeccakAddsWrongFalsely : Prop := keccakAddsRow.holds Tryd.pinned (OpenSpec.ofChange keccakAddsWrong)

/-- 'redanlaw02.KeccakMany': WHATEVER THE INPUT: true; the input reads as it did. -/
def keccakManySpec : ChangeSpec := { name := "keccakMany", fn := fun _ => fun
  | [d1, d2, d3] => { results := [.lit (.bool true)], args := [d1, d2, d3] }
  | _ => none }
def keccakManyRow : OpenClaim := { program := "ytdfgdaeboidkhaadoor", sum := "e4b96a4572b12ad18181e51afe2e978d00cad3c9fb28eaea73ced60a85c3bed6", func := "redan/redanlaw02.KeccakMany", spec := "keccakMany", named := ["redan/keccak.constants", "redan/keccak.turns"], apart := false, laid := [("redan/keccak.turns", laid_redan_keccak_turns), ("redan/keccak.constants", laid_redan_keccak_constants)] }
def KeccakManySaid : Prop := keccakManyRow.holds Tryd.pinned (OpenSpec.ofChange keccakManySpec)

/-- ITS FALSE NEIGHBOUR: 'it returns false'. Refute it at one input. -/
def keccakManyWrong : ChangeSpec := { name := "keccakMany", fn := fun _ => fun
  | [d1, d2, d3] => { results := [.lit (.bool false)], args := [d1, d2, d3] }
  | _ => none }
def KeccakManyWrongFalsely : Prop := keccakManyRow.holds Tryd.pinned (OpenSpec.ofChange keccakManyWrong)

/-- 'redanlaw02.KeccakOnes': WHATEVER THE INPUT: true; the input reads as it did. -/
def keccakOnesSpec : ChangeSpec := { name := "keccakOnes", fn := fun _ => fun
  | [d] => { results := [.lit (.bool true)], args := [d] }
  | _ => none }
def keccakOnesRow : OpenClaim := { program := "ytdfgdaeboidkhaadoor", sum := "e4b96a4572b12ad18181e51afe2e978d00cad3c9fb28eaea73ced60a85c3bed6", func := "redan/redanlaw02.KeccakOnes", spec := "keccakOnes", named := ["redan/keccak.constants", "redan/keccak.turns"], apart := false, laid := [("redan/keccak.turns", laid_redan_keccak_turns), ("redan/keccak.constants", laid_redan_keccak_constants)] }
def KeccakOnesSaid : Prop := keccakOnesRow.holds Tryd.pinned (OpenSpec.ofChange keccakOnesSpec)

/-- ITS FALSE NEIGHBOUR: 'it returns false'. Refute it at one input. -/
def keccakOnesWrong : ChangeSpec := { name := "keccakOnes", fn := fun _ => fun
  | [d] => { results := [.lit (.bool false)], args := [d] }
  | _ => none }
def KeccakOnesWrongFalsely : Prop := keccakOnesRow.holds Tryd.pinned (OpenSpec.ofChange keccakOnesWrong)

/- THE SECOND FORM. 'bulk': how many values and letters a reading holds, each counted each time it is reached (what is shared counts as often as it is met; a slice's spare places count too). A statement '..UptoSaid' is the law's where the arguments, and the package variables that the reading takes, are together of bulk at most 1048576: NARROWER than '..Said'. Prove '..Said' where nothing that the law and all that it calls make is longer than what came in: it says more and counts as full. Else prove '..UptoSaid'. A law counts once. -/
mutual
def uptoBulk {H : Type} : DataW H → Nat
  | .lit (.string bytes) => bytes.length + 1
  | .lit _ => 1
  | .nil => 1
  | .ptr d => uptoBulk d + 1
  | .slice elems spare => uptoBulkAll elems + uptoBulkAll spare + 1
  | .agg parts => uptoBulkAll parts + 1
  | .iface _ d => uptoBulk d + 1
  | .map entries => uptoBulkEntries entries + 1
  | .held _ => 1
def uptoBulkAll {H : Type} : List (DataW H) → Nat
  | [] => 0
  | d :: r => uptoBulk d + uptoBulkAll r
def uptoBulkEntries {H : Type} : List (Lit × DataW H) → Nat
  | [] => 0
  | x :: r => uptoBulkEntry x + uptoBulkEntries r
def uptoBulkEntry {H : Type} : Lit × DataW H → Nat
  | (.string bytes, d) => bytes.length + uptoBulk d + 1
  | (_, d) => uptoBulk d + 1
 end
def uptoSmall : (H : Type) → List (DataW H) → Bool := fun _ ds => decide (uptoBulkAll ds ≤ 1048576)
def OpenSpec.upto (s : _root_.Go.ChangeSpec) : _root_.Go.OpenSpec := { _root_.Go.OpenSpec.ofChange s with cond := some uptoSmall }

/-- 'redanlaw02.KeccakTheta', WHERE WHAT IT READS IS OF BULK AT MOST 1048576: true; the input reads as it did. -/
def keccakThetaUptoRow : OpenClaim := { program := "ytdfgdaeboidkhaadoor", sum := "e4b96a4572b12ad18181e51afe2e978d00cad3c9fb28eaea73ced60a85c3bed6", func := "redan/redanlaw02.KeccakTheta", spec := "keccakTheta", named := ["redan/keccak.constants", "redan/keccak.turns"], apart := false, laid := [("redan/keccak.turns", laid_redan_keccak_turns), ("redan/keccak.constants", laid_redan_keccak_constants)], narrowed := true }
def KeccakThetaUptoSaid : Prop := keccakThetaUptoRow.holds Tryd.pinned (OpenSpec.upto keccakThetaSpec)

/-- 'redanlaw02.KeccakRho', WHERE WHAT IT READS IS OF BULK AT MOST 1048576: true; the input reads as it did. -/
def keccakRhoUptoRow : OpenClaim := { program := "ytdfgdaeboidkhaadoor", sum := "e4b96a4572b12ad18181e51afe2e978d00cad3c9fb28eaea73ced60a85c3bed6", func := "redan/redanlaw02.KeccakRho", spec := "keccakRho", named := ["redan/keccak.constants", "redan/keccak.turns"], apart := false, laid := [("redan/keccak.turns", laid_redan_keccak_turns), ("redan/keccak.constants", laid_redan_keccak_constants)], narrowed := true }
def KeccakRhoUptoSaid : Prop := keccakRhoUptoRow.holds Tryd.pinned (OpenSpec.upto keccakRhoSpec)

/-- 'redanlaw02.KeccakPi', WHERE WHAT IT READS IS OF BULK AT MOST 1048576: true; the input reads as it did. -/
def keccakPiUptoRow : OpenClaim := { program := "ytdfgdaeboidkhaadoor", sum := "e4b96a4572b12ad18181e51afe2e978d00cad3c9fb28eaea73ced60a85c3bed6", func := "redan/redanlaw02.KeccakPi", spec := "keccakPi", named := ["redan/keccak.constants", "redan/keccak.turns"], apart := false, laid := [("redan/keccak.turns", laid_redan_keccak_turns), ("redan/keccak.constants", laid_redan_keccak_constants)], narrowed := true }
def KeccakPiUptoSaid : Prop := keccakPiUptoRow.holds Tryd.pinned (OpenSpec.upto keccakPiSpec)

/-- 'redanlaw02.KeccakChi', WHERE WHAT IT READS IS OF BULK AT MOST 1048576: true; the input reads as it did. -/
def keccakChiUptoRow : OpenClaim := { program := "ytdfgdaeboidkhaadoor", sum := "e4b96a4572b12ad18181e51afe2e978d00cad3c9fb28eaea73ced60a85c3bed6", func := "redan/redanlaw02.KeccakChi", spec := "keccakChi", named := ["redan/keccak.constants", "redan/keccak.turns"], apart := false, laid := [("redan/keccak.turns", laid_redan_keccak_turns), ("redan/keccak.constants", laid_redan_keccak_constants)], narrowed := true }
def KeccakChiUptoSaid : Prop := keccakChiUptoRow.holds Tryd.pinned (OpenSpec.upto keccakChiSpec)

/-- 'redanlaw02.KeccakIota', WHERE WHAT IT READS IS OF BULK AT MOST 1048576: true; the input reads as it did. -/
def keccakIotaUptoRow : OpenClaim := { program := "ytdfgdaeboidkhaadoor", sum := "e4b96a4572b12ad18181e51afe2e978d00cad3c9fb28eaea73ced60a85c3bed6", func := "redan/redanlaw02.KeccakIota", spec := "keccakIota", named := ["redan/keccak.constants", "redan/keccak.turns"], apart := false, laid := [("redan/keccak.turns", laid_redan_keccak_turns), ("redan/keccak.constants", laid_redan_keccak_constants)], narrowed := true }
def KeccakIotaUptoSaid : Prop := keccakIotaUptoRow.holds Tryd.pinned (OpenSpec.upto keccakIotaSpec)

/-- 'redanlaw02.KeccakRound', WHERE WHAT IT READS IS OF BULK AT MOST 1048576: true; the input reads as it did. -/
def keccakRoundUptoRow : OpenClaim := { program := "ytdfgdaeboidkhaadoor", sum := "e4b96a4572b12ad18181e51afe2e978d00cad3c9fb28eaea73ced60a85c3bed6", func := "redan/redanlaw02.KeccakRound", spec := "keccakRound", named := ["redan/keccak.constants", "redan/keccak.turns"], apart := false, laid := [("redan/keccak.turns", laid_redan_keccak_turns), ("redan/keccak.constants", laid_redan_keccak_constants)], narrowed := true }
def KeccakRoundUptoSaid : Prop := keccakRoundUptoRow.holds Tryd.pinned (OpenSpec.upto keccakRoundSpec)

/-- 'redanlaw02.KeccakAll', WHERE WHAT IT READS IS OF BULK AT MOST 1048576: true; the input reads as it did. -/
def keccakAllUptoRow : OpenClaim := { program := "ytdfgdaeboidkhaadoor", sum := "e4b96a4572b12ad18181e51afe2e978d00cad3c9fb28eaea73ced60a85c3bed6", func := "redan/redanlaw02.KeccakAll", spec := "keccakAll", named := ["redan/keccak.constants", "redan/keccak.turns"], apart := false, laid := [("redan/keccak.turns", laid_redan_keccak_turns), ("redan/keccak.constants", laid_redan_keccak_constants)], narrowed := true }
def KeccakAllUptoSaid : Prop := keccakAllUptoRow.holds Tryd.pinned (OpenSpec.upto keccakAllSpec)

/-- 'redanlaw02.KeccakAdds', WHERE WHAT IT READS IS OF BULK AT MOST 1048576: true; the input reads as it did. -/
def keccakAddsUptoRow : OpenClaim := { program := "ytdfgdaeboidkhaadoor", sum := "e4b96a4572b12ad18181e51afe2e978d00cad3c9fb28eaea73ced60a85c3bed6", func := "redan/redanlaw02.KeccakAdds", spec := "keccakAdds", named := ["redan/keccak.constants", "redan/keccak.turns"], apart := false, laid := [("redan/keccak.turns", laid_redan_keccak_turns), ("redan/keccak.constants", laid_redan_keccak_constants)], narrowed := true }
def KeccakAddsUptoSaid : Prop := keccakAddsUptoRow.holds Tryd.pinned (OpenSpec.upto keccakAddsSpec)

/-- 'redanlaw02.KeccakMany', WHERE WHAT IT READS IS OF BULK AT MOST 1048576: true; the input reads as it did. -/
def keccakManyUptoRow : OpenClaim := { program := "ytdfgdaeboidkhaadoor", sum := "e4b96a4572b12ad18181e51afe2e978d00cad3c9fb28eaea73ced60a85c3bed6", func := "redan/redanlaw02.KeccakMany", spec := "keccakMany", named := ["redan/keccak.constants", "redan/keccak.turns"], apart := false, laid := [("redan/keccak.turns", laid_redan_keccak_turns), ("redan/keccak.constants", laid_redan_keccak_constants)], narrowed := true }
def KeccakManyUptoSaid : Prop := keccakManyUptoRow.holds Tryd.pinned (OpenSpec.upto keccakManySpec)

/-- 'redanlaw02.KeccakOnes', WHERE WHAT IT READS IS OF BULK AT MOST 1048576: true; the input reads as it did. -/
def keccakOnesUptoRow : OpenClaim := { program := "ytdfgdaeboidkhaadoor", sum := "e4b96a4572b12ad18181e51afe2e978d00cad3c9fb28eaea73ced60a85c3bed6", func := "redan/redanlaw02.KeccakOnes", spec := "keccakOnes", named := ["redan/keccak.constants", "redan/keccak.turns"], apart := false, laid := [("redan/keccak.turns", laid_redan_keccak_turns), ("redan/keccak.constants", laid_redan_keccak_constants)], narrowed := true }
def KeccakOnesUptoSaid : Prop := keccakOnesUptoRow.holds Tryd.pinned (OpenSpec.upto keccakOnesSpec)

end Rows
end Go.Proofs.YtdfgdaeboidkhaaDoor
