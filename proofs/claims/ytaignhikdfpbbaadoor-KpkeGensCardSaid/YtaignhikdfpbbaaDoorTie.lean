/-
  DERIVED. GIVEN WITH THE SEED: THE PROGRAM's TIES (one call each: nine closed facts by the kernel) AND EACH ROW's TIE, after the 31st guide's Derived/Test/Toyas{Tie, Card}.lean. No idea stands in it: it is a product of the set-up. Laid BY PROGRAM, IN A SANDBOX (cutbox-door.mjs). By AI agents, Wed Nov 11 2026. No macro, syntax, notation, axiom, sorry.
-/
import Derived.Test.YtaignhikdfpbbaaDoorRows
import Derived.LaidByTextLater
import Derived.SevenTiedAt
import Derived.LaidSub
import Derived.LaidOnce
namespace Go.Proofs.YtaignhikdfpbbaaDoor
open Go
set_option maxRecDepth 100000
theorem seatTie1 : Tryd.prog.laidByTextLater [("redan/keccak.turns", Rows.laid_redan_keccak_turns), ("redan/keccak.constants", Rows.laid_redan_keccak_constants), ("redan/zq.powers", Rows.laid_redan_zq_powers)] [.data, .data, .data] true :=
  Program.laidByTextLater_by_one 24 8 26 (by kernel_rfl) (by kernel_rfl) (by kernel_rfl) (by kernel_rfl) (by kernel_rfl) (by kernel_rfl) (fun _ _ => by kernel_rfl)
theorem noOwnUnsafe : Tryd.pinned.checked.prog.headLifts.contains "ownunsafe" = false := by kernel_rfl
theorem tie : Tryd.prog.laidByTextLater [("redan/keccak.turns", Rows.laid_redan_keccak_turns), ("redan/keccak.constants", Rows.laid_redan_keccak_constants)] [.data, .data] true :=
  Program.laidByTextLater.sub seatTie1 ["redan/keccak.turns", "redan/keccak.constants"] (by kernel_rfl) (by kernel_rfl)
theorem sampleUniform_row_tie : Rows.sampleUniformRow.laidByTextAt .later Tryd.pinned [.data, .data] true :=
  OpenClaim.laidByTextAt_later rfl rfl tie noOwnUnsafe
theorem sampleNoise_row_tie : Rows.sampleNoiseRow.laidByTextAt .later Tryd.pinned [.data, .data] true :=
  OpenClaim.laidByTextAt_later rfl rfl tie noOwnUnsafe
theorem samplePacks_row_tie : Rows.samplePacksRow.laidByTextAt .later Tryd.pinned [.data, .data] true :=
  OpenClaim.laidByTextAt_later rfl rfl tie noOwnUnsafe
theorem sampleRounds_row_tie : Rows.sampleRoundsRow.laidByTextAt .later Tryd.pinned [.data, .data] true :=
  OpenClaim.laidByTextAt_later rfl rfl tie noOwnUnsafe
theorem sampleBack_row_tie : Rows.sampleBackRow.laidByTextAt .later Tryd.pinned [.data, .data] true :=
  OpenClaim.laidByTextAt_later rfl rfl tie noOwnUnsafe
theorem sampleBits_row_tie : Rows.sampleBitsRow.laidByTextAt .later Tryd.pinned [.data, .data] true :=
  OpenClaim.laidByTextAt_later rfl rfl tie noOwnUnsafe
theorem sampleSmall_row_tie : Rows.sampleSmallRow.laidByTextAt .later Tryd.pinned [.data, .data] true :=
  OpenClaim.laidByTextAt_later rfl rfl tie noOwnUnsafe
theorem tie2 : Tryd.prog.laidByTextLater [("redan/keccak.turns", Rows.laid_redan_keccak_turns), ("redan/keccak.constants", Rows.laid_redan_keccak_constants), ("redan/zq.powers", Rows.laid_redan_zq_powers)] [.data, .data, .data] true :=
  Program.laidByTextLater.sub seatTie1 ["redan/keccak.turns", "redan/keccak.constants", "redan/zq.powers"] (by kernel_rfl) (by kernel_rfl)
theorem kpkeGens_row_tie : Rows.kpkeGensRow.laidByTextAt .later Tryd.pinned [.data, .data, .data] true :=
  OpenClaim.laidByTextAt_later rfl rfl tie2 noOwnUnsafe
theorem sampleUniformUpto_row_tie : Rows.sampleUniformUptoRow.laidByTextAt .later Tryd.pinned [.data, .data] true :=
  OpenClaim.laidByTextAt_later rfl rfl tie noOwnUnsafe
theorem sampleNoiseUpto_row_tie : Rows.sampleNoiseUptoRow.laidByTextAt .later Tryd.pinned [.data, .data] true :=
  OpenClaim.laidByTextAt_later rfl rfl tie noOwnUnsafe
theorem samplePacksUpto_row_tie : Rows.samplePacksUptoRow.laidByTextAt .later Tryd.pinned [.data, .data] true :=
  OpenClaim.laidByTextAt_later rfl rfl tie noOwnUnsafe
theorem sampleRoundsUpto_row_tie : Rows.sampleRoundsUptoRow.laidByTextAt .later Tryd.pinned [.data, .data] true :=
  OpenClaim.laidByTextAt_later rfl rfl tie noOwnUnsafe
theorem sampleBackUpto_row_tie : Rows.sampleBackUptoRow.laidByTextAt .later Tryd.pinned [.data, .data] true :=
  OpenClaim.laidByTextAt_later rfl rfl tie noOwnUnsafe
theorem sampleBitsUpto_row_tie : Rows.sampleBitsUptoRow.laidByTextAt .later Tryd.pinned [.data, .data] true :=
  OpenClaim.laidByTextAt_later rfl rfl tie noOwnUnsafe
theorem sampleSmallUpto_row_tie : Rows.sampleSmallUptoRow.laidByTextAt .later Tryd.pinned [.data, .data] true :=
  OpenClaim.laidByTextAt_later rfl rfl tie noOwnUnsafe
theorem kpkeGensUpto_row_tie : Rows.kpkeGensUptoRow.laidByTextAt .later Tryd.pinned [.data, .data, .data] true :=
  OpenClaim.laidByTextAt_later rfl rfl tie2 noOwnUnsafe
end Go.Proofs.YtaignhikdfpbbaaDoor
