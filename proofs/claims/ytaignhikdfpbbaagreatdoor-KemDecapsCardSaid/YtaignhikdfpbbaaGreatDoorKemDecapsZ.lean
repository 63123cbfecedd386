/- KemDecaps answers true at every input, and its arguments read behind the call as before; the package's tables that the row lists hold what the program's text lays. -/
import Derived.Test.YtaignhikdfpbbaaGreatDoorKd36
import Derived.Test.YtaignhikdfpbbaaGreatDoorKd37
import Derived.Test.YtaignhikdfpbbaaGreatDoorCards
import Derived.Test.YtaignhikdfpbbaaGreatDoorTie
set_option maxRecDepth 100000
set_option maxHeartbeats 4000000
namespace Go.Proofs.YtaignhikdfpbbaaGreatDoor.kemDecapsX
open Go.RowKit Go.Rx Go.ChangeShapes Go.WideShapes Go.ChangeAt
theorem own : ownKnob Tryz.prog.godebug = none := by kernel_rfl
theorem globs {W : World} (h : laidMetH Tryz.prog Rows.kemDecapsRow.laid W) : Glob W := by
  have h : laidMet Tryz.prog Rows.kemDecapsRow.laid W := h
  exact ⟨(glob_of_reads (zs := (consts.map fun x : UInt64 => (x.toNat : Int))) (Lib.laidMet.reads h (n := "redan/keccak.constants") (by first | exact List.mem_cons_self | exact List.mem_cons_of_mem _ List.mem_cons_self | exact List.mem_cons_of_mem _ (List.mem_cons_of_mem _ List.mem_cons_self))) (by kernel_rfl) (by kernel_rfl) Tryz.underlying115 Tryz.underlying98 (by kernel_rfl) (by kernel_rfl)), (glob_of_reads (zs := (turns.map fun x : Nat => (x : Int))) (Lib.laidMet.reads h (n := "redan/keccak.turns") (by first | exact List.mem_cons_self | exact List.mem_cons_of_mem _ List.mem_cons_self | exact List.mem_cons_of_mem _ (List.mem_cons_of_mem _ List.mem_cons_self))) (by kernel_rfl) (by kernel_rfl) Tryz.underlying120 Tryz.underlying3 (by kernel_rfl) (by kernel_rfl))⟩
theorem globsP {W : World} (h : laidMetH Tryz.prog Rows.kemDecapsRow.laid W) : GlobP W := by
  have h : laidMet Tryz.prog Rows.kemDecapsRow.laid W := h
  exact (glob_of_reads (zs := (powers.map fun x : Nat => (x : Int))) (Lib.laidMet.reads h (n := "redan/zq.powers") (by first | exact List.mem_cons_self | exact List.mem_cons_of_mem _ List.mem_cons_self | exact List.mem_cons_of_mem _ (List.mem_cons_of_mem _ List.mem_cons_self))) (by kernel_rfl) (by kernel_rfl) Tryz.underlying109 Tryz.underlying3 (by kernel_rfl) (by kernel_rfl))
theorem contract (H : Type) (enc : TypeId × Value → H) (W : World) (base : Nat) (args : Array Value) (ds gs : List (DataW H)) (before : List MemPlace)
    (hval : ∀ (j : Nat) t v, Tryz.f9.params[j]? = some t → args[j]? = some v → Value.okWide Tryz.prog W .any base t v)
    (hW : DataW.Whole enc Tryz.prog Tryz.f9.params.toList Rows.kemDecapsSpec.vars false W args.toList ds gs before) (hL : laidMetH Tryz.prog Rows.kemDecapsRow.laid W) (hR : (DataW.weightsEach Tryz.prog (Tryz.f9.params.toList ++ (OpenSpec.ofChange Rows.kemDecapsSpec).bare.plain.varTypes Tryz.prog) (ds ++ gs)).all (· ≤ reachBytes) = true) :
    Calls Tryz.prog 9 args W fun e W' => ∃ v, e = .returned v ∧ Rows.kemDecapsSpec.post enc Tryz.prog Tryz.f9 false true false false W args v W' := by
  have hW' := hW
  obtain ⟨p, q, hA0, hV, rfl, hfz, hnd⟩ := hW
  have hA : DataW.TrodAll enc Tryz.prog W 0 (fun _ => true) true Tryz.f9.params.toList args.toList ds p := hA0
  rw [Tryz.params9] at hA hval
  obtain ⟨v0, vs0, d0, ds0, p0, q0, hargs, rfl, rfl, h0, r0⟩ := trodAll_cons hA
  obtain ⟨v1, vs1, d1, ds1, p1, q1, rfl, rfl, rfl, h1, r1⟩ := trodAll_cons r0
  obtain ⟨v2, vs2, d2, ds2, p2, q2, rfl, rfl, rfl, h2, r2⟩ := trodAll_cons r1
  obtain ⟨v3, vs3, d3, ds3, p3, q3, rfl, rfl, rfl, h3, r3⟩ := trodAll_cons r2
  obtain ⟨v4, vs4, d4, ds4, p4, q4, rfl, rfl, rfl, h4, r4⟩ := trodAll_cons r3
  obtain ⟨rfl, rfl, rfl⟩ := trodAll_nil r4
  obtain rfl : args = #[v0, v1, v2, v3, v4] := by cases args; simp_all
  obtain ⟨rfl, rfl⟩ := trodVars_none hV
  obtain ⟨l0, hs0, hl0⟩ := open_bytes Tryz.underlying22 Tryz.underlying5 (by kernel_rfl) (hval 0 22 v0 rfl rfl) h0
  obtain ⟨l1, hs1, hl1⟩ := open_bytes Tryz.underlying22 Tryz.underlying5 (by kernel_rfl) (hval 1 22 v1 rfl rfl) h1
  obtain ⟨l2, hs2, hl2⟩ := open_bytes Tryz.underlying22 Tryz.underlying5 (by kernel_rfl) (hval 2 22 v2 rfl rfl) h2
  obtain ⟨l3, hs3, hl3⟩ := open_bytes Tryz.underlying22 Tryz.underlying5 (by kernel_rfl) (hval 3 22 v3 rfl rfl) h3
  obtain ⟨l4, hs4, hl4⟩ := open_numbers Tryz.underlying36 Tryz.underlying3 (by kernel_rfl) (hval 4 36 v4 rfl rfl) h4
  rw [Tryz.params9] at hR
  simp only [List.cons_append, List.nil_append, List.append_nil, DataW.weightsEach, List.all_append, Bool.and_eq_true] at hR
  have hre2 := bytes_reach Tryz.underlying22 Tryz.underlying5 (by kernel_rfl) (by kernel_rfl) (hval 2 22 v2 rfl rfl) h2 hs2 hR.2.2.1
  simp only [List.append_nil] at hW'
  refine (law_KemDecaps v0 l0 v1 l1 v2 l2 v3 l3 v4 l4 W hs0 hs1 hs2 hs3 hs4 (Nat.le_trans hre2 (by decide)) (globs hL) (globsP hL)).mono fun e W' ⟨he, hb⟩ => ?_
  subst he
  have hT : ∀ t ∈ Tryz.f9.params.toList, Tryz.prog.readableRec t = true ∧ t < Tryz.prog.types.size := by
    intro t ht
    rw [Tryz.params9] at ht
    have hu : ∀ u, (u = 22 ∨ u = 22 ∨ u = 22 ∨ u = 22 ∨ u = 36) → Tryz.prog.readableRec u = true ∧ u < Tryz.prog.types.size := fun u hu => by rcases hu with rfl | rfl | rfl | rfl | rfl <;> exact ⟨by kernel_rfl, of_decide_eq_true (by kernel_rfl)⟩
    simp only [List.mem_cons, List.not_mem_nil, or_false] at ht
    exact hu t ht
  have hlt := hW'.lt
  have hA1 := hA0
  simp only [List.append_nil] at hA1
  exact ⟨_, rfl, post_below (pa := _) (pv := []) hW' (fun _ _ _ => trodAll_cons_mk (shut_bool Tryz.underlying4 _) trodAll_mk0) (fun sp hsp => trodAll_sp (by kernel_rfl) hT hA1 hb hlt hsp) (fun _ _ => rfl) (by simp) hb (ok_one (by kernel_rfl) rfl (okWide_bool_mk Tryz.underlying4 _))⟩
noncomputable def laidWorld (os : Os) : World :=
  { World.holding Tryz.prog os ⟨#[], #[], []⟩ with heap := layAt 2 (turns.map en) (layAt 1 (consts.map e64) (layAt 0 (powers.map en) ((World.holding Tryz.prog os ⟨#[], #[], []⟩).heap))) }
theorem laid_met (os : Os) : laidMet Tryz.prog Rows.kemDecapsRow.laid ((laidWorld os).forCall (fun _ _ => 0) ⟨#[], #[.slice none 0 0, .slice none 0 0, .slice none 0 0, .slice none 0 0, .slice none 0 0], []⟩).memory :=
  laidMet_of_run' 8 (by kernel_rfl) (by kernel_rfl)
theorem reads (os : Os) {H : Type} (enc : TypeId × Value → H) : ∃ places, DataW.whole enc Tryz.prog ((laidWorld os).forCall (fun _ _ => 0) ⟨#[], #[.slice none 0 0, .slice none 0 0, .slice none 0 0, .slice none 0 0, .slice none 0 0], []⟩).memory Tryz.f9.params.toList Rows.kemDecapsSpec.vars false (#[.slice none 0 0, .slice none 0 0, .slice none 0 0, .slice none 0 0, .slice none 0 0] : Array Value).toList 8 = some ([.nil, .nil, .nil, .nil, .nil], [], places) :=
  ⟨[], by kernel_rfl⟩
theorem lifted (os : Os) (started : os.Started) (H : Type) (enc : TypeId × Value → H) (F : Stop.Interp) :
    ReturnsInHanded {} Tryz.checked os 9 .any ((OpenSpec.ofChange Rows.kemDecapsSpec).preRow enc Tryz.prog Tryz.f9 Rows.kemDecapsRow.domain false Rows.kemDecapsRow.laid) (((OpenSpec.ofChange Rows.kemDecapsSpec).at F).post enc Tryz.prog Tryz.f9 false true false false) := by
  obtain ⟨places, hx⟩ := reads os enc
  refine returnsInHanded_of_row (C := Tryz.checked) (s := OpenSpec.ofChange Rows.kemDecapsSpec) own started (by kernel_rfl) Tryz.func9
    (witness_row_at (enc := enc) (C := Tryz.checked) false (laidWorld os) #[.slice none 0 0, .slice none 0 0, .slice none 0 0, .slice none 0 0, .slice none 0 0] rfl (by kernel_rfl) (by kernel_rfl) (by kernel_rfl)
      (OpenSpec.preRow_of_cond 8 hx (by kernel_rfl) (fun k hk => by cases hk) (by kernel_rfl) (laid_met os))) ?_
  intro W base args ds gs before hval hW _ _ hR hL _ _
  exact contract H enc W base args ds gs before hval hW hL hR
theorem said : Rows.KemDecapsSaid :=
  OpenClaim.holds_of_cond 9 Tryz.f9 rfl rfl rfl rfl rfl rfl rfl ⟨rfl, rfl, rfl, rfl, rfl⟩ rfl rfl rfl rfl rfl (by kernel_rfl) Tryz.func9 (by kernel_rfl)
    (of_decide_eq_true (by kernel_rfl)) (by unfold Func.isWrapper; first | (rw [if_pos (by decide +kernel)]; kernel_rfl) | (rw [if_neg (by decide +kernel)]; exact ⟨rfl, rfl⟩))
    (fun os started H enc _ F => by rw [OpenClaim.pre_eq_preRow]; exact lifted os started H enc F)
theorem plain (f : FuncId) (fn : Func) (hf : Tryz.pinned.checked.prog.funcNamed "redan/redanlaw14.KemDecaps" = some f) (hfn : Tryz.pinned.checked.prog.funcs[f]? = some fn) :
    false = Tryz.pinned.checked.prog.looks [] ∧ ∀ (j : Nat) t, fn.params[j]? = some t → Tryz.pinned.checked.prog.wantsStandIn t = false := by
  obtain rfl : f = 9 := Option.some.inj ((show Tryz.prog.funcNamed "redan/redanlaw14.KemDecaps" = some 9 by kernel_rfl).symm.trans hf) |>.symm
  obtain rfl : fn = Tryz.f9 := (Option.some.inj (Tryz.func9.symm.trans hfn)).symm
  refine ⟨by kernel_rfl, fun j t ht => ?_⟩
  rw [Tryz.params9] at ht
  have hm := Array.mem_of_getElem? ht
  simp only [List.mem_toArray, List.mem_cons, List.not_mem_nil, or_false] at hm
  have hs : ∀ u, (u = 22 ∨ u = 22 ∨ u = 22 ∨ u = 22 ∨ u = 36) → Tryz.prog.wantsStandIn u = false := fun u hu => by rcases hu with rfl | rfl | rfl | rfl | rfl <;> kernel_rfl
  exact hs t hm
theorem card : Rows.KemDecapsCardSaid :=
  Claim7.holds_tied_plain_at .later [] _ _ _ _ said (fun _ h => by cases h) (by kernel_rfl) (fun _ h => by cases h) kemDecaps_row_tie rfl ⟨rfl, rfl⟩ (by kernel_rfl) rfl plain (by kernel_rfl)
end Go.Proofs.YtaignhikdfpbbaaGreatDoor.kemDecapsX
namespace Go.Proofs.YtaignhikdfpbbaaGreatDoor
theorem kemDecaps_holds : Rows.KemDecapsCardSaid := kemDecapsX.card
#print axioms kemDecaps_holds
end Go.Proofs.YtaignhikdfpbbaaGreatDoor
