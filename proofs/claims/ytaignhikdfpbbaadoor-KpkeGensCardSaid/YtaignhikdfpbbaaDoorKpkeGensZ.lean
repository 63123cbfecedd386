/- KpkeGens answers true at every input, and its arguments read behind the call as before; the package's tables that the row lists hold what the program's text lays. -/
import Derived.Test.YtaignhikdfpbbaaDoorKg6
import Derived.Test.YtaignhikdfpbbaaDoorCards
import Derived.Test.YtaignhikdfpbbaaDoorTie
set_option maxRecDepth 100000
set_option maxHeartbeats 4000000
namespace Go.Proofs.YtaignhikdfpbbaaDoor.kpkeGensX
open Go.RowKit Go.Rx Go.ChangeShapes Go.WideShapes Go.ChangeAt
theorem own : ownKnob Tryd.prog.godebug = none := by kernel_rfl
theorem globs {W : World} (h : laidMetH Tryd.prog Rows.kpkeGensRow.laid W) : Glob W := by
  have h : laidMet Tryd.prog Rows.kpkeGensRow.laid W := h
  exact ⟨(glob_of_reads (zs := (consts.map fun x : UInt64 => (x.toNat : Int))) (Lib.laidMet.reads h (n := "redan/keccak.constants") (by first | exact List.mem_cons_self | exact List.mem_cons_of_mem _ List.mem_cons_self | exact List.mem_cons_of_mem _ (List.mem_cons_of_mem _ List.mem_cons_self))) (by kernel_rfl) (by kernel_rfl) Tryd.underlying101 Tryd.underlying83 (by kernel_rfl) (by kernel_rfl)), (glob_of_reads (zs := (turns.map fun x : Nat => (x : Int))) (Lib.laidMet.reads h (n := "redan/keccak.turns") (by first | exact List.mem_cons_self | exact List.mem_cons_of_mem _ List.mem_cons_self | exact List.mem_cons_of_mem _ (List.mem_cons_of_mem _ List.mem_cons_self))) (by kernel_rfl) (by kernel_rfl) Tryd.underlying109 Tryd.underlying3 (by kernel_rfl) (by kernel_rfl))⟩
theorem globsP {W : World} (h : laidMetH Tryd.prog Rows.kpkeGensRow.laid W) : GlobP W := by
  have h : laidMet Tryd.prog Rows.kpkeGensRow.laid W := h
  exact (glob_of_reads (zs := (powers.map fun x : Nat => (x : Int))) (Lib.laidMet.reads h (n := "redan/zq.powers") (by first | exact List.mem_cons_self | exact List.mem_cons_of_mem _ List.mem_cons_self | exact List.mem_cons_of_mem _ (List.mem_cons_of_mem _ List.mem_cons_self))) (by kernel_rfl) (by kernel_rfl) Tryd.underlying106 Tryd.underlying3 (by kernel_rfl) (by kernel_rfl))
theorem contract (H : Type) (enc : TypeId × Value → H) (W : World) (base : Nat) (args : Array Value) (ds gs : List (DataW H)) (before : List MemPlace)
    (hval : ∀ (j : Nat) t v, Tryd.f10.params[j]? = some t → args[j]? = some v → Value.okWide Tryd.prog W .any base t v)
    (hW : DataW.Whole enc Tryd.prog Tryd.f10.params.toList Rows.kpkeGensSpec.vars false W args.toList ds gs before) (hL : laidMetH Tryd.prog Rows.kpkeGensRow.laid W) :
    Calls Tryd.prog 10 args W fun e W' => ∃ v, e = .returned v ∧ Rows.kpkeGensSpec.post enc Tryd.prog Tryd.f10 false true false false W args v W' := by
  have hW' := hW
  obtain ⟨p, q, hA0, hV, rfl, hfz, hnd⟩ := hW
  have hA : DataW.TrodAll enc Tryd.prog W 0 (fun _ => true) true Tryd.f10.params.toList args.toList ds p := hA0
  rw [Tryd.params10] at hA hval
  obtain ⟨v0, vs0, d0, ds0, p0, q0, hargs, rfl, rfl, h0, r0⟩ := trodAll_cons hA
  obtain ⟨rfl, rfl, rfl⟩ := trodAll_nil r0
  obtain rfl : args = #[v0] := by cases args; simp_all
  obtain ⟨rfl, rfl⟩ := trodVars_none hV
  obtain ⟨l0, hs0, hl0⟩ := open_bytes Tryd.underlying22 Tryd.underlying5 (by kernel_rfl) (hval 0 22 v0 rfl rfl) h0
  simp only [List.append_nil] at hW'
  refine (law_KpkeGens v0 l0 W hs0 (globs hL) (globsP hL)).mono fun e W' ⟨he, hb⟩ => ?_
  subst he
  have hT : ∀ t ∈ Tryd.f10.params.toList, Tryd.prog.readableRec t = true ∧ t < Tryd.prog.types.size := by
    intro t ht
    rw [Tryd.params10] at ht
    have hu : ∀ u, (u = 22) → Tryd.prog.readableRec u = true ∧ u < Tryd.prog.types.size := fun u hu => by rcases hu with rfl <;> exact ⟨by kernel_rfl, of_decide_eq_true (by kernel_rfl)⟩
    simp only [List.mem_cons, List.not_mem_nil, or_false] at ht
    exact hu t ht
  have hlt := hW'.lt
  have hA1 := hA0
  simp only [List.append_nil] at hA1
  exact ⟨_, rfl, post_below (pa := _) (pv := []) hW' (fun _ _ _ => trodAll_cons_mk (shut_bool Tryd.underlying4 _) trodAll_mk0) (fun sp hsp => trodAll_sp (by kernel_rfl) hT hA1 hb hlt hsp) (fun _ _ => rfl) (by simp) hb (ok_one (by kernel_rfl) rfl (okWide_bool_mk Tryd.underlying4 _))⟩
noncomputable def laidWorld (os : Os) : World :=
  { World.holding Tryd.prog os ⟨#[], #[], []⟩ with heap := layAt 2 (turns.map en) (layAt 1 (consts.map e64) (layAt 0 (powers.map en) ((World.holding Tryd.prog os ⟨#[], #[], []⟩).heap))) }
theorem laid_met (os : Os) : laidMet Tryd.prog Rows.kpkeGensRow.laid ((laidWorld os).forCall (fun _ _ => 0) ⟨#[], #[.slice none 0 0], []⟩).memory :=
  laidMet_of_run' 8 (by kernel_rfl) (by kernel_rfl)
theorem reads (os : Os) {H : Type} (enc : TypeId × Value → H) : ∃ places, DataW.whole enc Tryd.prog ((laidWorld os).forCall (fun _ _ => 0) ⟨#[], #[.slice none 0 0], []⟩).memory Tryd.f10.params.toList Rows.kpkeGensSpec.vars false (#[.slice none 0 0] : Array Value).toList 8 = some ([.nil], [], places) :=
  ⟨[], by kernel_rfl⟩
theorem lifted (os : Os) (started : os.Started) (H : Type) (enc : TypeId × Value → H) (F : Stop.Interp) :
    ReturnsInHanded {} Tryd.checked os 10 .any ((OpenSpec.ofChange Rows.kpkeGensSpec).preRow enc Tryd.prog Tryd.f10 Rows.kpkeGensRow.domain false Rows.kpkeGensRow.laid) (((OpenSpec.ofChange Rows.kpkeGensSpec).at F).post enc Tryd.prog Tryd.f10 false true false false) := by
  obtain ⟨places, hx⟩ := reads os enc
  refine returnsInHanded_of_row (C := Tryd.checked) (s := OpenSpec.ofChange Rows.kpkeGensSpec) own started (by kernel_rfl) Tryd.func10
    (witness_row_at (enc := enc) (C := Tryd.checked) false (laidWorld os) #[.slice none 0 0] rfl (by kernel_rfl) (by kernel_rfl) (by kernel_rfl)
      (OpenSpec.preRow_of_cond 8 hx (by kernel_rfl) (fun k hk => by cases hk) (by kernel_rfl) (laid_met os))) ?_
  intro W base args ds gs before hval hW _ _ _ hL _ _
  exact contract H enc W base args ds gs before hval hW hL
theorem said : Rows.KpkeGensSaid :=
  OpenClaim.holds_of_cond 10 Tryd.f10 rfl rfl rfl rfl rfl rfl rfl ⟨rfl, rfl, rfl, rfl, rfl⟩ rfl rfl rfl rfl rfl (by kernel_rfl) Tryd.func10 (by kernel_rfl)
    (of_decide_eq_true (by kernel_rfl)) (by unfold Func.isWrapper; first | (rw [if_pos (by decide +kernel)]; kernel_rfl) | (rw [if_neg (by decide +kernel)]; exact ⟨rfl, rfl⟩))
    (fun os started H enc _ F => by rw [OpenClaim.pre_eq_preRow]; exact lifted os started H enc F)
theorem plain (f : FuncId) (fn : Func) (hf : Tryd.pinned.checked.prog.funcNamed "redan/redanlaw13.KpkeGens" = some f) (hfn : Tryd.pinned.checked.prog.funcs[f]? = some fn) :
    false = Tryd.pinned.checked.prog.looks [] ∧ ∀ (j : Nat) t, fn.params[j]? = some t → Tryd.pinned.checked.prog.wantsStandIn t = false := by
  obtain rfl : f = 10 := Option.some.inj ((show Tryd.prog.funcNamed "redan/redanlaw13.KpkeGens" = some 10 by kernel_rfl).symm.trans hf) |>.symm
  obtain rfl : fn = Tryd.f10 := (Option.some.inj (Tryd.func10.symm.trans hfn)).symm
  refine ⟨by kernel_rfl, fun j t ht => ?_⟩
  rw [Tryd.params10] at ht
  have hm := Array.mem_of_getElem? ht
  simp only [List.mem_toArray, List.mem_cons, List.not_mem_nil, or_false] at hm
  have hs : ∀ u, (u = 22) → Tryd.prog.wantsStandIn u = false := fun u hu => by rcases hu with rfl <;> kernel_rfl
  exact hs t hm
theorem card : Rows.KpkeGensCardSaid :=
  Claim7.holds_tied_plain_at .later [] _ _ _ _ said (fun _ h => by cases h) (by kernel_rfl) (fun _ h => by cases h) kpkeGens_row_tie rfl ⟨rfl, rfl⟩ (by kernel_rfl) rfl plain (by kernel_rfl)
end Go.Proofs.YtaignhikdfpbbaaDoor.kpkeGensX
namespace Go.Proofs.YtaignhikdfpbbaaDoor
theorem kpkeGens_holds : Rows.KpkeGensCardSaid := kpkeGensX.card
#print axioms kpkeGens_holds
end Go.Proofs.YtaignhikdfpbbaaDoor
