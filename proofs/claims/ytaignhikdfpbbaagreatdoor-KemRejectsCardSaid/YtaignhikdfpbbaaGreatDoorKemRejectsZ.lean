/- KemRejects answers true at every input, and its arguments read behind the call as before; the package's tables that the row lists hold what the program's text lays. -/
import Derived.Test.YtaignhikdfpbbaaGreatDoorKr36
import Derived.Test.YtaignhikdfpbbaaGreatDoorCards
import Derived.Test.YtaignhikdfpbbaaGreatDoorTie
set_option maxRecDepth 100000
set_option maxHeartbeats 4000000
namespace Go.Proofs.YtaignhikdfpbbaaGreatDoor.kemRejectsX
open Go.RowKit Go.Rx Go.ChangeShapes Go.WideShapes Go.ChangeAt
theorem own : ownKnob Tryz.prog.godebug = none := by kernel_rfl
theorem globs {W : World} (h : laidMetH Tryz.prog Rows.kemRejectsRow.laid W) : Glob W := by
  have h : laidMet Tryz.prog Rows.kemRejectsRow.laid W := h
  exact ⟨(glob_of_reads (zs := (consts.map fun x : UInt64 => (x.toNat : Int))) (Lib.laidMet.reads h (n := "redan/keccak.constants") (by first | exact List.mem_cons_self | exact List.mem_cons_of_mem _ List.mem_cons_self | exact List.mem_cons_of_mem _ (List.mem_cons_of_mem _ List.mem_cons_self))) (by kernel_rfl) (by kernel_rfl) Tryz.underlying115 Tryz.underlying98 (by kernel_rfl) (by kernel_rfl)), (glob_of_reads (zs := (turns.map fun x : Nat => (x : Int))) (Lib.laidMet.reads h (n := "redan/keccak.turns") (by first | exact List.mem_cons_self | exact List.mem_cons_of_mem _ List.mem_cons_self | exact List.mem_cons_of_mem _ (List.mem_cons_of_mem _ List.mem_cons_self))) (by kernel_rfl) (by kernel_rfl) Tryz.underlying120 Tryz.underlying3 (by kernel_rfl) (by kernel_rfl))⟩
theorem globsP {W : World} (h : laidMetH Tryz.prog Rows.kemRejectsRow.laid W) : GlobP W := by
  have h : laidMet Tryz.prog Rows.kemRejectsRow.laid W := h
  exact (glob_of_reads (zs := (powers.map fun x : Nat => (x : Int))) (Lib.laidMet.reads h (n := "redan/zq.powers") (by first | exact List.mem_cons_self | exact List.mem_cons_of_mem _ List.mem_cons_self | exact List.mem_cons_of_mem _ (List.mem_cons_of_mem _ List.mem_cons_self))) (by kernel_rfl) (by kernel_rfl) Tryz.underlying109 Tryz.underlying3 (by kernel_rfl) (by kernel_rfl))
theorem contract (H : Type) (enc : TypeId × Value → H) (W : World) (base : Nat) (args : Array Value) (ds gs : List (DataW H)) (before : List MemPlace)
    (hval : ∀ (j : Nat) t v, Tryz.f10.params[j]? = some t → args[j]? = some v → Value.okWide Tryz.prog W .any base t v)
    (hW : DataW.Whole enc Tryz.prog Tryz.f10.params.toList Rows.kemRejectsSpec.vars false W args.toList ds gs before) (hL : laidMetH Tryz.prog Rows.kemRejectsRow.laid W) :
    Calls Tryz.prog 10 args W fun e W' => ∃ v, e = .returned v ∧ Rows.kemRejectsSpec.post enc Tryz.prog Tryz.f10 false true false false W args v W' := by
  have hW' := hW
  obtain ⟨p, q, hA0, hV, rfl, hfz, hnd⟩ := hW
  have hA : DataW.TrodAll enc Tryz.prog W 0 (fun _ => true) true Tryz.f10.params.toList args.toList ds p := hA0
  rw [Tryz.params10] at hA hval
  obtain ⟨v0, vs0, d0, ds0, p0, q0, hargs, rfl, rfl, h0, r0⟩ := trodAll_cons hA
  obtain ⟨v1, vs1, d1, ds1, p1, q1, rfl, rfl, rfl, h1, r1⟩ := trodAll_cons r0
  obtain ⟨v2, vs2, d2, ds2, p2, q2, rfl, rfl, rfl, h2, r2⟩ := trodAll_cons r1
  obtain ⟨v3, vs3, d3, ds3, p3, q3, rfl, rfl, rfl, h3, r3⟩ := trodAll_cons r2
  obtain ⟨rfl, rfl, rfl⟩ := trodAll_nil r3
  obtain rfl : args = #[v0, v1, v2, v3] := by cases args; simp_all
  obtain ⟨rfl, rfl⟩ := trodVars_none hV
  obtain ⟨l0, rfl, hl0, rfl, t0⟩ := open_u8s Tryz.underlying35 Tryz.underlying5 (by kernel_rfl) (by kernel_rfl) (hval 0 35 v0 rfl rfl) h0
  obtain ⟨l1, rfl, hl1, rfl, t1⟩ := open_u8s Tryz.underlying35 Tryz.underlying5 (by kernel_rfl) (by kernel_rfl) (hval 1 35 v1 rfl rfl) h1
  obtain ⟨l2, rfl, hl2, rfl, t2⟩ := open_u8s Tryz.underlying35 Tryz.underlying5 (by kernel_rfl) (by kernel_rfl) (hval 2 35 v2 rfl rfl) h2
  obtain ⟨n3, rfl, rfl, rfl, wf3⟩ := open_int Tryz.underlying3 (hval 3 3 v3 rfl rfl) h3
  clear hA0
  simp only [List.append_nil] at hW'
  refine (law_KemRejects l0 l1 l2 n3 W hl0 hl1 hl2 (globs hL) (globsP hL)).mono fun e W' ⟨he, hb⟩ => ?_
  subst he
  exact ⟨_, rfl, post_below (pa := []) (pv := []) hW' (fun _ _ _ => trodAll_cons_mk (shut_bool Tryz.underlying4 _) trodAll_mk0) (fun _ _ => (trodAll_cons_mk (t0 _ _ _ _) (trodAll_cons_mk (t1 _ _ _ _) (trodAll_cons_mk (t2 _ _ _ _) (trodAll_cons_mk (shut_int Tryz.underlying3 wf3) trodAll_mk0))))) (fun _ _ => rfl) rfl hb (ok_one (by kernel_rfl) rfl (okWide_bool_mk Tryz.underlying4 _))⟩
noncomputable def laidWorld (os : Os) : World :=
  { World.holding Tryz.prog os ⟨#[], #[], []⟩ with heap := layAt 2 (turns.map en) (layAt 1 (consts.map e64) (layAt 0 (powers.map en) ((World.holding Tryz.prog os ⟨#[], #[], []⟩).heap))) }
theorem laid_met (os : Os) : laidMet Tryz.prog Rows.kemRejectsRow.laid ((laidWorld os).forCall (fun _ _ => 0) ⟨#[], #[.agg (Array.replicate 32 (.int .u8 0)), .agg (Array.replicate 32 (.int .u8 0)), .agg (Array.replicate 32 (.int .u8 0)), .int .i64 0], []⟩).memory :=
  laidMet_of_run' 8 (by kernel_rfl) (by kernel_rfl)
theorem reads (os : Os) {H : Type} (enc : TypeId × Value → H) : ∃ places, DataW.whole enc Tryz.prog ((laidWorld os).forCall (fun _ _ => 0) ⟨#[], #[.agg (Array.replicate 32 (.int .u8 0)), .agg (Array.replicate 32 (.int .u8 0)), .agg (Array.replicate 32 (.int .u8 0)), .int .i64 0], []⟩).memory Tryz.f10.params.toList Rows.kemRejectsSpec.vars false (#[.agg (Array.replicate 32 (.int .u8 0)), .agg (Array.replicate 32 (.int .u8 0)), .agg (Array.replicate 32 (.int .u8 0)), .int .i64 0] : Array Value).toList 8 = some ([.agg (List.replicate 32 (.lit (.int .u8 0))), .agg (List.replicate 32 (.lit (.int .u8 0))), .agg (List.replicate 32 (.lit (.int .u8 0))), .lit (.int .i64 0)], [], places) :=
  ⟨[], by kernel_rfl⟩
theorem lifted (os : Os) (started : os.Started) (H : Type) (enc : TypeId × Value → H) (F : Stop.Interp) :
    ReturnsInHanded {} Tryz.checked os 10 .any ((OpenSpec.ofChange Rows.kemRejectsSpec).preRow enc Tryz.prog Tryz.f10 Rows.kemRejectsRow.domain false Rows.kemRejectsRow.laid) (((OpenSpec.ofChange Rows.kemRejectsSpec).at F).post enc Tryz.prog Tryz.f10 false true false false) := by
  obtain ⟨places, hx⟩ := reads os enc
  refine returnsInHanded_of_row (C := Tryz.checked) (s := OpenSpec.ofChange Rows.kemRejectsSpec) own started (by kernel_rfl) Tryz.func10
    (witness_row_at (enc := enc) (C := Tryz.checked) false (laidWorld os) #[.agg (Array.replicate 32 (.int .u8 0)), .agg (Array.replicate 32 (.int .u8 0)), .agg (Array.replicate 32 (.int .u8 0)), .int .i64 0] rfl (by kernel_rfl) (by kernel_rfl) (by kernel_rfl)
      (OpenSpec.preRow_of_cond 8 hx (by kernel_rfl) (fun k hk => by cases hk) (by kernel_rfl) (laid_met os))) ?_
  intro W base args ds gs before hval hW _ _ hR hL _ _
  exact contract H enc W base args ds gs before hval hW hL
theorem said : Rows.KemRejectsSaid :=
  OpenClaim.holds_of_cond 10 Tryz.f10 rfl rfl rfl rfl rfl rfl rfl ⟨rfl, rfl, rfl, rfl, rfl⟩ rfl rfl rfl rfl rfl (by kernel_rfl) Tryz.func10 (by kernel_rfl)
    (of_decide_eq_true (by kernel_rfl)) (by unfold Func.isWrapper; first | (rw [if_pos (by decide +kernel)]; kernel_rfl) | (rw [if_neg (by decide +kernel)]; exact ⟨rfl, rfl⟩))
    (fun os started H enc _ F => by rw [OpenClaim.pre_eq_preRow]; exact lifted os started H enc F)
theorem plain (f : FuncId) (fn : Func) (hf : Tryz.pinned.checked.prog.funcNamed "redan/redanlaw14.KemRejects" = some f) (hfn : Tryz.pinned.checked.prog.funcs[f]? = some fn) :
    false = Tryz.pinned.checked.prog.looks [] ∧ ∀ (j : Nat) t, fn.params[j]? = some t → Tryz.pinned.checked.prog.wantsStandIn t = false := by
  obtain rfl : f = 10 := Option.some.inj ((show Tryz.prog.funcNamed "redan/redanlaw14.KemRejects" = some 10 by kernel_rfl).symm.trans hf) |>.symm
  obtain rfl : fn = Tryz.f10 := (Option.some.inj (Tryz.func10.symm.trans hfn)).symm
  refine ⟨by kernel_rfl, fun j t ht => ?_⟩
  rw [Tryz.params10] at ht
  have hm := Array.mem_of_getElem? ht
  simp only [List.mem_toArray, List.mem_cons, List.not_mem_nil, or_false] at hm
  have hs : ∀ u, (u = 35 ∨ u = 35 ∨ u = 35 ∨ u = 3) → Tryz.prog.wantsStandIn u = false := fun u hu => by rcases hu with rfl | rfl | rfl | rfl <;> kernel_rfl
  exact hs t hm
theorem card : Rows.KemRejectsCardSaid :=
  Claim7.holds_tied_plain_at .later [] _ _ _ _ said (fun _ h => by cases h) (by kernel_rfl) (fun _ h => by cases h) kemRejects_row_tie rfl ⟨rfl, rfl⟩ (by kernel_rfl) rfl plain (by kernel_rfl)
end Go.Proofs.YtaignhikdfpbbaaGreatDoor.kemRejectsX
namespace Go.Proofs.YtaignhikdfpbbaaGreatDoor
theorem kemRejects_holds : Rows.KemRejectsCardSaid := kemRejectsX.card
#print axioms kemRejects_holds
end Go.Proofs.YtaignhikdfpbbaaGreatDoor
