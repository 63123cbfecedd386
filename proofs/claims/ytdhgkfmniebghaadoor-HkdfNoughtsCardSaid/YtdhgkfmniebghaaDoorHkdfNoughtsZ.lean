/- HkdfNoughts answers true at every input, and its arguments read behind the call as before; the package's tables that the row lists hold what the program's text lays. -/
import Derived.Test.YtdhgkfmniebghaaDoorHn2
import Derived.Test.YtdhgkfmniebghaaDoorCards
import Derived.Test.YtdhgkfmniebghaaDoorTie
set_option maxRecDepth 100000
set_option maxHeartbeats 4000000
namespace Go.Proofs.YtdhgkfmniebghaaDoor.hkdfNoughtsX
open Go.RowKit Go.Rx Go.ChangeShapes Go.WideShapes Go.ChangeAt
theorem own : ownKnob Tryd.prog.godebug = none := by kernel_rfl
theorem globs {W : World} (h : laidMetH Tryd.prog Rows.hkdfNoughtsRow.laid W) : Glob W := by
  have h : laidMet Tryd.prog Rows.hkdfNoughtsRow.laid W := h
  exact ⟨(glob_of_reads (zs := (consts.map fun x : UInt64 => (x.toNat : Int))) (Lib.laidMet.reads h (n := "redan/keccak.constants") (by first | exact List.mem_cons_self | exact List.mem_cons_of_mem _ List.mem_cons_self | exact List.mem_cons_of_mem _ (List.mem_cons_of_mem _ List.mem_cons_self))) (by kernel_rfl) (by kernel_rfl) Tryd.underlying71 Tryd.underlying25 (by kernel_rfl) (by kernel_rfl)), (glob_of_reads (zs := (turns.map fun x : Nat => (x : Int))) (Lib.laidMet.reads h (n := "redan/keccak.turns") (by first | exact List.mem_cons_self | exact List.mem_cons_of_mem _ List.mem_cons_self | exact List.mem_cons_of_mem _ (List.mem_cons_of_mem _ List.mem_cons_self))) (by kernel_rfl) (by kernel_rfl) Tryd.underlying79 Tryd.underlying3 (by kernel_rfl) (by kernel_rfl))⟩
theorem contract (H : Type) (enc : TypeId × Value → H) (W : World) (base : Nat) (args : Array Value) (ds gs : List (DataW H)) (before : List MemPlace)
    (hval : ∀ (j : Nat) t v, Tryd.f10.params[j]? = some t → args[j]? = some v → Value.okWide Tryd.prog W .any base t v)
    (hW : DataW.Whole enc Tryd.prog Tryd.f10.params.toList Rows.hkdfNoughtsSpec.vars false W args.toList ds gs before) (hL : laidMetH Tryd.prog Rows.hkdfNoughtsRow.laid W) :
    Calls Tryd.prog 10 args W fun e W' => ∃ v, e = .returned v ∧ Rows.hkdfNoughtsSpec.post enc Tryd.prog Tryd.f10 false true false false W args v W' := by
  have hW' := hW
  obtain ⟨p, q, hA0, hV, rfl, hfz, hnd⟩ := hW
  have hA : DataW.TrodAll enc Tryd.prog W 0 (fun _ => true) true Tryd.f10.params.toList args.toList ds p := hA0
  rw [Tryd.params10] at hA hval
  obtain ⟨v0, vs0, d0, ds0, p0, q0, hargs, rfl, rfl, h0, r0⟩ := trodAll_cons hA
  obtain ⟨v1, vs1, d1, ds1, p1, q1, rfl, rfl, rfl, h1, r1⟩ := trodAll_cons r0
  obtain ⟨v2, vs2, d2, ds2, p2, q2, rfl, rfl, rfl, h2, r2⟩ := trodAll_cons r1
  obtain ⟨rfl, rfl, rfl⟩ := trodAll_nil r2
  obtain rfl : args = #[v0, v1, v2] := by cases args; simp_all
  obtain ⟨rfl, rfl⟩ := trodVars_none hV
  obtain ⟨l0, hs0, hl0⟩ := open_bytes Tryd.underlying22 Tryd.underlying5 (by kernel_rfl) (hval 0 22 v0 rfl rfl) h0
  obtain ⟨n1, rfl, rfl, rfl, wf1⟩ := open_int Tryd.underlying3 (hval 1 3 v1 rfl rfl) h1
  obtain ⟨l2, hs2, hl2⟩ := open_bytes Tryd.underlying22 Tryd.underlying5 (by kernel_rfl) (hval 2 22 v2 rfl rfl) h2
  simp only [List.append_nil] at hW'
  refine (law_HkdfNoughts v0 l0 n1 v2 l2 W hs0 hs2 (globs hL)).mono fun e W' ⟨he, hb⟩ => ?_
  subst he
  have hT : ∀ t ∈ Tryd.f10.params.toList, Tryd.prog.readableRec t = true ∧ t < Tryd.prog.types.size := by
    intro t ht
    rw [Tryd.params10] at ht
    have hu : ∀ u, (u = 22 ∨ u = 3 ∨ u = 22) → Tryd.prog.readableRec u = true ∧ u < Tryd.prog.types.size := fun u hu => by rcases hu with rfl | rfl | rfl <;> exact ⟨by kernel_rfl, of_decide_eq_true (by kernel_rfl)⟩
    simp only [List.mem_cons, List.not_mem_nil, or_false] at ht
    exact hu t ht
  have hlt := hW'.lt
  have hA1 := hA0
  simp only [List.append_nil] at hA1
  exact ⟨_, rfl, post_below (pa := _) (pv := []) hW' (fun _ _ _ => trodAll_cons_mk (shut_bool Tryd.underlying4 _) trodAll_mk0) (fun sp hsp => trodAll_sp (by kernel_rfl) hT hA1 hb hlt hsp) (fun _ _ => rfl) (by simp) hb (ok_one (by kernel_rfl) rfl (okWide_bool_mk Tryd.underlying4 _))⟩
noncomputable def laidWorld (os : Os) : World :=
  { World.holding Tryd.prog os ⟨#[], #[], []⟩ with heap := layAt 1 (turns.map en) (layAt 0 (consts.map e64) ((World.holding Tryd.prog os ⟨#[], #[], []⟩).heap)) }
theorem laid_met (os : Os) : laidMet Tryd.prog Rows.hkdfNoughtsRow.laid ((laidWorld os).forCall (fun _ _ => 0) ⟨#[], #[.slice none 0 0, .int .i64 0, .slice none 0 0], []⟩).memory :=
  laidMet_of_run' 8 (by kernel_rfl) (by kernel_rfl)
theorem reads (os : Os) {H : Type} (enc : TypeId × Value → H) : ∃ places, DataW.whole enc Tryd.prog ((laidWorld os).forCall (fun _ _ => 0) ⟨#[], #[.slice none 0 0, .int .i64 0, .slice none 0 0], []⟩).memory Tryd.f10.params.toList Rows.hkdfNoughtsSpec.vars false (#[.slice none 0 0, .int .i64 0, .slice none 0 0] : Array Value).toList 8 = some ([.nil, .lit (.int .i64 0), .nil], [], places) :=
  ⟨[], by kernel_rfl⟩
theorem lifted (os : Os) (started : os.Started) (H : Type) (enc : TypeId × Value → H) (F : Stop.Interp) :
    ReturnsInHanded {} Tryd.checked os 10 .any ((OpenSpec.ofChange Rows.hkdfNoughtsSpec).preRow enc Tryd.prog Tryd.f10 Rows.hkdfNoughtsRow.domain false Rows.hkdfNoughtsRow.laid) (((OpenSpec.ofChange Rows.hkdfNoughtsSpec).at F).post enc Tryd.prog Tryd.f10 false true false false) := by
  obtain ⟨places, hx⟩ := reads os enc
  refine returnsInHanded_of_row (C := Tryd.checked) (s := OpenSpec.ofChange Rows.hkdfNoughtsSpec) own started (by kernel_rfl) Tryd.func10
    (witness_row_at (enc := enc) (C := Tryd.checked) false (laidWorld os) #[.slice none 0 0, .int .i64 0, .slice none 0 0] rfl (by kernel_rfl) (by kernel_rfl) (by kernel_rfl)
      (OpenSpec.preRow_of_cond 8 hx (by kernel_rfl) (fun k hk => by cases hk) (by kernel_rfl) (laid_met os))) ?_
  intro W base args ds gs before hval hW _ _ hR hL _ _
  exact contract H enc W base args ds gs before hval hW hL
theorem said : Rows.HkdfNoughtsSaid :=
  OpenClaim.holds_of_cond 10 Tryd.f10 rfl rfl rfl rfl rfl rfl rfl ⟨rfl, rfl, rfl, rfl, rfl⟩ rfl rfl rfl rfl rfl (by kernel_rfl) Tryd.func10 (by kernel_rfl)
    (of_decide_eq_true (by kernel_rfl)) (by unfold Func.isWrapper; first | (rw [if_pos (by decide +kernel)]; kernel_rfl) | (rw [if_neg (by decide +kernel)]; exact ⟨rfl, rfl⟩))
    (fun os started H enc _ F => by rw [OpenClaim.pre_eq_preRow]; exact lifted os started H enc F)
theorem plain (f : FuncId) (fn : Func) (hf : Tryd.pinned.checked.prog.funcNamed "redan/redanlaw04.HkdfNoughts" = some f) (hfn : Tryd.pinned.checked.prog.funcs[f]? = some fn) :
    false = Tryd.pinned.checked.prog.looks [] ∧ ∀ (j : Nat) t, fn.params[j]? = some t → Tryd.pinned.checked.prog.wantsStandIn t = false := by
  obtain rfl : f = 10 := Option.some.inj ((show Tryd.prog.funcNamed "redan/redanlaw04.HkdfNoughts" = some 10 by kernel_rfl).symm.trans hf) |>.symm
  obtain rfl : fn = Tryd.f10 := (Option.some.inj (Tryd.func10.symm.trans hfn)).symm
  refine ⟨by kernel_rfl, fun j t ht => ?_⟩
  rw [Tryd.params10] at ht
  have hm := Array.mem_of_getElem? ht
  simp only [List.mem_toArray, List.mem_cons, List.not_mem_nil, or_false] at hm
  have hs : ∀ u, (u = 22 ∨ u = 3 ∨ u = 22) → Tryd.prog.wantsStandIn u = false := fun u hu => by rcases hu with rfl | rfl | rfl <;> kernel_rfl
  exact hs t hm
theorem card : Rows.HkdfNoughtsCardSaid :=
  Claim7.holds_tied_plain_at .later [] _ _ _ _ said (fun _ h => by cases h) (by kernel_rfl) (fun _ h => by cases h) hkdfNoughts_row_tie rfl ⟨rfl, rfl⟩ (by kernel_rfl) rfl plain (by kernel_rfl)
end Go.Proofs.YtdhgkfmniebghaaDoor.hkdfNoughtsX
namespace Go.Proofs.YtdhgkfmniebghaaDoor
theorem hkdfNoughts_holds : Rows.HkdfNoughtsCardSaid := hkdfNoughtsX.card
#print axioms hkdfNoughts_holds
end Go.Proofs.YtdhgkfmniebghaaDoor
