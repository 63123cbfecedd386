/- Texts of this claim, one behind the other: M2, M3, M4, T2. -/
import Derived.Test.YtaignhikdfpbbaaGreatDoorKb3
import Derived.Test.YtaignhikdfpbbaaGreatDoorKb2
set_option linter.unusedVariables false
set_option linter.unusedSimpArgs false
/- WALKS written by gen.py (own program) out of specs. -/
namespace Go.Proofs.YtaignhikdfpbbaaGreatDoor
open Go.RowKit Go.Rx
set_option maxRecDepth 100000
set_option maxHeartbeats 4000000
set_option linter.unusedVariables false
set_option linter.unusedSimpArgs false

theorem zero_52M2 : ∀ w, (zeroValue 52).run Tryz.prog w = .ok (.agg ((List.replicate 768 (0 : Int)).map ei).toArray) w := fun _ => by kernel_rfl
theorem c_gen1 (v : Value) (b : List UInt8) (w0 : World) (hs : Sl w0 v (b.map e8)) (hb : b.length = 32) (hG : Glob w0) (hP : GlobP w0) :
    Calls Tryz.prog 28 #[v] w0 fun e w' => ∃ u0 u1 : Value, e = .returned (.tuple #[u0, u1, en 0]) ∧ Below w0.heap.size w0 w' ∧ Sl w' u0 ((ek1 b).map e8) ∧ (∀ j, u0.ownBlock = some j → w0.heap.size ≤ j) ∧ Sl w' u1 ((dk1 b).map e8) ∧ (∀ j, u1.ownBlock = some j → w0.heap.size ≤ j) := by
 refine enter (args := [_]) Tryz.func28 rfl Tryz.ntmps28 rfl ?_
 intro a ha
 have hB := Below.refl w0.heap.size w0
 refine qr fun K1 k2 => ?_
 refine s3 ha rfl (av rfl) (av rfl) (av rfl) ?_; intro a ha
 refine k2 _ _ ?_
 refine wp_seq_k fun K3 k4 => ?_
 refine qr fun K5 k6 => ?_
 refine s3 ha rfl (mv rfl) (fun _ ha => r_lenS ha Tryz.runUnderlying22 (hs.below hB) rfl (by rw [List.length_map])) (fun _ ha => r_neq ha ((b.length : Nat) : Int) 32 false rfl rfl (decide_eq_false (by omega))) ?_; intro a ha
 refine k6 _ _ ?_
 refine cond_f ha rfl ?_
 refine wp_skip ?_
 refine k4 _ _ ?_
 refine qr fun K7 k8 => ?_
 refine s1 ha rfl (mv rfl) ?_; intro a ha
 refine sbuildS ha [(0, .int .u8 3)] (([(3 : UInt8)] : List UInt8).map e8) rfl Tryz.runUnderlying22 Tryz.sizeOf5 Tryz.zeroValue5 rfl rfl rfl rfl rfl ?_
 intro a w9 b10 ha hg hb10 hge10 hlt10
 have hz10 := Nat.le_trans hB.size hge10
 replace hB := keepB0 hg hB
 refine sbuildS ha [(0, v), (1, .slice (some ⟨b10, 0, none⟩) 1 1)] [v, .slice (some ⟨b10, 0, none⟩) 1 1] rfl Tryz.runUnderlying96 Tryz.sizeOf22 Tryz.zeroValue22 rfl rfl rfl (fill2 (Sl.one (hs.below hB)) (Sl.one (Sl.ofBlockM hb10 (by rw [show ([(3 : UInt8)] : List UInt8).length = 1 from rfl]) (by omega)))) rfl ?_
 intro a w11 b12 ha hg hb12 hge12 hlt12
 have hz12 := Nat.le_trans hB.size hge12
 have hq10_12 := bl hb10 hge12
 replace hB := keepB0 hg hB
 replace hb10 := keepO0 hg hb10
 refine sc ha (r_call ha [(.slice (some ⟨b12, 0, none⟩) 2 2)] rfl Tryz.call52) rfl rfl rfl (c_join (.slice (some ⟨b12, 0, none⟩) 2 2) ([v, .slice (some ⟨b10, 0, none⟩) 1 1]) ([b, ([(3 : UInt8)] : List UInt8)]) _ (Sl.ofBlock (D := [v, .slice (some ⟨b10, 0, none⟩) 1 1]) (C := [v, .slice (some ⟨b10, 0, none⟩) 1 1]) hb12 rfl (Nat.le_refl _)) (.cons (hs.below hB) (.cons (Sl.ofBlockM hb10 (by rw [show ([(3 : UInt8)] : List UInt8).length = 1 from rfl]) (by omega)) .nil)) (by simp only [List.flatten_cons, List.flatten_nil, List.append_nil, List.length_append, List.length_cons, List.length_nil]; omega) (show 2 ≤ 1000 by omega)) ?_
 rintro e w13 ⟨u14, rfl, hBc, hs14, hd14⟩
 have hg := grown_call hBc
 replace hd14 : ∀ j, u14.ownBlock = some j → w0.heap.size ≤ j := fun j hj => Nat.le_trans hB.size (hd14 j hj)
 replace hB := keepB0 hg hB
 refine ⟨_, rfl, ?_⟩; intro a ha
 refine sc ha (r_call ha [u14] rfl Tryz.call75) rfl rfl rfl (c_sum512 u14 (([b, ([(3 : UInt8)] : List UInt8)]).flatten) _ hs14 (glob_keep hG hB)) ?_
 rintro e w15 ⟨u16, rfl, hBc, hs16, hd16⟩
 have hg := grown_call hBc
 replace hd16 : ∀ j, u16.ownBlock = some j → w0.heap.size ≤ j := fun j hj => Nat.le_trans hB.size (hd16 j hj)
 replace hB := keepB0 hg hB
 refine ⟨_, rfl, ?_⟩; intro a ha
 refine s1 ha rfl (av rfl) ?_; intro a ha
 refine k8 _ _ ?_
 refine wp_seq_k fun K17 k18 => ?_
 refine regionD (S := fun w => Below w0.heap.size w0 w ∧ Sl w u16 ((sum512 (([b, ([(3 : UInt8)] : List UInt8)]).flatten)).map e8) ∧ True) [] [0, 1, 2, 3, 4, 5] [0, 1, 2, 3, 4, 5] mixed (by kernel_rfl) (fun w hg => ⟨keepB0 hg hB, keepS0 hg hs16, trivial⟩) ?_
 intro w19 hg
 replace hB := keepB0 hg hB
 replace hs16 := keepS0 hg hs16
 refine c6 ha rfl (cmv rfl) (fun w ⟨_, hs16, _⟩ _ ha => r_resl (C := (sum512 (([b, ([(3 : UInt8)] : List UInt8)]).flatten)).map e8) ha 0 32 Tryz.runUnderlying22 Tryz.sizeOf5 hs16 rfl rfl rfl (by omega) (by rw [List.length_map]; exact (by rw [sum512_len]; omega))) (cmv rfl) (fun w ⟨_, hs16, _⟩ _ ha => r_resl (C := (sum512 (([b, ([(3 : UInt8)] : List UInt8)]).flatten)).map e8) ha 32 64 Tryz.runUnderlying22 Tryz.sizeOf5 hs16 rfl rfl (show 64 = _ by rw [List.length_map, sum512_len]) (by omega) (by rw [List.length_map]; exact (by rw [sum512_len]; omega))) (cav rfl) (cav rfl) ?_; intro a ha
 refine cfin (k18 _ _ ?_)
 refine qr fun K20 k21 => ?_
 refine s1 ha rfl (mv rfl) ?_; intro a ha
 refine scp ha (r_call ha [(rsl u16 32 64), en 0] rfl Tryz.call37) rfl rfl rfl (c_smalls (rsl u16 32 64) (gSeed b) 0 _ (Sl.castM (Sl.cutM (lo := 32) (hi := 64) hs16 (by omega) (by rw [sum512_len]; omega)) (cutE _ _ _ (sum512_len _))) (by first | (rw [gSeed_len]; omega) | (rw [gRho_len]; omega)) (by omega) (glob_keep hG hB)) ?_; intro w22 hg a ha
 replace hB := keepB0 hg hB
 replace hs16 := keepS0 hg hs16
 refine scp ha (r_call ha [.agg (((smA (gSeed b) 0 3)).map ei).toArray, .func (.func 39) #[] #[]] rfl Tryz.call38) rfl rfl rfl (c_eachFr (smA (gSeed b) 0 3) _ (by rw [smA_len _ _ _ (by omega)]) (glob_keep hG hB) (globP_keep hP hB)) ?_; intro w23 hg a ha
 replace hB := keepB0 hg hB
 replace hs16 := keepS0 hg hs16
 refine salloc ha zero_52M2 rfl ?_
 intro a w24 b25 ha hg hb25 hge25 hlt25
 have hz25 := Nat.le_trans hB.size hge25
 have hne_hs16_b25 : ∀ j, Value.ownBlock u16 = some j → j ≠ b25 := fun j hj => by have := hs16.lt j hj; omega
 replace hB := keepB0 hg hB
 replace hs16 := keepS0 hg hs16
 refine sstoreW ha rfl rfl (one_ei _) Tryz.sizeOf52 (by rw [List.length_map, eaR_len _ fwd_len _ (by rw [smA_len _ _ _ (by omega)]) _ (by omega)]) hb25 (by rw [List.length_map, List.length_replicate]) ?_
 intro a w26 ha hg hb25'
 replace hb25 := hb25'
 replace hB := keepB1 hg (by omega) hB
 replace hs16 := keepS1 hg (ne_of_ap hne_hs16_b25) hs16
 refine k21 _ _ ?_
 refine wp_seq_k fun K27 k28 => ?_
 have hJ39 : ∀ (a : Act) (w39 : World) (b31 : Nat) (b37 : Nat), Has 40 [(2, .slice none 0 0), (3, .slice none 0 0), (4, .int .i64 0), (6, rsl u16 0 32), (8, .pointer (some ⟨b25, 0, none⟩)), (9, .pointer (some ⟨b37, 0, none⟩))] a → (Below w0.heap.size w0 w39) → (w39.heap[b25]? = some (.cells ((eaR fwd (smA (gSeed b) 0 3) 3).map ei).toArray 52 (0, 0))) → (w39.heap[b31]? = some (.cells ([rsl u16 0 32]).toArray 22 (0, 0))) → (w39.heap[b37]? = some (.cells ((plR (tiA (mat (gRho b)) (eaR fwd (smA (gSeed b) 0 3) 3) 3) (eaR fwd (smA (gSeed b) 3 3) 3) 3).map ei).toArray 52 (0, 0))) → (Sl w39 u16 ((sum512 (([b, ([(3 : UInt8)] : List UInt8)]).flatten)).map e8)) → (w0.heap.size ≤ b31) → (w0.heap.size ≤ b37) → (b31 ≠ b25) → (b37 ≠ b25) → (b37 ≠ b31) → (∀ j, u16.ownBlock = some j → j ≠ b31) → (∀ j, u16.ownBlock = some j → j ≠ b37) → K27 a w39 := by
  intro a w39 b31 b37 ha hB hb25 hb31 hb37 hs16 hzb31 hzb37 hqb31_b25 hqb37_b25 hqb37_b31 hnj_hs16_b31 hnj_hs16_b37
  refine k28 _ _ ?_
  refine wp_seq_k fun K40 k41 => ?_
  refine regionD (S := fun w => Below w0.heap.size w0 w ∧ w.heap[b25]? = some (.cells ((eaR fwd (smA (gSeed b) 0 3) 3).map ei).toArray 52 (0, 0)) ∧ w.heap[b37]? = some (.cells ((plR (tiA (mat (gRho b)) (eaR fwd (smA (gSeed b) 0 3) 3) 3) (eaR fwd (smA (gSeed b) 3 3) 3) 3).map ei).toArray 52 (0, 0)) ∧ Sl w u16 ((sum512 (([b, ([(3 : UInt8)] : List UInt8)]).flatten)).map e8) ∧ True) [] [0, 2, 5, 7, 8, 9] [0, 2, 5, 1, 3, 4, 6, 7, 8, 9] mixed (by kernel_rfl) (fun w hg => ⟨keepB0 hg hB, keepO0 hg hb25, keepO0 hg hb37, keepS0 hg hs16, trivial⟩) ?_
  intro w42 hg
  replace hB := keepB0 hg hB
  replace hb25 := keepO0 hg hb25
  replace hb37 := keepO0 hg hb37
  replace hs16 := keepS0 hg hs16
  refine c3 ha rfl (fun w ⟨_, _, hb37, _⟩ _ ha => r_loadR ha rfl Tryz.isAgg52 Tryz.sizeOf52 (C := (plR (tiA (mat (gRho b)) (eaR fwd (smA (gSeed b) 0 3) 3) 3) (eaR fwd (smA (gSeed b) 3 3) 3) 3).map ei) (by rw [List.length_map, plR_len _ _ (by rw [tiA_len _ _ _ (by omega)]) _ (by omega)]) (cells_all hb37)) (cmv rfl) (fun w ⟨_, hb25, _⟩ _ ha => r_loadR ha rfl Tryz.isAgg52 Tryz.sizeOf52 (C := (eaR fwd (smA (gSeed b) 0 3) 3).map ei) (by rw [List.length_map, eaR_len _ fwd_len _ (by rw [smA_len _ _ _ (by omega)]) _ (by omega)]) (cells_all hb25)) ?_; intro a ha
  refine ccx ha rfl rfl (r_call ha [.agg (((plR (tiA (mat (gRho b)) (eaR fwd (smA (gSeed b) 0 3) 3) 3) (eaR fwd (smA (gSeed b) 3 3) 3) 3)).map ei).toArray, en 12] rfl Tryz.call53) rfl rfl rfl (c_packR (plR (tiA (mat (gRho b)) (eaR fwd (smA (gSeed b) 0 3) 3) 3) (eaR fwd (smA (gSeed b) 3 3) 3) 3) 12 _ (by rw [plR_len _ _ (by rw [tiA_len _ _ _ (by omega)]) _ (by omega)]) (by omega)) ?_
  rintro e w43 ⟨u44, rfl, hBc, hs44, hd44⟩
  have hg := grown_call hBc
  have hnb_hs44_b25 := nbn hd44 hb25
  have hnb_hs44_b37 := nbn hd44 hb37
  have hds_hs44_hs16 := nds hd44 (fun j hj => hs16.lt j hj)
  replace hd44 : ∀ j, u44.ownBlock = some j → w0.heap.size ≤ j := fun j hj => Nat.le_trans hB.size (hd44 j hj)
  replace hB := keepB0 hg hB
  replace hb25 := keepO0 hg hb25
  replace hb37 := keepO0 hg hb37
  replace hs16 := keepS0 hg hs16
  refine ⟨fun w => (Sl w u44 ((pkR 12 (plR (tiA (mat (gRho b)) (eaR fwd (smA (gSeed b) 0 3) 3) 3) (eaR fwd (smA (gSeed b) 3 3) 3) 3) 3).map e8)) ∧ Below w0.heap.size w0 w ∧ w.heap[b25]? = some (.cells ((eaR fwd (smA (gSeed b) 0 3) 3).map ei).toArray 52 (0, 0)) ∧ w.heap[b37]? = some (.cells ((plR (tiA (mat (gRho b)) (eaR fwd (smA (gSeed b) 0 3) 3) 3) (eaR fwd (smA (gSeed b) 3 3) 3) 3).map ei).toArray 52 (0, 0)) ∧ Sl w u16 ((sum512 (([b, ([(3 : UInt8)] : List UInt8)]).flatten)).map e8) ∧ True, fun w h => h.2, fun _ => ⟨hs44, hB, hb25, hb37, hs16, trivial⟩, _, rfl, ?_⟩; intro a ha
  obtain ⟨b45, w46, hr45, hg, hb45, hge45, hlt45⟩ := r_buildS (w := w43) (dst := some 36) (ty := 96) (pos := "kpke.go:106") (af := #[⟨1, .data⟩, ⟨2, .data⟩]) (g := none) (t := 96) (k := 2) (parts := [(0, .tmp 34), (1, .tmp 35)]) ha [(0, u44), (1, rsl u16 0 32)] [u44, rsl u16 0 32] rfl Tryz.runUnderlying96 Tryz.sizeOf22 Tryz.zeroValue22 rfl rfl rfl (fill2 (Sl.one hs44) (Sl.one (Sl.castM (Sl.cutM (lo := 0) (hi := 32) hs16 (by omega) (by rw [sum512_len]; omega)) (cut0 _ _))))
  have hz45 := Nat.le_trans hB.size hge45
  have hne_hs16_b45 : ∀ j, Value.ownBlock u16 = some j → j ≠ b45 := fun j hj => by have := hs16.lt j hj; omega
  have hne_hs44_b45 : ∀ j, Value.ownBlock u44 = some j → j ≠ b45 := fun j hj => by have := hs44.lt j hj; omega
  have hq25_45 := bl hb25 hge45
  have hq37_45 := bl hb37 hge45
  replace hB := keepB0 hg hB
  replace hb25 := keepO0 hg hb25
  replace hb37 := keepO0 hg hb37
  replace hs16 := keepS0 hg hs16
  replace hs44 := keepS0 hg hs44
  refine cwx ha rfl rfl hr45 rfl rfl rfl ⟨fun w => (w.heap[b45]? = some (.cells ([u44, rsl u16 0 32]).toArray 22 (0, 0))) ∧ (Sl w u44 ((pkR 12 (plR (tiA (mat (gRho b)) (eaR fwd (smA (gSeed b) 0 3) 3) 3) (eaR fwd (smA (gSeed b) 3 3) 3) 3) 3).map e8)) ∧ Below w0.heap.size w0 w ∧ w.heap[b25]? = some (.cells ((eaR fwd (smA (gSeed b) 0 3) 3).map ei).toArray 52 (0, 0)) ∧ w.heap[b37]? = some (.cells ((plR (tiA (mat (gRho b)) (eaR fwd (smA (gSeed b) 0 3) 3) 3) (eaR fwd (smA (gSeed b) 3 3) 3) 3).map ei).toArray 52 (0, 0)) ∧ Sl w u16 ((sum512 (([b, ([(3 : UInt8)] : List UInt8)]).flatten)).map e8) ∧ True, fun w h => h.2, fun _ => ⟨hb45, hs44, hB, hb25, hb37, hs16, trivial⟩, ?_⟩; intro a ha
  refine ccx ha rfl rfl (r_call ha [(.slice (some ⟨b45, 0, none⟩) 2 2)] rfl Tryz.call52) rfl rfl rfl (c_join (.slice (some ⟨b45, 0, none⟩) 2 2) ([u44, rsl u16 0 32]) ([pkR 12 (plR (tiA (mat (gRho b)) (eaR fwd (smA (gSeed b) 0 3) 3) 3) (eaR fwd (smA (gSeed b) 3 3) 3) 3) 3, gRho b]) _ (Sl.ofBlock (D := [u44, rsl u16 0 32]) (C := [u44, rsl u16 0 32]) hb45 rfl (Nat.le_refl _)) (.cons hs44 (.cons (Sl.castM (Sl.cutM (lo := 0) (hi := 32) hs16 (by omega) (by rw [sum512_len]; omega)) (cut0 _ _)) .nil)) (by simp only [List.flatten_cons, List.flatten_nil, List.append_nil, List.length_append, pkR_len, gRho_len]; omega) (show 2 ≤ 1000 by omega)) ?_
  rintro e w47 ⟨u48, rfl, hBc, hs48, hd48⟩
  have hg := grown_call hBc
  have hnb_hs48_b25 := nbn hd48 hb25
  have hnb_hs48_b37 := nbn hd48 hb37
  have hnb_hs48_b45 := nbn hd48 hb45
  have hds_hs48_hs16 := nds hd48 (fun j hj => hs16.lt j hj)
  have hds_hs48_hs44 := nds hd48 (fun j hj => hs44.lt j hj)
  replace hd48 : ∀ j, u48.ownBlock = some j → w0.heap.size ≤ j := fun j hj => Nat.le_trans hB.size (hd48 j hj)
  replace hB := keepB0 hg hB
  replace hb25 := keepO0 hg hb25
  replace hb37 := keepO0 hg hb37
  replace hb45 := keepO0 hg hb45
  replace hs16 := keepS0 hg hs16
  replace hs44 := keepS0 hg hs44
  refine ⟨fun w => (Sl w u48 ((([pkR 12 (plR (tiA (mat (gRho b)) (eaR fwd (smA (gSeed b) 0 3) 3) 3) (eaR fwd (smA (gSeed b) 3 3) 3) 3) 3, gRho b]).flatten).map e8)) ∧ (w.heap[b45]? = some (.cells ([u44, rsl u16 0 32]).toArray 22 (0, 0))) ∧ (Sl w u44 ((pkR 12 (plR (tiA (mat (gRho b)) (eaR fwd (smA (gSeed b) 0 3) 3) 3) (eaR fwd (smA (gSeed b) 3 3) 3) 3) 3).map e8)) ∧ Below w0.heap.size w0 w ∧ w.heap[b25]? = some (.cells ((eaR fwd (smA (gSeed b) 0 3) 3).map ei).toArray 52 (0, 0)) ∧ w.heap[b37]? = some (.cells ((plR (tiA (mat (gRho b)) (eaR fwd (smA (gSeed b) 0 3) 3) 3) (eaR fwd (smA (gSeed b) 3 3) 3) 3).map ei).toArray 52 (0, 0)) ∧ Sl w u16 ((sum512 (([b, ([(3 : UInt8)] : List UInt8)]).flatten)).map e8) ∧ True, fun w h => h.2, fun _ => ⟨hs48, hb45, hs44, hB, hb25, hb37, hs16, trivial⟩, _, rfl, ?_⟩; intro a ha
  refine ccx ha rfl rfl (r_call ha [.agg (((eaR fwd (smA (gSeed b) 0 3) 3)).map ei).toArray, en 12] rfl Tryz.call53) rfl rfl rfl (c_packR (eaR fwd (smA (gSeed b) 0 3) 3) 12 _ (by rw [eaR_len _ fwd_len _ (by rw [smA_len _ _ _ (by omega)]) _ (by omega)]) (by omega)) ?_
  rintro e w49 ⟨u50, rfl, hBc, hs50, hd50⟩
  have hg := grown_call hBc
  have hnb_hs50_b25 := nbn hd50 hb25
  have hnb_hs50_b37 := nbn hd50 hb37
  have hnb_hs50_b45 := nbn hd50 hb45
  have hds_hs50_hs16 := nds hd50 (fun j hj => hs16.lt j hj)
  have hds_hs50_hs44 := nds hd50 (fun j hj => hs44.lt j hj)
  have hds_hs50_hs48 := nds hd50 (fun j hj => hs48.lt j hj)
  replace hd50 : ∀ j, u50.ownBlock = some j → w0.heap.size ≤ j := fun j hj => Nat.le_trans hB.size (hd50 j hj)
  replace hB := keepB0 hg hB
  replace hb25 := keepO0 hg hb25
  replace hb37 := keepO0 hg hb37
  replace hb45 := keepO0 hg hb45
  replace hs16 := keepS0 hg hs16
  replace hs44 := keepS0 hg hs44
  replace hs48 := keepS0 hg hs48
  refine ⟨fun w => (Sl w u50 ((pkR 12 (eaR fwd (smA (gSeed b) 0 3) 3) 3).map e8)) ∧ (Sl w u48 ((([pkR 12 (plR (tiA (mat (gRho b)) (eaR fwd (smA (gSeed b) 0 3) 3) 3) (eaR fwd (smA (gSeed b) 3 3) 3) 3) 3, gRho b]).flatten).map e8)) ∧ (w.heap[b45]? = some (.cells ([u44, rsl u16 0 32]).toArray 22 (0, 0))) ∧ (Sl w u44 ((pkR 12 (plR (tiA (mat (gRho b)) (eaR fwd (smA (gSeed b) 0 3) 3) 3) (eaR fwd (smA (gSeed b) 3 3) 3) 3) 3).map e8)) ∧ Below w0.heap.size w0 w ∧ w.heap[b25]? = some (.cells ((eaR fwd (smA (gSeed b) 0 3) 3).map ei).toArray 52 (0, 0)) ∧ w.heap[b37]? = some (.cells ((plR (tiA (mat (gRho b)) (eaR fwd (smA (gSeed b) 0 3) 3) 3) (eaR fwd (smA (gSeed b) 3 3) 3) 3).map ei).toArray 52 (0, 0)) ∧ Sl w u16 ((sum512 (([b, ([(3 : UInt8)] : List UInt8)]).flatten)).map e8) ∧ True, fun w h => h.2, fun _ => ⟨hs50, hs48, hb45, hs44, hB, hb25, hb37, hs16, trivial⟩, _, rfl, ?_⟩; intro a ha
  refine c3 ha rfl (cav rfl) (cav rfl) (cav rfl) ?_; intro a ha
  refine cfin (k41 _ _ ?_)
  refine wp_ret ?_
  exact ret3 ha Tryz.results28 rfl rfl rfl ⟨_, _, rfl, hB, (Sl.castM (l := ([pkR 12 (plR (tiA (mat (gRho b)) (eaR fwd (smA (gSeed b) 0 3) 3) 3) (eaR fwd (smA (gSeed b) 3 3) 3) 3) 3, gRho b]).flatten) hs48 rfl), hd48, (Sl.castM (l := pkR 12 (eaR fwd (smA (gSeed b) 0 3) 3) 3) hs50 rfl), hd50⟩
 refine regionT (S := fun w => Below w0.heap.size w0 w ∧ w.heap[b25]? = some (.cells ((eaR fwd (smA (gSeed b) 0 3) 3).map ei).toArray 52 (0, 0)) ∧ Sl w u16 ((sum512 (([b, ([(3 : UInt8)] : List UInt8)]).flatten)).map e8) ∧ True) [9] [0, 2, 4] (.op 0 (.op 2 (.op 4 (.two 1 (.two 3 (.two 5 (.two 6 (.two 7 (.op 8 (.op 9 .fin)) 8 (.op 7 (.op 9 .fin))) 8 (.op 6 (.op 7 (.op 9 .fin)))) 8 (.op 5 (.op 6 (.op 7 (.op 9 .fin))))) 8 (.op 3 (.op 5 (.op 6 (.op 7 (.op 9 .fin)))))) 8 (.op 1 (.op 3 (.op 5 (.op 6 (.op 7 (.op 9 .fin)))))))))) mixed (by kernel_rfl) (fun w hg => ⟨keepB0 hg hB, keepO0 hg hb25, keepS0 hg hs16, trivial⟩) ?_
 intro w29 hg
 replace hB := keepB0 hg hB
 replace hb25 := keepO0 hg hb25
 replace hs16 := keepS0 hg hs16
 refine T.c3 ha rfl (cmv rfl) (fun w ⟨_, hb25, _⟩ _ ha => r_loadR ha rfl Tryz.isAgg52 Tryz.sizeOf52 (C := (eaR fwd (smA (gSeed b) 0 3) 3).map ei) (by rw [List.length_map, eaR_len _ fwd_len _ (by rw [smA_len _ _ _ (by omega)]) _ (by omega)]) (cells_all hb25)) (cmv rfl) ?_; intro a ha
 refine T.two ?_ ?_
 ·skip
  refine T.ccx ha rfl rfl (r_call ha [(rsl u16 0 32)] rfl Tryz.call40) rfl rfl rfl (c_matrix (rsl u16 0 32) (gRho b) _ (Sl.castM (Sl.cutM (lo := 0) (hi := 32) hs16 (by omega) (by rw [sum512_len]; omega)) (cut0 _ _))) ?_
  rintro e w51 ⟨b52, rfl, hBc, hb52, hge52⟩
  have hg := grown_call hBc
  have hz52 := Nat.le_trans hB.size hge52
  have hne_hs16_b52 : ∀ j, Value.ownBlock u16 = some j → j ≠ b52 := fun j hj => by have := hs16.lt j hj; omega
  have hq25_52 := bl hb25 hge52
  replace hB := keepB0 hg hB
  replace hb25 := keepO0 hg hb25
  replace hs16 := keepS0 hg hs16
  refine ⟨fun w => (w.heap[b52]? = some (.cells ([rsl u16 0 32]).toArray 22 (0, 0))) ∧ Below w0.heap.size w0 w ∧ w.heap[b25]? = some (.cells ((eaR fwd (smA (gSeed b) 0 3) 3).map ei).toArray 52 (0, 0)) ∧ Sl w u16 ((sum512 (([b, ([(3 : UInt8)] : List UInt8)]).flatten)).map e8) ∧ True, fun w h => h.2, fun _ => ⟨hb52, hB, hb25, hs16, trivial⟩, _, rfl, ?_⟩; intro a ha
  refine T.two ?_ ?_
  ·skip
   refine T.cc ha rfl rfl (r_call ha [.func (.func 88) #[] #[.pointer (some ⟨b52, 0, none⟩)], .agg (((eaR fwd (smA (gSeed b) 0 3) 3)).map ei).toArray] rfl Tryz.call42) rfl rfl rfl (c_timesM b52 (rsl u16 0 32) (gRho b) (eaR fwd (smA (gSeed b) 0 3) 3) _ (Sl.castM (Sl.cutM (lo := 0) (hi := 32) hs16 (by omega) (by rw [sum512_len]; omega)) (cut0 _ _)) (by first | (rw [gSeed_len]; omega) | (rw [gRho_len]; omega)) (by rw [eaR_len _ fwd_len _ (by rw [smA_len _ _ _ (by omega)]) _ (by omega)]) hb52 (glob_keep hG hB) (globP_keep hP hB)) ?_
   rintro e w53 ⟨rfl, hBc⟩
   have hg := grown_call hBc
   replace hB := keepB0 hg hB
   replace hb25 := keepO0 hg hb25
   replace hb52 := keepO0 hg hb52
   replace hs16 := keepS0 hg hs16
   refine ⟨fun _ => ⟨hb52, hB, hb25, hs16, trivial⟩, _, rfl, ?_⟩; intro a ha
   refine T.two ?_ ?_
   ·skip
    refine T.cc ha rfl rfl (r_call ha [(rsl u16 32 64), en 3] rfl Tryz.call37) rfl rfl rfl (c_smalls (rsl u16 32 64) (gSeed b) 3 _ (Sl.castM (Sl.cutM (lo := 32) (hi := 64) hs16 (by omega) (by rw [sum512_len]; omega)) (cutE _ _ _ (sum512_len _))) (by first | (rw [gSeed_len]; omega) | (rw [gRho_len]; omega)) (by omega) (glob_keep hG hB)) ?_
    rintro e w54 ⟨rfl, hBc⟩
    have hg := grown_call hBc
    replace hB := keepB0 hg hB
    replace hb25 := keepO0 hg hb25
    replace hb52 := keepO0 hg hb52
    replace hs16 := keepS0 hg hs16
    refine ⟨fun _ => ⟨hb52, hB, hb25, hs16, trivial⟩, _, rfl, ?_⟩; intro a ha
    refine T.two ?_ ?_
    ·skip
     refine T.cc ha rfl rfl (r_call ha [.agg (((smA (gSeed b) 3 3)).map ei).toArray, .func (.func 39) #[] #[]] rfl Tryz.call38) rfl rfl rfl (c_eachFr (smA (gSeed b) 3 3) _ (by rw [smA_len _ _ _ (by omega)]) (glob_keep hG hB) (globP_keep hP hB)) ?_
     rintro e w55 ⟨rfl, hBc⟩
     have hg := grown_call hBc
     replace hB := keepB0 hg hB
     replace hb25 := keepO0 hg hb25
     replace hb52 := keepO0 hg hb52
     replace hs16 := keepS0 hg hs16
     refine ⟨fun _ => ⟨hb52, hB, hb25, hs16, trivial⟩, _, rfl, ?_⟩; intro a ha
     refine T.two ?_ ?_
     ·skip
      refine T.cc ha rfl rfl (r_call ha [.agg (((tiA (mat (gRho b)) (eaR fwd (smA (gSeed b) 0 3) 3) 3)).map ei).toArray, .agg (((eaR fwd (smA (gSeed b) 3 3) 3)).map ei).toArray] rfl Tryz.call44) rfl rfl rfl (c_plusR (tiA (mat (gRho b)) (eaR fwd (smA (gSeed b) 0 3) 3) 3) (eaR fwd (smA (gSeed b) 3 3) 3) _ (by rw [tiA_len _ _ _ (by omega)]) (by rw [eaR_len _ fwd_len _ (by rw [smA_len _ _ _ (by omega)]) _ (by omega)]) (glob_keep hG hB) (globP_keep hP hB)) ?_
      rintro e w56 ⟨rfl, hBc⟩
      have hg := grown_call hBc
      replace hB := keepB0 hg hB
      replace hb25 := keepO0 hg hb25
      replace hb52 := keepO0 hg hb52
      replace hs16 := keepS0 hg hs16
      refine ⟨fun _ => ⟨hb52, hB, hb25, hs16, trivial⟩, _, rfl, ?_⟩; intro a ha
      refine T.calloc ha rfl rfl zero_52M2 rfl (fun w hg => ⟨keepO0 hg hb52, keepB0 hg hB, keepO0 hg hb25, keepS0 hg hs16, trivial⟩) ?_
      intro a w57 b58 ha hg hb58 hge58 hlt58
      have hz58 := Nat.le_trans hB.size hge58
      have hne_hs16_b58 : ∀ j, Value.ownBlock u16 = some j → j ≠ b58 := fun j hj => by have := hs16.lt j hj; omega
      have hq25_58 := bl hb25 hge58
      have hq52_58 := bl hb52 hge58
      replace hB := keepB0 hg hB
      replace hb25 := keepO0 hg hb25
      replace hb52 := keepO0 hg hb52
      replace hs16 := keepS0 hg hs16
      refine T.cstoreW ha rfl rfl rfl rfl (one_ei _) Tryz.sizeOf52 (by rw [List.length_map, plR_len _ _ (by rw [tiA_len _ _ _ (by omega)]) _ (by omega)]) hb58 (by rw [List.length_map, List.length_replicate]) rfl ?_
      intro a w59 ha hg hb58'
      replace hb58 := hb58'
      replace hB := keepB1 hg (by omega) hB
      replace hb25 := keepO1 hg (by omega) hb25
      replace hb52 := keepO1 hg (by omega) hb52
      replace hs16 := keepS1 hg (ne_of_ap hne_hs16_b58) hs16
      exact T.cfin (hJ39 _ _ b52 b58 (ha.to [2, 3, 4, 6, 8, 9] rfl) hB hb25 hb52 hb58 hs16 hz52 hz58 (by omega) (by omega) (by omega) hne_hs16_b52 hne_hs16_b58)
     ·skip
      refine T.calloc ha rfl rfl zero_52M2 rfl (fun w hg => ⟨keepO0 hg hb52, keepB0 hg hB, keepO0 hg hb25, keepS0 hg hs16, trivial⟩) ?_
      intro a w60 b61 ha hg hb61 hge61 hlt61
      have hz61 := Nat.le_trans hB.size hge61
      have hne_hs16_b61 : ∀ j, Value.ownBlock u16 = some j → j ≠ b61 := fun j hj => by have := hs16.lt j hj; omega
      have hq25_61 := bl hb25 hge61
      have hq52_61 := bl hb52 hge61
      replace hB := keepB0 hg hB
      replace hb25 := keepO0 hg hb25
      replace hb52 := keepO0 hg hb52
      replace hs16 := keepS0 hg hs16
      refine T.cc ha rfl rfl (r_call ha [.agg (((tiA (mat (gRho b)) (eaR fwd (smA (gSeed b) 0 3) 3) 3)).map ei).toArray, .agg (((eaR fwd (smA (gSeed b) 3 3) 3)).map ei).toArray] rfl Tryz.call44) rfl rfl rfl (c_plusR (tiA (mat (gRho b)) (eaR fwd (smA (gSeed b) 0 3) 3) 3) (eaR fwd (smA (gSeed b) 3 3) 3) _ (by rw [tiA_len _ _ _ (by omega)]) (by rw [eaR_len _ fwd_len _ (by rw [smA_len _ _ _ (by omega)]) _ (by omega)]) (glob_keep hG hB) (globP_keep hP hB)) ?_
      rintro e w62 ⟨rfl, hBc⟩
      have hg := grown_call hBc
      replace hB := keepB0 hg hB
      replace hb25 := keepO0 hg hb25
      replace hb52 := keepO0 hg hb52
      replace hb61 := keepO0 hg hb61
      replace hs16 := keepS0 hg hs16
      refine ⟨fun _ => ⟨hb52, hB, hb25, hs16, trivial⟩, _, rfl, ?_⟩; intro a ha
      refine T.cstoreW ha rfl rfl rfl rfl (one_ei _) Tryz.sizeOf52 (by rw [List.length_map, plR_len _ _ (by rw [tiA_len _ _ _ (by omega)]) _ (by omega)]) hb61 (by rw [List.length_map, List.length_replicate]) rfl ?_
      intro a w63 ha hg hb61'
      replace hb61 := hb61'
      replace hB := keepB1 hg (by omega) hB
      replace hb25 := keepO1 hg (by omega) hb25
      replace hb52 := keepO1 hg (by omega) hb52
      replace hs16 := keepS1 hg (ne_of_ap hne_hs16_b61) hs16
      exact T.cfin (hJ39 _ _ b52 b61 (ha.to [2, 3, 4, 6, 8, 9] rfl) hB hb25 hb52 hb61 hs16 hz52 hz61 (by omega) (by omega) (by omega) hne_hs16_b52 hne_hs16_b61)
    ·skip
     refine T.calloc ha rfl rfl zero_52M2 rfl (fun w hg => ⟨keepO0 hg hb52, keepB0 hg hB, keepO0 hg hb25, keepS0 hg hs16, trivial⟩) ?_
     intro a w64 b65 ha hg hb65 hge65 hlt65
     have hz65 := Nat.le_trans hB.size hge65
     have hne_hs16_b65 : ∀ j, Value.ownBlock u16 = some j → j ≠ b65 := fun j hj => by have := hs16.lt j hj; omega
     have hq25_65 := bl hb25 hge65
     have hq52_65 := bl hb52 hge65
     replace hB := keepB0 hg hB
     replace hb25 := keepO0 hg hb25
     replace hb52 := keepO0 hg hb52
     replace hs16 := keepS0 hg hs16
     refine T.cc ha rfl rfl (r_call ha [.agg (((smA (gSeed b) 3 3)).map ei).toArray, .func (.func 39) #[] #[]] rfl Tryz.call38) rfl rfl rfl (c_eachFr (smA (gSeed b) 3 3) _ (by rw [smA_len _ _ _ (by omega)]) (glob_keep hG hB) (globP_keep hP hB)) ?_
     rintro e w66 ⟨rfl, hBc⟩
     have hg := grown_call hBc
     replace hB := keepB0 hg hB
     replace hb25 := keepO0 hg hb25
     replace hb52 := keepO0 hg hb52
     replace hb65 := keepO0 hg hb65
     replace hs16 := keepS0 hg hs16
     refine ⟨fun _ => ⟨hb52, hB, hb25, hs16, trivial⟩, _, rfl, ?_⟩; intro a ha
     refine T.cc ha rfl rfl (r_call ha [.agg (((tiA (mat (gRho b)) (eaR fwd (smA (gSeed b) 0 3) 3) 3)).map ei).toArray, .agg (((eaR fwd (smA (gSeed b) 3 3) 3)).map ei).toArray] rfl Tryz.call44) rfl rfl rfl (c_plusR (tiA (mat (gRho b)) (eaR fwd (smA (gSeed b) 0 3) 3) 3) (eaR fwd (smA (gSeed b) 3 3) 3) _ (by rw [tiA_len _ _ _ (by omega)]) (by rw [eaR_len _ fwd_len _ (by rw [smA_len _ _ _ (by omega)]) _ (by omega)]) (glob_keep hG hB) (globP_keep hP hB)) ?_
     rintro e w67 ⟨rfl, hBc⟩
     have hg := grown_call hBc
     replace hB := keepB0 hg hB
     replace hb25 := keepO0 hg hb25
     replace hb52 := keepO0 hg hb52
     replace hb65 := keepO0 hg hb65
     replace hs16 := keepS0 hg hs16
     refine ⟨fun _ => ⟨hb52, hB, hb25, hs16, trivial⟩, _, rfl, ?_⟩; intro a ha
     refine T.cstoreW ha rfl rfl rfl rfl (one_ei _) Tryz.sizeOf52 (by rw [List.length_map, plR_len _ _ (by rw [tiA_len _ _ _ (by omega)]) _ (by omega)]) hb65 (by rw [List.length_map, List.length_replicate]) rfl ?_
     intro a w68 ha hg hb65'
     replace hb65 := hb65'
     replace hB := keepB1 hg (by omega) hB
     replace hb25 := keepO1 hg (by omega) hb25
     replace hb52 := keepO1 hg (by omega) hb52
     replace hs16 := keepS1 hg (ne_of_ap hne_hs16_b65) hs16
     exact T.cfin (hJ39 _ _ b52 b65 (ha.to [2, 3, 4, 6, 8, 9] rfl) hB hb25 hb52 hb65 hs16 hz52 hz65 (by omega) (by omega) (by omega) hne_hs16_b52 hne_hs16_b65)
   ·skip
    refine T.calloc ha rfl rfl zero_52M2 rfl (fun w hg => ⟨keepO0 hg hb52, keepB0 hg hB, keepO0 hg hb25, keepS0 hg hs16, trivial⟩) ?_
    intro a w69 b70 ha hg hb70 hge70 hlt70
    have hz70 := Nat.le_trans hB.size hge70
    have hne_hs16_b70 : ∀ j, Value.ownBlock u16 = some j → j ≠ b70 := fun j hj => by have := hs16.lt j hj; omega
    have hq25_70 := bl hb25 hge70
    have hq52_70 := bl hb52 hge70
    replace hB := keepB0 hg hB
    replace hb25 := keepO0 hg hb25
    replace hb52 := keepO0 hg hb52
    replace hs16 := keepS0 hg hs16
    refine T.cc ha rfl rfl (r_call ha [(rsl u16 32 64), en 3] rfl Tryz.call37) rfl rfl rfl (c_smalls (rsl u16 32 64) (gSeed b) 3 _ (Sl.castM (Sl.cutM (lo := 32) (hi := 64) hs16 (by omega) (by rw [sum512_len]; omega)) (cutE _ _ _ (sum512_len _))) (by first | (rw [gSeed_len]; omega) | (rw [gRho_len]; omega)) (by omega) (glob_keep hG hB)) ?_
    rintro e w71 ⟨rfl, hBc⟩
    have hg := grown_call hBc
    replace hB := keepB0 hg hB
    replace hb25 := keepO0 hg hb25
    replace hb52 := keepO0 hg hb52
    replace hb70 := keepO0 hg hb70
    replace hs16 := keepS0 hg hs16
    refine ⟨fun _ => ⟨hb52, hB, hb25, hs16, trivial⟩, _, rfl, ?_⟩; intro a ha
    refine T.cc ha rfl rfl (r_call ha [.agg (((smA (gSeed b) 3 3)).map ei).toArray, .func (.func 39) #[] #[]] rfl Tryz.call38) rfl rfl rfl (c_eachFr (smA (gSeed b) 3 3) _ (by rw [smA_len _ _ _ (by omega)]) (glob_keep hG hB) (globP_keep hP hB)) ?_
    rintro e w72 ⟨rfl, hBc⟩
    have hg := grown_call hBc
    replace hB := keepB0 hg hB
    replace hb25 := keepO0 hg hb25
    replace hb52 := keepO0 hg hb52
    replace hb70 := keepO0 hg hb70
    replace hs16 := keepS0 hg hs16
    refine ⟨fun _ => ⟨hb52, hB, hb25, hs16, trivial⟩, _, rfl, ?_⟩; intro a ha
    refine T.cc ha rfl rfl (r_call ha [.agg (((tiA (mat (gRho b)) (eaR fwd (smA (gSeed b) 0 3) 3) 3)).map ei).toArray, .agg (((eaR fwd (smA (gSeed b) 3 3) 3)).map ei).toArray] rfl Tryz.call44) rfl rfl rfl (c_plusR (tiA (mat (gRho b)) (eaR fwd (smA (gSeed b) 0 3) 3) 3) (eaR fwd (smA (gSeed b) 3 3) 3) _ (by rw [tiA_len _ _ _ (by omega)]) (by rw [eaR_len _ fwd_len _ (by rw [smA_len _ _ _ (by omega)]) _ (by omega)]) (glob_keep hG hB) (globP_keep hP hB)) ?_
    rintro e w73 ⟨rfl, hBc⟩
    have hg := grown_call hBc
    replace hB := keepB0 hg hB
    replace hb25 := keepO0 hg hb25
    replace hb52 := keepO0 hg hb52
    replace hb70 := keepO0 hg hb70
    replace hs16 := keepS0 hg hs16
    refine ⟨fun _ => ⟨hb52, hB, hb25, hs16, trivial⟩, _, rfl, ?_⟩; intro a ha
    refine T.cstoreW ha rfl rfl rfl rfl (one_ei _) Tryz.sizeOf52 (by rw [List.length_map, plR_len _ _ (by rw [tiA_len _ _ _ (by omega)]) _ (by omega)]) hb70 (by rw [List.length_map, List.length_replicate]) rfl ?_
    intro a w74 ha hg hb70'
    replace hb70 := hb70'
    replace hB := keepB1 hg (by omega) hB
    replace hb25 := keepO1 hg (by omega) hb25
    replace hb52 := keepO1 hg (by omega) hb52
    replace hs16 := keepS1 hg (ne_of_ap hne_hs16_b70) hs16
    exact T.cfin (hJ39 _ _ b52 b70 (ha.to [2, 3, 4, 6, 8, 9] rfl) hB hb25 hb52 hb70 hs16 hz52 hz70 (by omega) (by omega) (by omega) hne_hs16_b52 hne_hs16_b70)
  ·skip
   refine T.calloc ha rfl rfl zero_52M2 rfl (fun w hg => ⟨keepO0 hg hb52, keepB0 hg hB, keepO0 hg hb25, keepS0 hg hs16, trivial⟩) ?_
   intro a w75 b76 ha hg hb76 hge76 hlt76
   have hz76 := Nat.le_trans hB.size hge76
   have hne_hs16_b76 : ∀ j, Value.ownBlock u16 = some j → j ≠ b76 := fun j hj => by have := hs16.lt j hj; omega
   have hq25_76 := bl hb25 hge76
   have hq52_76 := bl hb52 hge76
   replace hB := keepB0 hg hB
   replace hb25 := keepO0 hg hb25
   replace hb52 := keepO0 hg hb52
   replace hs16 := keepS0 hg hs16
   refine T.cc ha rfl rfl (r_call ha [.func (.func 88) #[] #[.pointer (some ⟨b52, 0, none⟩)], .agg (((eaR fwd (smA (gSeed b) 0 3) 3)).map ei).toArray] rfl Tryz.call42) rfl rfl rfl (c_timesM b52 (rsl u16 0 32) (gRho b) (eaR fwd (smA (gSeed b) 0 3) 3) _ (Sl.castM (Sl.cutM (lo := 0) (hi := 32) hs16 (by omega) (by rw [sum512_len]; omega)) (cut0 _ _)) (by first | (rw [gSeed_len]; omega) | (rw [gRho_len]; omega)) (by rw [eaR_len _ fwd_len _ (by rw [smA_len _ _ _ (by omega)]) _ (by omega)]) hb52 (glob_keep hG hB) (globP_keep hP hB)) ?_
   rintro e w77 ⟨rfl, hBc⟩
   have hg := grown_call hBc
   replace hB := keepB0 hg hB
   replace hb25 := keepO0 hg hb25
   replace hb52 := keepO0 hg hb52
   replace hb76 := keepO0 hg hb76
   replace hs16 := keepS0 hg hs16
   refine ⟨fun _ => ⟨hb52, hB, hb25, hs16, trivial⟩, _, rfl, ?_⟩; intro a ha
   refine T.cc ha rfl rfl (r_call ha [(rsl u16 32 64), en 3] rfl Tryz.call37) rfl rfl rfl (c_smalls (rsl u16 32 64) (gSeed b) 3 _ (Sl.castM (Sl.cutM (lo := 32) (hi := 64) hs16 (by omega) (by rw [sum512_len]; omega)) (cutE _ _ _ (sum512_len _))) (by first | (rw [gSeed_len]; omega) | (rw [gRho_len]; omega)) (by omega) (glob_keep hG hB)) ?_
   rintro e w78 ⟨rfl, hBc⟩
   have hg := grown_call hBc
   replace hB := keepB0 hg hB
   replace hb25 := keepO0 hg hb25
   replace hb52 := keepO0 hg hb52
   replace hb76 := keepO0 hg hb76
   replace hs16 := keepS0 hg hs16
   refine ⟨fun _ => ⟨hb52, hB, hb25, hs16, trivial⟩, _, rfl, ?_⟩; intro a ha
   refine T.cc ha rfl rfl (r_call ha [.agg (((smA (gSeed b) 3 3)).map ei).toArray, .func (.func 39) #[] #[]] rfl Tryz.call38) rfl rfl rfl (c_eachFr (smA (gSeed b) 3 3) _ (by rw [smA_len _ _ _ (by omega)]) (glob_keep hG hB) (globP_keep hP hB)) ?_
   rintro e w79 ⟨rfl, hBc⟩
   have hg := grown_call hBc
   replace hB := keepB0 hg hB
   replace hb25 := keepO0 hg hb25
   replace hb52 := keepO0 hg hb52
   replace hb76 := keepO0 hg hb76
   replace hs16 := keepS0 hg hs16
   refine ⟨fun _ => ⟨hb52, hB, hb25, hs16, trivial⟩, _, rfl, ?_⟩; intro a ha
   refine T.cc ha rfl rfl (r_call ha [.agg (((tiA (mat (gRho b)) (eaR fwd (smA (gSeed b) 0 3) 3) 3)).map ei).toArray, .agg (((eaR fwd (smA (gSeed b) 3 3) 3)).map ei).toArray] rfl Tryz.call44) rfl rfl rfl (c_plusR (tiA (mat (gRho b)) (eaR fwd (smA (gSeed b) 0 3) 3) 3) (eaR fwd (smA (gSeed b) 3 3) 3) _ (by rw [tiA_len _ _ _ (by omega)]) (by rw [eaR_len _ fwd_len _ (by rw [smA_len _ _ _ (by omega)]) _ (by omega)]) (glob_keep hG hB) (globP_keep hP hB)) ?_
   rintro e w80 ⟨rfl, hBc⟩
   have hg := grown_call hBc
   replace hB := keepB0 hg hB
   replace hb25 := keepO0 hg hb25
   replace hb52 := keepO0 hg hb52
   replace hb76 := keepO0 hg hb76
   replace hs16 := keepS0 hg hs16
   refine ⟨fun _ => ⟨hb52, hB, hb25, hs16, trivial⟩, _, rfl, ?_⟩; intro a ha
   refine T.cstoreW ha rfl rfl rfl rfl (one_ei _) Tryz.sizeOf52 (by rw [List.length_map, plR_len _ _ (by rw [tiA_len _ _ _ (by omega)]) _ (by omega)]) hb76 (by rw [List.length_map, List.length_replicate]) rfl ?_
   intro a w81 ha hg hb76'
   replace hb76 := hb76'
   replace hB := keepB1 hg (by omega) hB
   replace hb25 := keepO1 hg (by omega) hb25
   replace hb52 := keepO1 hg (by omega) hb52
   replace hs16 := keepS1 hg (ne_of_ap hne_hs16_b76) hs16
   exact T.cfin (hJ39 _ _ b52 b76 (ha.to [2, 3, 4, 6, 8, 9] rfl) hB hb25 hb52 hb76 hs16 hz52 hz76 (by omega) (by omega) (by omega) hne_hs16_b52 hne_hs16_b76)
 ·skip
  refine T.calloc ha rfl rfl zero_52M2 rfl (fun w hg => ⟨keepB0 hg hB, keepO0 hg hb25, keepS0 hg hs16, trivial⟩) ?_
  intro a w82 b83 ha hg hb83 hge83 hlt83
  have hz83 := Nat.le_trans hB.size hge83
  have hne_hs16_b83 : ∀ j, Value.ownBlock u16 = some j → j ≠ b83 := fun j hj => by have := hs16.lt j hj; omega
  have hq25_83 := bl hb25 hge83
  replace hB := keepB0 hg hB
  replace hb25 := keepO0 hg hb25
  replace hs16 := keepS0 hg hs16
  refine T.ccx ha rfl rfl (r_call ha [(rsl u16 0 32)] rfl Tryz.call40) rfl rfl rfl (c_matrix (rsl u16 0 32) (gRho b) _ (Sl.castM (Sl.cutM (lo := 0) (hi := 32) hs16 (by omega) (by rw [sum512_len]; omega)) (cut0 _ _))) ?_
  rintro e w84 ⟨b85, rfl, hBc, hb85, hge85⟩
  have hg := grown_call hBc
  have hz85 := Nat.le_trans hB.size hge85
  have hne_hs16_b85 : ∀ j, Value.ownBlock u16 = some j → j ≠ b85 := fun j hj => by have := hs16.lt j hj; omega
  have hq25_85 := bl hb25 hge85
  have hq83_85 := bl hb83 hge85
  replace hB := keepB0 hg hB
  replace hb25 := keepO0 hg hb25
  replace hb83 := keepO0 hg hb83
  replace hs16 := keepS0 hg hs16
  refine ⟨fun w => (w.heap[b85]? = some (.cells ([rsl u16 0 32]).toArray 22 (0, 0))) ∧ Below w0.heap.size w0 w ∧ w.heap[b25]? = some (.cells ((eaR fwd (smA (gSeed b) 0 3) 3).map ei).toArray 52 (0, 0)) ∧ Sl w u16 ((sum512 (([b, ([(3 : UInt8)] : List UInt8)]).flatten)).map e8) ∧ True, fun w h => h.2, fun _ => ⟨hb85, hB, hb25, hs16, trivial⟩, _, rfl, ?_⟩; intro a ha
  refine T.cc ha rfl rfl (r_call ha [.func (.func 88) #[] #[.pointer (some ⟨b85, 0, none⟩)], .agg (((eaR fwd (smA (gSeed b) 0 3) 3)).map ei).toArray] rfl Tryz.call42) rfl rfl rfl (c_timesM b85 (rsl u16 0 32) (gRho b) (eaR fwd (smA (gSeed b) 0 3) 3) _ (Sl.castM (Sl.cutM (lo := 0) (hi := 32) hs16 (by omega) (by rw [sum512_len]; omega)) (cut0 _ _)) (by first | (rw [gSeed_len]; omega) | (rw [gRho_len]; omega)) (by rw [eaR_len _ fwd_len _ (by rw [smA_len _ _ _ (by omega)]) _ (by omega)]) hb85 (glob_keep hG hB) (globP_keep hP hB)) ?_
  rintro e w86 ⟨rfl, hBc⟩
  have hg := grown_call hBc
  replace hB := keepB0 hg hB
  replace hb25 := keepO0 hg hb25
  replace hb83 := keepO0 hg hb83
  replace hb85 := keepO0 hg hb85
  replace hs16 := keepS0 hg hs16
  refine ⟨fun _ => ⟨hb85, hB, hb25, hs16, trivial⟩, _, rfl, ?_⟩; intro a ha
  refine T.cc ha rfl rfl (r_call ha [(rsl u16 32 64), en 3] rfl Tryz.call37) rfl rfl rfl (c_smalls (rsl u16 32 64) (gSeed b) 3 _ (Sl.castM (Sl.cutM (lo := 32) (hi := 64) hs16 (by omega) (by rw [sum512_len]; omega)) (cutE _ _ _ (sum512_len _))) (by first | (rw [gSeed_len]; omega) | (rw [gRho_len]; omega)) (by omega) (glob_keep hG hB)) ?_
  rintro e w87 ⟨rfl, hBc⟩
  have hg := grown_call hBc
  replace hB := keepB0 hg hB
  replace hb25 := keepO0 hg hb25
  replace hb83 := keepO0 hg hb83
  replace hb85 := keepO0 hg hb85
  replace hs16 := keepS0 hg hs16
  refine ⟨fun _ => ⟨hb85, hB, hb25, hs16, trivial⟩, _, rfl, ?_⟩; intro a ha
  refine T.cc ha rfl rfl (r_call ha [.agg (((smA (gSeed b) 3 3)).map ei).toArray, .func (.func 39) #[] #[]] rfl Tryz.call38) rfl rfl rfl (c_eachFr (smA (gSeed b) 3 3) _ (by rw [smA_len _ _ _ (by omega)]) (glob_keep hG hB) (globP_keep hP hB)) ?_
  rintro e w88 ⟨rfl, hBc⟩
  have hg := grown_call hBc
  replace hB := keepB0 hg hB
  replace hb25 := keepO0 hg hb25
  replace hb83 := keepO0 hg hb83
  replace hb85 := keepO0 hg hb85
  replace hs16 := keepS0 hg hs16
  refine ⟨fun _ => ⟨hb85, hB, hb25, hs16, trivial⟩, _, rfl, ?_⟩; intro a ha
  refine T.cc ha rfl rfl (r_call ha [.agg (((tiA (mat (gRho b)) (eaR fwd (smA (gSeed b) 0 3) 3) 3)).map ei).toArray, .agg (((eaR fwd (smA (gSeed b) 3 3) 3)).map ei).toArray] rfl Tryz.call44) rfl rfl rfl (c_plusR (tiA (mat (gRho b)) (eaR fwd (smA (gSeed b) 0 3) 3) 3) (eaR fwd (smA (gSeed b) 3 3) 3) _ (by rw [tiA_len _ _ _ (by omega)]) (by rw [eaR_len _ fwd_len _ (by rw [smA_len _ _ _ (by omega)]) _ (by omega)]) (glob_keep hG hB) (globP_keep hP hB)) ?_
  rintro e w89 ⟨rfl, hBc⟩
  have hg := grown_call hBc
  replace hB := keepB0 hg hB
  replace hb25 := keepO0 hg hb25
  replace hb83 := keepO0 hg hb83
  replace hb85 := keepO0 hg hb85
  replace hs16 := keepS0 hg hs16
  refine ⟨fun _ => ⟨hb85, hB, hb25, hs16, trivial⟩, _, rfl, ?_⟩; intro a ha
  refine T.cstoreW ha rfl rfl rfl rfl (one_ei _) Tryz.sizeOf52 (by rw [List.length_map, plR_len _ _ (by rw [tiA_len _ _ _ (by omega)]) _ (by omega)]) hb83 (by rw [List.length_map, List.length_replicate]) rfl ?_
  intro a w90 ha hg hb83'
  replace hb83 := hb83'
  replace hB := keepB1 hg (by omega) hB
  replace hb25 := keepO1 hg (by omega) hb25
  replace hb85 := keepO1 hg (by omega) hb85
  replace hs16 := keepS1 hg (ne_of_ap hne_hs16_b83) hs16
  exact T.cfin (hJ39 _ _ b85 b83 (ha.to [2, 3, 4, 6, 8, 9] rfl) hB hb25 hb85 hb83 hs16 hz85 hz83 (by omega) (by omega) (by omega) hne_hs16_b85 hne_hs16_b83)

theorem c_gen0 (v : Value) (b : List UInt8) (w0 : World) (hs : Sl w0 v (b.map e8)) (hb : b.length ≠ 32) (hG : Glob w0) (hP : GlobP w0) :
    Calls Tryz.prog 28 #[v] w0 fun e w' => ∃ u0 u1 : Value, e = .returned (.tuple #[u0, u1, en 1]) ∧ Below w0.heap.size w0 w' ∧ Sl w' u0 ((([] : List UInt8)).map e8) ∧ (∀ j, u0.ownBlock = some j → w0.heap.size ≤ j) ∧ Sl w' u1 ((([] : List UInt8)).map e8) ∧ (∀ j, u1.ownBlock = some j → w0.heap.size ≤ j) := by
 refine enter (args := [_]) Tryz.func28 rfl Tryz.ntmps28 rfl ?_
 intro a ha
 have hB := Below.refl w0.heap.size w0
 refine qr fun K1 k2 => ?_
 refine s3 ha rfl (av rfl) (av rfl) (av rfl) ?_; intro a ha
 refine k2 _ _ ?_
 refine wp_seq_k fun K3 k4 => ?_
 refine qr fun K5 k6 => ?_
 refine s3 ha rfl (mv rfl) (fun _ ha => r_lenS ha Tryz.runUnderlying22 (hs.below hB) rfl (by rw [List.length_map])) (fun _ ha => r_neq ha ((b.length : Nat) : Int) 32 true rfl rfl (decide_eq_true (by omega))) ?_; intro a ha
 refine k6 _ _ ?_
 refine cond_t ha rfl ?_
 refine qr fun K7 k8 => ?_
 refine s3 ha rfl (av rfl) (av rfl) (av rfl) ?_; intro a ha
 refine k8 _ _ ?_
 refine wp_ret (t_ret ?_)
 exact ret3 ha Tryz.results28 rfl rfl rfl ⟨_, _, rfl, hB, (Sl.castM (l := ([] : List UInt8)) (Sl.nil _) rfl), (fun j hj => (nil_own j hj).elim), (Sl.castM (l := ([] : List UInt8)) (Sl.nil _) rfl), (fun j hj => (nil_own j hj).elim)⟩

theorem zero_50M2 : ∀ w, (zeroValue 50).run Tryz.prog w = .ok (.agg ((List.replicate 256 (0 : Int)).map ei).toArray) w := fun _ => by kernel_rfl
theorem c_enc_1 (p : List Int) (w0 : World) (hp : p.length = 256) :
    Calls Tryz.prog 50 #[.agg ((p).map ei).toArray] w0 fun e w' => e = .returned (.agg ((sq10 p).map ei).toArray) ∧ Below w0.heap.size w0 w' := by
 refine enter (args := [_]) Tryz.func50 rfl Tryz.ntmps50 rfl ?_
 intro a ha
 have hB := Below.refl w0.heap.size w0
 refine qr fun K1 k2 => ?_
 refine sbox ha rfl rfl ?_
 intro a w3 b4 ha hg hb4 hge4 hlt4
 have hz4 := Nat.le_trans hB.size hge4
 replace hB := keepB0 hg hB
 refine salloc ha zero_50M2 rfl ?_
 intro a w5 b6 ha hg hb6 hge6 hlt6
 have hz6 := Nat.le_trans hB.size hge6
 have hq4_6 := bl hb4 hge6
 replace hB := keepB0 hg hB
 replace hb4 := keepO0 hg hb4
 refine k2 _ _ ?_
 refine qr fun K7 k8 => ?_
 refine s1 ha rfl (fun _ ha => r_loadR ha rfl Tryz.isAgg50 Tryz.sizeOf50 (C := (p).map ei) (by rw [List.length_map, hp]) (cells_all hb4)) ?_; intro a ha
 refine scp ha (r_call ha [ei 10, .agg ((p).map ei).toArray] rfl Tryz.call51) rfl rfl rfl (c_squeeze 10 p _ (by rw [hp])) ?_; intro w9 hg a ha
 replace hB := keepB0 hg hB
 replace hb6 := keepO0 hg hb6
 refine sstoreW ha rfl rfl (one_ei _) Tryz.sizeOf50 (by rw [List.length_map, sqA_len, hp]) hb6 (by rw [List.length_map, List.length_replicate]) ?_
 intro a w10 ha hg hb6'
 replace hb6 := hb6'
 replace hB := keepB1 hg (by omega) hB
 refine k8 _ _ ?_
 refine wp_ret ?_
 exact retC _ ha Tryz.results50 rfl hb6 Tryz.underlying50 rfl (by rw [List.length_map, sqA_len, hp]; kernel_rfl) ⟨rfl, hB⟩

theorem c_dec_1 (p : List Int) (w0 : World) (hp : p.length = 256) (hG : Glob w0) (hP : GlobP w0) :
    Calls Tryz.prog 60 #[.agg ((p).map ei).toArray] w0 fun e w' => e = .returned (.agg ((fsp p).map ei).toArray) ∧ Below w0.heap.size w0 w' := by
 refine enter (args := [_]) Tryz.func60 rfl Tryz.ntmps60 rfl ?_
 intro a ha
 have hB := Below.refl w0.heap.size w0
 refine qr fun K1 k2 => ?_
 refine sbox ha rfl rfl ?_
 intro a w3 b4 ha hg hb4 hge4 hlt4
 have hz4 := Nat.le_trans hB.size hge4
 replace hB := keepB0 hg hB
 refine salloc ha zero_50M2 rfl ?_
 intro a w5 b6 ha hg hb6 hge6 hlt6
 have hz6 := Nat.le_trans hB.size hge6
 have hq4_6 := bl hb4 hge6
 replace hB := keepB0 hg hB
 replace hb4 := keepO0 hg hb4
 refine k2 _ _ ?_
 refine qr fun K7 k8 => ?_
 refine s1 ha rfl (fun _ ha => r_loadR ha rfl Tryz.isAgg50 Tryz.sizeOf50 (C := (p).map ei) (by rw [List.length_map, hp]) (cells_all hb4)) ?_; intro a ha
 refine scp ha (r_call ha [ei 10, .agg ((p).map ei).toArray] rfl Tryz.call49) rfl rfl rfl (c_spread 10 p _ (by rw [hp])) ?_; intro w9 hg a ha
 replace hB := keepB0 hg hB
 replace hb6 := keepO0 hg hb6
 refine scp ha (r_call ha [.agg (((spA 10 p 256)).map ei).toArray] rfl Tryz.call39) rfl rfl rfl (c_fwd (spA 10 p 256) _ (by rw [spA_len, hp]) (globP_keep hP hB)) ?_; intro w10 hg a ha
 replace hB := keepB0 hg hB
 replace hb6 := keepO0 hg hb6
 refine sstoreW ha rfl rfl (one_ei _) Tryz.sizeOf50 (by rw [List.length_map, (fwd_red _ (by rw [spA_len, hp])).len]) hb6 (by rw [List.length_map, List.length_replicate]) ?_
 intro a w11 ha hg hb6'
 replace hb6 := hb6'
 replace hB := keepB1 hg (by omega) hB
 refine k8 _ _ ?_
 refine wp_ret ?_
 exact retC _ ha Tryz.results60 rfl hb6 Tryz.underlying50 rfl (by rw [List.length_map, (fwd_red _ (by rw [spA_len, hp])).len]; kernel_rfl) ⟨rfl, hB⟩

theorem c_turnedF (i j b2 : Nat) (bk : Nat) (v : Value) (rho : List UInt8) (w0 : World) (hij : i ≤ 1000 ∧ j ≤ 1000) (hs : Sl w0 v (rho.map e8)) (hk : rho.length ≤ 50000) (hb2 : w0.heap[b2]? = some (.cells (([.func (.func 88) #[] #[.pointer (some ⟨bk, 0, none⟩)]] : List Value)).toArray 58 (0, 0))) (hbk : w0.heap[bk]? = some (.cells ([v]).toArray 22 (0, 0))) (hG : Glob w0) (hP : GlobP w0) :
    Calls Tryz.prog 90 #[en i, en j, .pointer (some ⟨b2, 0, none⟩)] w0 fun e w' => e = .returned (.agg ((matT rho i j).map ei).toArray) ∧ Below w0.heap.size w0 w' := by
 refine enter (args := [_, _, _]) Tryz.func90 rfl Tryz.ntmps90 rfl ?_
 intro a ha
 have hB := Below.refl w0.heap.size w0
 refine qr fun K1 k2 => ?_
 refine salloc ha zero_50M2 rfl ?_
 intro a w3 b4 ha hg hb4 hge4 hlt4
 have hz4 := Nat.le_trans hB.size hge4
 have hq2_4 := bl hb2 hge4
 have hqk_4 := bl hbk hge4
 replace hB := keepB0 hg hB
 replace hb2 := keepO0 hg hb2
 replace hbk := keepO0 hg hbk
 refine k2 _ _ ?_
 refine qr fun K5 k6 => ?_
 refine s3 ha rfl (fun _ ha => r_load ha rfl Tryz.isAgg58 (cell_of hb2 rfl)) (mv rfl) (mv rfl) ?_; intro a ha
 refine scp ha (r_callV ha (cap := #[.pointer (some ⟨bk, 0, none⟩)]) [en j, en i] rfl rfl Tryz.call88) rfl rfl rfl (c_matrixF j i bk v rho _ (by omega) (hs.below hB) (by omega) hbk (glob_keep hG hB)) ?_; intro w7 hg a ha
 replace hB := keepB0 hg hB
 replace hb2 := keepO0 hg hb2
 replace hbk := keepO0 hg hbk
 replace hb4 := keepO0 hg hb4
 refine sstoreW ha rfl rfl (one_ei _) Tryz.sizeOf50 (by rw [List.length_map, mat_len]) hb4 (by rw [List.length_map, List.length_replicate]) ?_
 intro a w8 ha hg hb4'
 replace hb4 := hb4'
 replace hB := keepB1 hg (by omega) hB
 replace hb2 := keepO1 hg (by omega) hb2
 replace hbk := keepO1 hg (by omega) hbk
 refine k6 _ _ ?_
 refine wp_ret ?_
 exact retC _ ha Tryz.results90 rfl hb4 Tryz.underlying50 rfl (by rw [List.length_map, mat_len]; kernel_rfl) ⟨rfl, hB⟩

theorem c_dot (r s : List Int) (w0 : World) (hr : r.length = 768) (hs2 : s.length = 768) (hG : Glob w0) (hP : GlobP w0) :
    Calls Tryz.prog 47 #[.agg ((r).map ei).toArray, .agg ((s).map ei).toArray] w0 fun e w' => e = .returned (.agg ((dotA r s 3).map ei).toArray) ∧ Below w0.heap.size w0 w' := by
 refine enter (args := [_, _]) Tryz.func47 rfl Tryz.ntmps47 rfl ?_
 intro a ha
 have hB := Below.refl w0.heap.size w0
 refine qr fun K1 k2 => ?_
 refine sbox ha rfl rfl ?_
 intro a w3 b4 ha hg hb4 hge4 hlt4
 have hz4 := Nat.le_trans hB.size hge4
 replace hB := keepB0 hg hB
 refine sbox ha rfl rfl ?_
 intro a w5 b6 ha hg hb6 hge6 hlt6
 have hz6 := Nat.le_trans hB.size hge6
 have hq4_6 := bl hb4 hge6
 replace hB := keepB0 hg hB
 replace hb4 := keepO0 hg hb4
 refine salloc ha zero_50M2 rfl ?_
 intro a w7 b8 ha hg hb8 hge8 hlt8
 have hz8 := Nat.le_trans hB.size hge8
 have hq4_8 := bl hb4 hge8
 have hq6_8 := bl hb6 hge8
 replace hB := keepB0 hg hB
 replace hb4 := keepO0 hg hb4
 replace hb6 := keepO0 hg hb6
 refine k2 _ _ ?_
 refine qr fun K9 k10 => ?_
 refine salloc ha zero_50M2 rfl ?_
 intro a w11 b12 ha hg hb12 hge12 hlt12
 have hz12 := Nat.le_trans hB.size hge12
 have hq4_12 := bl hb4 hge12
 have hq6_12 := bl hb6 hge12
 have hq8_12 := bl hb8 hge12
 replace hB := keepB0 hg hB
 replace hb4 := keepO0 hg hb4
 replace hb6 := keepO0 hg hb6
 replace hb8 := keepO0 hg hb8
 refine k10 _ _ ?_
 refine wp_seq_k fun K13 k14 => ?_
 refine qr fun K15 k16 => ?_
 refine s1 ha rfl (mv rfl) ?_; intro a ha
 refine k16 _ _ ?_
 refine wp_block ?_
 refine loopG (fun (i : Nat) a w => (i ≤ 3) ∧ Has 21 [(2, .pointer (some ⟨b4, 0, none⟩)), (3, .pointer (some ⟨b6, 0, none⟩)), (4, .pointer (some ⟨b8, 0, none⟩)), (5, .pointer (some ⟨b12, 0, none⟩)), (7, en i)] a ∧ Below w0.heap.size w0 w ∧ w.heap[b4]? = some (.cells ((r).map ei).toArray 52 (0, 0)) ∧ w.heap[b6]? = some (.cells ((s).map ei).toArray 52 (0, 0)) ∧ w.heap[b8]? = some (.cells ((List.replicate 256 (0 : Int)).map ei).toArray 50 (0, 0)) ∧ w.heap[b12]? = some (.cells ((dotA r s i).map ei).toArray 50 (0, 0))) (fun i => 3 - i) 0 ⟨(by omega), ha.to [2, 3, 4, 5, 7] rfl, hB, hb4, hb6, hb8, hb12⟩ ?_
 clear ha a hB hb4 hb6 hb8 hb12
 intro i a w17 ⟨hki, ha, hB, hb4, hb6, hb8, hb12⟩
 refine qr fun K18 k19 => ?_
 refine s1 ha rfl (fun _ ha => r_lss ha ((i : Nat) : Int) 3 (decide (i < 3)) rfl rfl (decide_eq_decide.2 (by omega))) ?_; intro a ha
 refine k19 _ _ ?_
 refine wp_seq_k fun K20 k21 => ?_
 refine cond_if ha rfl (fun hc22 => ?_) (fun hc22 => ?_)
 ·skip
  replace hc22 := of_decide_eq_true hc22
  refine wp_skip ?_
  refine k21 _ _ ?_
  refine wp_seq_k fun K23 k24 => ?_
  refine wp_block ?_
  refine qr fun K25 k26 => ?_
  refine s2 ha rfl (mv rfl) (av rfl) ?_; intro a ha
  refine k26 _ _ ?_
  refine regionD (S := fun w => Below w0.heap.size w0 w ∧ w.heap[b4]? = some (.cells ((r).map ei).toArray 52 (0, 0)) ∧ w.heap[b6]? = some (.cells ((s).map ei).toArray 52 (0, 0)) ∧ w.heap[b8]? = some (.cells ((List.replicate 256 (0 : Int)).map ei).toArray 50 (0, 0)) ∧ w.heap[b12]? = some (.cells ((dotA r s i).map ei).toArray 50 (0, 0)) ∧ True) [9] [0, 1, 2, 3, 4, 5, 6] [0, 1, 2, 3, 4, 5, 6, 7, 8, 9] mixed (by kernel_rfl) (fun w hg => ⟨keepB0 hg hB, keepO0 hg hb4, keepO0 hg hb6, keepO0 hg hb8, keepO0 hg hb12, trivial⟩) ?_
  intro w27 hg
  replace hB := keepB0 hg hB
  replace hb4 := keepO0 hg hb4
  replace hb6 := keepO0 hg hb6
  replace hb8 := keepO0 hg hb8
  replace hb12 := keepO0 hg hb12
  refine c6 ha rfl (fun w ⟨_, _, _, _, hb12, _⟩ _ ha => r_loadR ha rfl Tryz.isAgg50 Tryz.sizeOf50 (C := (dotA r s i).map ei) (by rw [List.length_map, dotA_len]) (cells_all hb12)) (cmv rfl) (fun w _ _ ha => r_indexArr (i := i) ha (i * 256) Tryz.runUnderlying52 Tryz.sizeOf50 rfl rfl (by omega) (by omega)) (fun w ⟨_, hb4, _⟩ _ ha => r_loadR ha rfl Tryz.isAgg50 Tryz.sizeOf50 (C := (rg r i).map ei) (by rw [List.length_map, rg_len _ _ (by rw [hr]; omega)]) (cells_of (i * 256) hb4 (rg_map _ _ (by rw [hr]; omega)))) (cmv rfl) (fun w _ _ ha => r_indexArr (i := i) ha (i * 256) Tryz.runUnderlying52 Tryz.sizeOf50 rfl rfl (by omega) (by omega)) ?_; intro a ha
  refine c1 ha rfl (fun w ⟨_, _, hb6, _⟩ _ ha => r_loadR ha rfl Tryz.isAgg50 Tryz.sizeOf50 (C := (rg s i).map ei) (by rw [List.length_map, rg_len _ _ (by rw [hs2]; omega)]) (cells_of (i * 256) hb6 (rg_map _ _ (by rw [hs2]; omega)))) ?_; intro a ha
  refine cc ha rfl rfl (r_call ha [.agg (((rg r i)).map ei).toArray, .agg (((rg s i)).map ei).toArray] rfl Tryz.call91) rfl rfl rfl (c_times (rg r i) (rg s i) _ (by rw [rg_len _ _ (by rw [hr]; omega)]) (by rw [rg_len _ _ (by rw [hs2]; omega)]) (globP_keep hP hB)) ?_
  rintro e w28 ⟨rfl, hBc⟩
  have hg := grown_call hBc
  replace hB := keepB0 hg hB
  replace hb4 := keepO0 hg hb4
  replace hb6 := keepO0 hg hb6
  replace hb8 := keepO0 hg hb8
  replace hb12 := keepO0 hg hb12
  refine ⟨fun _ => ⟨hB, hb4, hb6, hb8, hb12, trivial⟩, _, rfl, ?_⟩; intro a ha
  refine cc ha rfl rfl (r_call ha [.agg (((dotA r s i)).map ei).toArray, .agg (((tms (rg r i) (rg s i))).map ei).toArray] rfl Tryz.call46) rfl rfl rfl (c_plus (dotA r s i) (tms (rg r i) (rg s i)) _ (by rw [dotA_len]) (by rw [(tms_red _ _).len])) ?_
  rintro e w29 ⟨rfl, hBc⟩
  have hg := grown_call hBc
  replace hB := keepB0 hg hB
  replace hb4 := keepO0 hg hb4
  replace hb6 := keepO0 hg hb6
  replace hb8 := keepO0 hg hb8
  replace hb12 := keepO0 hg hb12
  refine ⟨fun _ => ⟨hB, hb4, hb6, hb8, hb12, trivial⟩, _, rfl, ?_⟩; intro a ha
  refine cstoreW ha rfl rfl rfl rfl (one_ei _) Tryz.sizeOf50 (by rw [List.length_map, (pl_red _ _ (by rw [dotA_len])).len]) hb12 (by rw [List.length_map, dotA_len]) rfl ?_
  intro a w30 ha hg hb12'
  replace hb12 := hb12'
  replace hB := keepB1 hg (by omega) hB
  replace hb4 := keepO1 hg (by omega) hb4
  replace hb6 := keepO1 hg (by omega) hb6
  replace hb8 := keepO1 hg (by omega) hb8
  refine cfin (k24 _ _ ?_)
  refine region ?_
  refine s2 ha rfl (fun _ ha => rn_add ha i 1 rfl rfl (by omega)) (mv rfl) ?_; intro a ha
  exact ⟨i + 1, by omega, (by omega), ha.to [2, 3, 4, 5, 7] rfl, hB, hb4, hb6, hb8, hb12⟩
 ·skip
  replace hc22 := of_decide_eq_false hc22
  refine wp_exit ?_
  obtain rfl : i = 3 := by omega
  refine k14 _ _ ?_
  refine qr fun K31 k32 => ?_
  refine s1 ha rfl (fun _ ha => r_loadR ha rfl Tryz.isAgg50 Tryz.sizeOf50 (C := (dotA r s 3).map ei) (by rw [List.length_map, dotA_len]) (cells_all hb12)) ?_; intro a ha
  refine sstoreW ha rfl rfl (one_ei _) Tryz.sizeOf50 (by rw [List.length_map, dotA_len]) hb8 (by rw [List.length_map, List.length_replicate]) ?_
  intro a w33 ha hg hb8'
  replace hb8 := hb8'
  replace hB := keepB1 hg (by omega) hB
  replace hb12 := keepO1 hg (by omega) hb12
  refine k32 _ _ ?_
  refine wp_ret ?_
  exact retC _ ha Tryz.results47 rfl hb8 Tryz.underlying50 rfl (by rw [List.length_map, dotA_len]; kernel_rfl) ⟨rfl, hB⟩

theorem c_unpackR (d : Nat) (v : Value) (b : List UInt8) (w0 : World) (hd : 1 ≤ d ∧ d ≤ 12) (hs : Sl w0 v (b.map e8)) (hb : b.length = 32 * d * 3) :
    Calls Tryz.prog 36 #[en d, v] w0 fun e w' => e = .returned (.agg ((unR d b 3).map ei).toArray) ∧ Below w0.heap.size w0 w' := by
 refine enter (args := [_, _]) Tryz.func36 rfl Tryz.ntmps36 rfl ?_
 intro a ha
 have hB := Below.refl w0.heap.size w0
 refine qr fun K1 k2 => ?_
 refine salloc ha zero_52M2 rfl ?_
 intro a w3 b4 ha hg hb4 hge4 hlt4
 have hz4 := Nat.le_trans hB.size hge4
 replace hB := keepB0 hg hB
 refine k2 _ _ ?_
 refine qr fun K5 k6 => ?_
 refine salloc ha zero_52M2 rfl ?_
 intro a w7 b8 ha hg hb8 hge8 hlt8
 have hz8 := Nat.le_trans hB.size hge8
 have hq4_8 := bl hb4 hge8
 replace hB := keepB0 hg hB
 replace hb4 := keepO0 hg hb4
 refine k6 _ _ ?_
 refine wp_seq_k fun K9 k10 => ?_
 refine qr fun K11 k12 => ?_
 refine s1 ha rfl (mv rfl) ?_; intro a ha
 refine k12 _ _ ?_
 refine wp_block ?_
 refine loopG (fun (i : Nat) a w => (i ≤ 3) ∧ Has 32 [(0, en d), (1, v), (4, .pointer (some ⟨b4, 0, none⟩)), (5, .pointer (some ⟨b8, 0, none⟩)), (7, en i)] a ∧ Below w0.heap.size w0 w ∧ w.heap[b4]? = some (.cells ((List.replicate 768 (0 : Int)).map ei).toArray 52 (0, 0)) ∧ w.heap[b8]? = some (.cells ((unR d b i).map ei).toArray 52 (0, 0))) (fun i => 3 - i) 0 ⟨(by omega), ha.to [0, 1, 4, 5, 7] rfl, hB, hb4, hb8⟩ ?_
 clear ha a hB hb4 hb8
 intro i a w13 ⟨hki, ha, hB, hb4, hb8⟩
 have hdi : i < 3 → 32 * d * i + 32 * d ≤ 32 * d * 3 := fun h => by have := Nat.mul_le_mul_left (32 * d) (show i + 1 ≤ 3 from h); rw [Nat.mul_succ] at this; exact this
 have hdm := Nat.mul_le_mul (Nat.mul_le_mul (Nat.le_refl 32) hd.2) (show i ≤ 3 by omega)
 refine qr fun K14 k15 => ?_
 refine s1 ha rfl (fun _ ha => r_lss ha ((i : Nat) : Int) 3 (decide (i < 3)) rfl rfl (decide_eq_decide.2 (by omega))) ?_; intro a ha
 refine k15 _ _ ?_
 refine wp_seq_k fun K16 k17 => ?_
 refine cond_if ha rfl (fun hc18 => ?_) (fun hc18 => ?_)
 ·skip
  replace hc18 := of_decide_eq_true hc18
  refine wp_skip ?_
  refine k17 _ _ ?_
  refine wp_seq_k fun K19 k20 => ?_
  refine wp_block ?_
  refine qr fun K21 k22 => ?_
  refine s2 ha rfl (mv rfl) (av rfl) ?_; intro a ha
  refine k22 _ _ ?_
  refine region ?_
  refine s6 ha rfl (mv rfl) (mv rfl) (mv rfl) (mv rfl) (fun _ ha => rn_mul ha 32 d rfl rfl (by omega)) (mv rfl) ?_; intro a ha
  refine s6 ha rfl (fun _ ha => rn_mul ha (32 * d) i rfl rfl (by omega)) (mv rfl) (fun _ ha => rn_mul ha 32 d rfl rfl (by omega)) (mv rfl) (fun _ ha => rn_mul ha (32 * d) i rfl rfl (by omega)) (mv rfl) ?_; intro a ha
  refine s3 ha rfl (fun _ ha => rn_mul ha 32 d rfl rfl (by omega)) (fun _ ha => rn_add ha ((32 * d) * i) (32 * d) rfl rfl (by omega)) (fun _ ha => r_resl (C := (b).map e8) ha ((32 * d) * i) (((32 * d) * i) + (32 * d)) Tryz.runUnderlying22 Tryz.sizeOf5 (hs.below hB) rfl rfl rfl (by omega) (by rw [List.length_map]; exact (by omega))) ?_; intro a ha
  refine scp ha (r_call ha [en d, (rsl v ((32 * d) * i) (((32 * d) * i) + (32 * d)))] rfl Tryz.call45) rfl rfl rfl (c_unpack1 d (rsl v ((32 * d) * i) (((32 * d) * i) + (32 * d))) ((b.drop (32 * d * i)).take (32 * d)) _ (by omega) (Sl.castM (Sl.cutM (lo := (32 * d) * i) (hi := ((32 * d) * i) + (32 * d)) (hs.below hB) (by omega) (by omega)) (cutM _ _ _ _ rfl)) (by rw [List.length_take, List.length_drop]; omega)) ?_; intro w23 hg a ha
  replace hB := keepB0 hg hB
  replace hb4 := keepO0 hg hb4
  replace hb8 := keepO0 hg hb8
  refine s4 ha rfl (mv rfl) (fun _ ha => r_extract ha (vs := #[.agg ((unA d ((b.drop (32 * d * i)).take (32 * d)) 256).map ei).toArray, en 0]) rfl rfl) (fun _ ha => r_extract ha (vs := #[.agg ((unA d ((b.drop (32 * d * i)).take (32 * d)) 256).map ei).toArray, en 0]) rfl rfl) (fun _ ha => r_indexArr (i := i) ha (i * 256) Tryz.runUnderlying52 Tryz.sizeOf50 rfl rfl (by omega) (by omega)) ?_; intro a ha
  refine sstoreR ha rfl rfl (one_ei _) Tryz.sizeOf50 (by rw [List.length_map, unA_len]) hb8 (by simp only [List.length_map]; rw [unA_len, unR_len _ _ _ (by omega)]; omega) ?_
  intro a w24 ha hg hb8'
  rw [rs_map _ _ _ (by rw [unA_len])] at hb8'
  replace hb8 := hb8'
  replace hB := keepB1 hg (by omega) hB
  replace hb4 := keepO1 hg (by omega) hb4
  refine k20 _ _ ?_
  refine region ?_
  refine s2 ha rfl (fun _ ha => rn_add ha i 1 rfl rfl (by omega)) (mv rfl) ?_; intro a ha
  exact ⟨i + 1, by omega, (by omega), ha.to [0, 1, 4, 5, 7] rfl, hB, hb4, hb8⟩
 ·skip
  replace hc18 := of_decide_eq_false hc18
  refine wp_exit ?_
  obtain rfl : i = 3 := by omega
  refine k10 _ _ ?_
  refine qr fun K25 k26 => ?_
  refine s1 ha rfl (fun _ ha => r_loadR ha rfl Tryz.isAgg52 Tryz.sizeOf52 (C := (unR d b 3).map ei) (by rw [List.length_map, unR_len _ _ _ (by omega)]) (cells_all hb8)) ?_; intro a ha
  refine sstoreW ha rfl rfl (one_ei _) Tryz.sizeOf52 (by rw [List.length_map, unR_len _ _ _ (by omega)]) hb4 (by rw [List.length_map, List.length_replicate]) ?_
  intro a w27 ha hg hb4'
  replace hb4 := hb4'
  replace hB := keepB1 hg (by omega) hB
  replace hb8 := keepO1 hg (by omega) hb8
  refine k26 _ _ ?_
  refine wp_ret ?_
  exact retC _ ha Tryz.results36 rfl hb4 Tryz.underlying52 rfl (by rw [List.length_map, unR_len _ _ _ (by omega)]; kernel_rfl) ⟨rfl, hB⟩
end Go.Proofs.YtaignhikdfpbbaaGreatDoor

/- WALKS written by gen.py (own program) out of specs. -/
namespace Go.Proofs.YtaignhikdfpbbaaGreatDoor
open Go.RowKit Go.Rx
set_option maxRecDepth 100000
set_option maxHeartbeats 4000000
set_option linter.unusedVariables false
set_option linter.unusedSimpArgs false

theorem zero_52M3 : ∀ w, (zeroValue 52).run Tryz.prog w = .ok (.agg ((List.replicate 768 (0 : Int)).map ei).toArray) w := fun _ => by kernel_rfl
theorem c_eachEr (r : List Int) (w0 : World) (hr : r.length = 768) :
    Calls Tryz.prog 38 #[.agg ((r).map ei).toArray, .func (.func 50) #[] #[]] w0 fun e w' => e = .returned (.agg ((eaR sq10 r 3).map ei).toArray) ∧ Below w0.heap.size w0 w' := by
 refine enter (args := [_, _]) Tryz.func38 rfl Tryz.ntmps38 rfl ?_
 intro a ha
 have hB := Below.refl w0.heap.size w0
 refine qr fun K1 k2 => ?_
 refine sbox ha rfl rfl ?_
 intro a w3 b4 ha hg hb4 hge4 hlt4
 have hz4 := Nat.le_trans hB.size hge4
 replace hB := keepB0 hg hB
 refine salloc ha zero_52M3 rfl ?_
 intro a w5 b6 ha hg hb6 hge6 hlt6
 have hz6 := Nat.le_trans hB.size hge6
 have hq4_6 := bl hb4 hge6
 replace hB := keepB0 hg hB
 replace hb4 := keepO0 hg hb4
 refine k2 _ _ ?_
 refine wp_seq_k fun K7 k8 => ?_
 refine qr fun K9 k10 => ?_
 refine s1 ha rfl (mv rfl) ?_; intro a ha
 refine k10 _ _ ?_
 refine wp_block ?_
 refine loopG (fun (i : Nat) a w => (i ≤ 3) ∧ Has 18 [(1, .func (.func 50) #[] #[]), (2, .pointer (some ⟨b4, 0, none⟩)), (4, .pointer (some ⟨b6, 0, none⟩)), (6, en i)] a ∧ Below w0.heap.size w0 w ∧ w.heap[b4]? = some (.cells ((eaR sq10 r i).map ei).toArray 52 (0, 0)) ∧ w.heap[b6]? = some (.cells ((List.replicate 768 (0 : Int)).map ei).toArray 52 (0, 0))) (fun i => 3 - i) 0 ⟨(by omega), ha.to [1, 2, 4, 6] rfl, hB, hb4, hb6⟩ ?_
 clear ha a hB hb4 hb6
 intro i a w11 ⟨hki, ha, hB, hb4, hb6⟩
 refine qr fun K12 k13 => ?_
 refine s1 ha rfl (fun _ ha => r_lss ha ((i : Nat) : Int) 3 (decide (i < 3)) rfl rfl (decide_eq_decide.2 (by omega))) ?_; intro a ha
 refine k13 _ _ ?_
 refine wp_seq_k fun K14 k15 => ?_
 refine cond_if ha rfl (fun hc16 => ?_) (fun hc16 => ?_)
 ·skip
  replace hc16 := of_decide_eq_true hc16
  refine wp_skip ?_
  refine k15 _ _ ?_
  refine wp_seq_k fun K17 k18 => ?_
  refine wp_block ?_
  refine qr fun K19 k20 => ?_
  refine s2 ha rfl (mv rfl) (av rfl) ?_; intro a ha
  refine k20 _ _ ?_
  refine region ?_
  refine s5 ha rfl (mv rfl) (mv rfl) (mv rfl) (fun _ ha => r_indexArr (i := i) ha (i * 256) Tryz.runUnderlying52 Tryz.sizeOf50 rfl rfl (by omega) (by omega)) (fun _ ha => r_loadR ha rfl Tryz.isAgg50 Tryz.sizeOf50 (C := (rg (eaR sq10 r i) i).map ei) (by rw [List.length_map, rg_len _ _ (by rw [eaR_len _ sq10_len _ (by rw [hr]) _ (by omega)]; omega)]) (cells_of (i * 256) hb4 (rg_map _ _ (by rw [eaR_len _ sq10_len _ (by rw [hr]) _ (by omega)]; omega)))) ?_; intro a ha
  refine scp ha (r_callV ha (cap := #[]) [.agg (((rg (eaR sq10 r i) i)).map ei).toArray] rfl rfl Tryz.call50) rfl rfl rfl (c_enc_1 (rg (eaR sq10 r i) i) _ (by rw [rg_len _ _ (by rw [eaR_len _ sq10_len _ (by rw [hr]) _ (by omega)]; omega)])) ?_; intro w21 hg a ha
  replace hB := keepB0 hg hB
  replace hb4 := keepO0 hg hb4
  replace hb6 := keepO0 hg hb6
  refine s1 ha rfl (fun _ ha => r_indexArr (i := i) ha (i * 256) Tryz.runUnderlying52 Tryz.sizeOf50 rfl rfl (by omega) (by omega)) ?_; intro a ha
  refine sstoreR ha rfl rfl (one_ei _) Tryz.sizeOf50 (by rw [List.length_map, sq10_len _ (by rw [rg_len _ _ (by rw [eaR_len _ sq10_len _ (by rw [hr]) _ (by omega)]; omega)])]) hb4 (by simp only [List.length_map]; rw [sq10_len _ (by rw [rg_len _ _ (by rw [eaR_len _ sq10_len _ (by rw [hr]) _ (by omega)]; omega)]), eaR_len _ sq10_len _ (by rw [hr]) _ (by omega)]; omega) ?_
  intro a w22 ha hg hb4'
  rw [rs_map _ _ _ (by rw [sq10_len _ (by rw [rg_len _ _ (by rw [eaR_len _ sq10_len _ (by rw [hr]) _ (by omega)]; omega)])])] at hb4'
  replace hb4 := hb4'
  replace hB := keepB1 hg (by omega) hB
  replace hb6 := keepO1 hg (by omega) hb6
  refine k18 _ _ ?_
  refine region ?_
  refine s2 ha rfl (fun _ ha => rn_add ha i 1 rfl rfl (by omega)) (mv rfl) ?_; intro a ha
  exact ⟨i + 1, by omega, (by omega), ha.to [1, 2, 4, 6] rfl, hB, hb4, hb6⟩
 ·skip
  replace hc16 := of_decide_eq_false hc16
  refine wp_exit ?_
  obtain rfl : i = 3 := by omega
  refine k8 _ _ ?_
  refine qr fun K23 k24 => ?_
  refine s1 ha rfl (fun _ ha => r_loadR ha rfl Tryz.isAgg52 Tryz.sizeOf52 (C := (eaR sq10 r 3).map ei) (by rw [List.length_map, eaR_len _ sq10_len _ (by rw [hr]) _ (by omega)]) (cells_all hb4)) ?_; intro a ha
  refine sstoreW ha rfl rfl (one_ei _) Tryz.sizeOf52 (by rw [List.length_map, eaR_len _ sq10_len _ (by rw [hr]) _ (by omega)]) hb6 (by rw [List.length_map, List.length_replicate]) ?_
  intro a w25 ha hg hb6'
  replace hb6 := hb6'
  replace hB := keepB1 hg (by omega) hB
  replace hb4 := keepO1 hg (by omega) hb4
  refine k24 _ _ ?_
  refine wp_ret ?_
  exact retC _ ha Tryz.results38 rfl hb6 Tryz.underlying52 rfl (by rw [List.length_map, eaR_len _ sq10_len _ (by rw [hr]) _ (by omega)]; kernel_rfl) ⟨rfl, hB⟩

theorem c_eachDr (r : List Int) (w0 : World) (hr : r.length = 768) (hG : Glob w0) (hP : GlobP w0) :
    Calls Tryz.prog 38 #[.agg ((r).map ei).toArray, .func (.func 60) #[] #[]] w0 fun e w' => e = .returned (.agg ((eaR fsp r 3).map ei).toArray) ∧ Below w0.heap.size w0 w' := by
 refine enter (args := [_, _]) Tryz.func38 rfl Tryz.ntmps38 rfl ?_
 intro a ha
 have hB := Below.refl w0.heap.size w0
 refine qr fun K1 k2 => ?_
 refine sbox ha rfl rfl ?_
 intro a w3 b4 ha hg hb4 hge4 hlt4
 have hz4 := Nat.le_trans hB.size hge4
 replace hB := keepB0 hg hB
 refine salloc ha zero_52M3 rfl ?_
 intro a w5 b6 ha hg hb6 hge6 hlt6
 have hz6 := Nat.le_trans hB.size hge6
 have hq4_6 := bl hb4 hge6
 replace hB := keepB0 hg hB
 replace hb4 := keepO0 hg hb4
 refine k2 _ _ ?_
 refine wp_seq_k fun K7 k8 => ?_
 refine qr fun K9 k10 => ?_
 refine s1 ha rfl (mv rfl) ?_; intro a ha
 refine k10 _ _ ?_
 refine wp_block ?_
 refine loopG (fun (i : Nat) a w => (i ≤ 3) ∧ Has 18 [(1, .func (.func 60) #[] #[]), (2, .pointer (some ⟨b4, 0, none⟩)), (4, .pointer (some ⟨b6, 0, none⟩)), (6, en i)] a ∧ Below w0.heap.size w0 w ∧ w.heap[b4]? = some (.cells ((eaR fsp r i).map ei).toArray 52 (0, 0)) ∧ w.heap[b6]? = some (.cells ((List.replicate 768 (0 : Int)).map ei).toArray 52 (0, 0))) (fun i => 3 - i) 0 ⟨(by omega), ha.to [1, 2, 4, 6] rfl, hB, hb4, hb6⟩ ?_
 clear ha a hB hb4 hb6
 intro i a w11 ⟨hki, ha, hB, hb4, hb6⟩
 refine qr fun K12 k13 => ?_
 refine s1 ha rfl (fun _ ha => r_lss ha ((i : Nat) : Int) 3 (decide (i < 3)) rfl rfl (decide_eq_decide.2 (by omega))) ?_; intro a ha
 refine k13 _ _ ?_
 refine wp_seq_k fun K14 k15 => ?_
 refine cond_if ha rfl (fun hc16 => ?_) (fun hc16 => ?_)
 ·skip
  replace hc16 := of_decide_eq_true hc16
  refine wp_skip ?_
  refine k15 _ _ ?_
  refine wp_seq_k fun K17 k18 => ?_
  refine wp_block ?_
  refine qr fun K19 k20 => ?_
  refine s2 ha rfl (mv rfl) (av rfl) ?_; intro a ha
  refine k20 _ _ ?_
  refine region ?_
  refine s5 ha rfl (mv rfl) (mv rfl) (mv rfl) (fun _ ha => r_indexArr (i := i) ha (i * 256) Tryz.runUnderlying52 Tryz.sizeOf50 rfl rfl (by omega) (by omega)) (fun _ ha => r_loadR ha rfl Tryz.isAgg50 Tryz.sizeOf50 (C := (rg (eaR fsp r i) i).map ei) (by rw [List.length_map, rg_len _ _ (by rw [eaR_len _ fsp_len _ (by rw [hr]) _ (by omega)]; omega)]) (cells_of (i * 256) hb4 (rg_map _ _ (by rw [eaR_len _ fsp_len _ (by rw [hr]) _ (by omega)]; omega)))) ?_; intro a ha
  refine scp ha (r_callV ha (cap := #[]) [.agg (((rg (eaR fsp r i) i)).map ei).toArray] rfl rfl Tryz.call60) rfl rfl rfl (c_dec_1 (rg (eaR fsp r i) i) _ (by rw [rg_len _ _ (by rw [eaR_len _ fsp_len _ (by rw [hr]) _ (by omega)]; omega)]) (glob_keep hG hB) (globP_keep hP hB)) ?_; intro w21 hg a ha
  replace hB := keepB0 hg hB
  replace hb4 := keepO0 hg hb4
  replace hb6 := keepO0 hg hb6
  refine s1 ha rfl (fun _ ha => r_indexArr (i := i) ha (i * 256) Tryz.runUnderlying52 Tryz.sizeOf50 rfl rfl (by omega) (by omega)) ?_; intro a ha
  refine sstoreR ha rfl rfl (one_ei _) Tryz.sizeOf50 (by rw [List.length_map, fsp_len _ (by rw [rg_len _ _ (by rw [eaR_len _ fsp_len _ (by rw [hr]) _ (by omega)]; omega)])]) hb4 (by simp only [List.length_map]; rw [fsp_len _ (by rw [rg_len _ _ (by rw [eaR_len _ fsp_len _ (by rw [hr]) _ (by omega)]; omega)]), eaR_len _ fsp_len _ (by rw [hr]) _ (by omega)]; omega) ?_
  intro a w22 ha hg hb4'
  rw [rs_map _ _ _ (by rw [fsp_len _ (by rw [rg_len _ _ (by rw [eaR_len _ fsp_len _ (by rw [hr]) _ (by omega)]; omega)])])] at hb4'
  replace hb4 := hb4'
  replace hB := keepB1 hg (by omega) hB
  replace hb6 := keepO1 hg (by omega) hb6
  refine k18 _ _ ?_
  refine region ?_
  refine s2 ha rfl (fun _ ha => rn_add ha i 1 rfl rfl (by omega)) (mv rfl) ?_; intro a ha
  exact ⟨i + 1, by omega, (by omega), ha.to [1, 2, 4, 6] rfl, hB, hb4, hb6⟩
 ·skip
  replace hc16 := of_decide_eq_false hc16
  refine wp_exit ?_
  obtain rfl : i = 3 := by omega
  refine k8 _ _ ?_
  refine qr fun K23 k24 => ?_
  refine s1 ha rfl (fun _ ha => r_loadR ha rfl Tryz.isAgg52 Tryz.sizeOf52 (C := (eaR fsp r 3).map ei) (by rw [List.length_map, eaR_len _ fsp_len _ (by rw [hr]) _ (by omega)]) (cells_all hb4)) ?_; intro a ha
  refine sstoreW ha rfl rfl (one_ei _) Tryz.sizeOf52 (by rw [List.length_map, eaR_len _ fsp_len _ (by rw [hr]) _ (by omega)]) hb6 (by rw [List.length_map, List.length_replicate]) ?_
  intro a w25 ha hg hb6'
  replace hb6 := hb6'
  replace hB := keepB1 hg (by omega) hB
  replace hb4 := keepO1 hg (by omega) hb4
  refine k24 _ _ ?_
  refine wp_ret ?_
  exact retC _ ha Tryz.results38 rfl hb6 Tryz.underlying52 rfl (by rw [List.length_map, eaR_len _ fsp_len _ (by rw [hr]) _ (by omega)]; kernel_rfl) ⟨rfl, hB⟩

theorem c_timesT (b2 : Nat) (bk : Nat) (v : Value) (rho : List UInt8) (r : List Int) (w0 : World) (hs : Sl w0 v (rho.map e8)) (hk : rho.length ≤ 50000) (hr : r.length = 768) (hb2 : w0.heap[b2]? = some (.cells (([.func (.func 88) #[] #[.pointer (some ⟨bk, 0, none⟩)]] : List Value)).toArray 58 (0, 0))) (hbk : w0.heap[bk]? = some (.cells ([v]).toArray 22 (0, 0))) (hG : Glob w0) (hP : GlobP w0) :
    Calls Tryz.prog 42 #[.func (.func 90) #[] #[.pointer (some ⟨b2, 0, none⟩)], .agg ((r).map ei).toArray] w0 fun e w' => e = .returned (.agg ((tiA (matT rho) r 3).map ei).toArray) ∧ Below w0.heap.size w0 w' := by
 refine enter (args := [_, _]) Tryz.func42 rfl Tryz.ntmps42 rfl ?_
 intro a ha
 have hB := Below.refl w0.heap.size w0
 refine qr fun K1 k2 => ?_
 refine sbox ha rfl rfl ?_
 intro a w3 b4 ha hg hb4 hge4 hlt4
 have hz4 := Nat.le_trans hB.size hge4
 have hq2_4 := bl hb2 hge4
 have hqk_4 := bl hbk hge4
 replace hB := keepB0 hg hB
 replace hb2 := keepO0 hg hb2
 replace hbk := keepO0 hg hbk
 refine salloc ha zero_52M3 rfl ?_
 intro a w5 b6 ha hg hb6 hge6 hlt6
 have hz6 := Nat.le_trans hB.size hge6
 have hq2_6 := bl hb2 hge6
 have hqk_6 := bl hbk hge6
 have hq4_6 := bl hb4 hge6
 replace hB := keepB0 hg hB
 replace hb2 := keepO0 hg hb2
 replace hbk := keepO0 hg hbk
 replace hb4 := keepO0 hg hb4
 refine k2 _ _ ?_
 refine qr fun K7 k8 => ?_
 refine salloc ha zero_52M3 rfl ?_
 intro a w9 b10 ha hg hb10 hge10 hlt10
 have hz10 := Nat.le_trans hB.size hge10
 have hq2_10 := bl hb2 hge10
 have hqk_10 := bl hbk hge10
 have hq4_10 := bl hb4 hge10
 have hq6_10 := bl hb6 hge10
 replace hB := keepB0 hg hB
 replace hb2 := keepO0 hg hb2
 replace hbk := keepO0 hg hbk
 replace hb4 := keepO0 hg hb4
 replace hb6 := keepO0 hg hb6
 refine k8 _ _ ?_
 refine wp_seq_k fun K11 k12 => ?_
 refine qr fun K13 k14 => ?_
 refine s1 ha rfl (mv rfl) ?_; intro a ha
 refine k14 _ _ ?_
 refine wp_block ?_
 refine loopG (fun (i : Nat) a w => (i ≤ 3) ∧ Has 31 [(0, .func (.func 90) #[] #[.pointer (some ⟨b2, 0, none⟩)]), (3, .pointer (some ⟨b4, 0, none⟩)), (4, .pointer (some ⟨b6, 0, none⟩)), (5, .pointer (some ⟨b10, 0, none⟩)), (8, en i)] a ∧ Below w0.heap.size w0 w ∧ w.heap[b2]? = some (.cells (([.func (.func 88) #[] #[.pointer (some ⟨bk, 0, none⟩)]] : List Value)).toArray 58 (0, 0)) ∧ w.heap[bk]? = some (.cells ([v]).toArray 22 (0, 0)) ∧ w.heap[b4]? = some (.cells ((r).map ei).toArray 52 (0, 0)) ∧ w.heap[b6]? = some (.cells ((List.replicate 768 (0 : Int)).map ei).toArray 52 (0, 0)) ∧ w.heap[b10]? = some (.cells ((tiA (matT rho) r i).map ei).toArray 52 (0, 0))) (fun i => 3 - i) 0 ⟨(by omega), ha.to [0, 3, 4, 5, 8] rfl, hB, hb2, hbk, hb4, hb6, hb10⟩ ?_
 clear ha a hB hb2 hbk hb4 hb6 hb10
 intro i a w15 ⟨hki, ha, hB, hb2, hbk, hb4, hb6, hb10⟩
 refine qr fun K16 k17 => ?_
 refine s1 ha rfl (fun _ ha => r_lss ha ((i : Nat) : Int) 3 (decide (i < 3)) rfl rfl (decide_eq_decide.2 (by omega))) ?_; intro a ha
 refine k17 _ _ ?_
 refine wp_seq_k fun K18 k19 => ?_
 refine cond_if ha rfl (fun hc20 => ?_) (fun hc20 => ?_)
 ·skip
  replace hc20 := of_decide_eq_true hc20
  refine wp_skip ?_
  refine k19 _ _ ?_
  refine wp_seq_k fun K21 k22 => ?_
  refine wp_block ?_
  refine qr fun K23 k24 => ?_
  refine s2 ha rfl (mv rfl) (av rfl) ?_; intro a ha
  refine k24 _ _ ?_
  refine qr fun K25 k26 => ?_
  refine s1 ha rfl (mv rfl) ?_; intro a ha
  refine k26 _ _ ?_
  refine wp_block ?_
  have hti := tiA_len (matT rho) r i (by omega)
  refine loopG (fun (j : Nat) a w => (j ≤ 3) ∧ Has 31 [(0, .func (.func 90) #[] #[.pointer (some ⟨b2, 0, none⟩)]), (3, .pointer (some ⟨b4, 0, none⟩)), (4, .pointer (some ⟨b6, 0, none⟩)), (5, .pointer (some ⟨b10, 0, none⟩)), (8, en i), (6, en i), (11, en j)] a ∧ Below w0.heap.size w0 w ∧ w.heap[b2]? = some (.cells (([.func (.func 88) #[] #[.pointer (some ⟨bk, 0, none⟩)]] : List Value)).toArray 58 (0, 0)) ∧ w.heap[bk]? = some (.cells ([v]).toArray 22 (0, 0)) ∧ w.heap[b4]? = some (.cells ((r).map ei).toArray 52 (0, 0)) ∧ w.heap[b6]? = some (.cells ((List.replicate 768 (0 : Int)).map ei).toArray 52 (0, 0)) ∧ w.heap[b10]? = some (.cells ((tiB (matT rho) r (tiA (matT rho) r i) i j).map ei).toArray 52 (0, 0))) (fun j => 3 - j) 0 ⟨(by omega), ha.to [0, 3, 4, 5, 8, 6, 11] rfl, hB, hb2, hbk, hb4, hb6, hb10⟩ ?_
  clear ha a hB hb2 hbk hb4 hb6 hb10
  intro j a w27 ⟨hkj, ha, hB, hb2, hbk, hb4, hb6, hb10⟩
  refine qr fun K28 k29 => ?_
  refine s1 ha rfl (fun _ ha => r_lss ha ((j : Nat) : Int) 3 (decide (j < 3)) rfl rfl (decide_eq_decide.2 (by omega))) ?_; intro a ha
  refine k29 _ _ ?_
  refine wp_seq_k fun K30 k31 => ?_
  refine cond_if ha rfl (fun hc32 => ?_) (fun hc32 => ?_)
  ·skip
   replace hc32 := of_decide_eq_true hc32
   refine wp_skip ?_
   refine k31 _ _ ?_
   refine wp_seq_k fun K33 k34 => ?_
   refine wp_block ?_
   refine qr fun K35 k36 => ?_
   refine s2 ha rfl (mv rfl) (av rfl) ?_; intro a ha
   refine k36 _ _ ?_
   refine regionD (S := fun w => Below w0.heap.size w0 w ∧ w.heap[b2]? = some (.cells (([.func (.func 88) #[] #[.pointer (some ⟨bk, 0, none⟩)]] : List Value)).toArray 58 (0, 0)) ∧ w.heap[bk]? = some (.cells ([v]).toArray 22 (0, 0)) ∧ w.heap[b4]? = some (.cells ((r).map ei).toArray 52 (0, 0)) ∧ w.heap[b6]? = some (.cells ((List.replicate 768 (0 : Int)).map ei).toArray 52 (0, 0)) ∧ w.heap[b10]? = some (.cells ((tiB (matT rho) r (tiA (matT rho) r i) i j).map ei).toArray 52 (0, 0)) ∧ True) [14] [0, 1, 2, 3, 4, 5, 6, 8, 9, 10, 13] [0, 1, 2, 3, 4, 5, 6, 8, 9, 10, 7, 11, 12, 13, 14] mixed (by kernel_rfl) (fun w hg => ⟨keepB0 hg hB, keepO0 hg hb2, keepO0 hg hbk, keepO0 hg hb4, keepO0 hg hb6, keepO0 hg hb10, trivial⟩) ?_
   intro w37 hg
   replace hB := keepB0 hg hB
   replace hb2 := keepO0 hg hb2
   replace hbk := keepO0 hg hbk
   replace hb4 := keepO0 hg hb4
   replace hb6 := keepO0 hg hb6
   replace hb10 := keepO0 hg hb10
   refine c6 ha rfl (cmv rfl) (cmv rfl) (fun w _ _ ha => r_indexArr (i := i) ha (i * 256) Tryz.runUnderlying52 Tryz.sizeOf50 rfl rfl (by omega) (by omega)) (fun w ⟨_, _, _, _, _, hb10, _⟩ _ ha => r_loadR ha rfl Tryz.isAgg50 Tryz.sizeOf50 (C := (rg (tiB (matT rho) r (tiA (matT rho) r i) i j) i).map ei) (by rw [List.length_map, rg_len _ _ (by rw [tiB_len _ _ _ hti _ (by omega)]; omega)]) (cells_of (i * 256) hb10 (rg_map _ _ (by rw [tiB_len _ _ _ hti _ (by omega)]; omega)))) (cmv rfl) (cmv rfl) ?_; intro a ha
   refine c4 ha rfl (cmv rfl) (cmv rfl) (fun w _ _ ha => r_indexArr (i := j) ha (j * 256) Tryz.runUnderlying52 Tryz.sizeOf50 rfl rfl (by omega) (by omega)) (fun w ⟨_, _, _, hb4, _⟩ _ ha => r_loadR ha rfl Tryz.isAgg50 Tryz.sizeOf50 (C := (rg r j).map ei) (by rw [List.length_map, rg_len _ _ (by rw [hr]; omega)]) (cells_of (j * 256) hb4 (rg_map _ _ (by rw [hr]; omega)))) ?_; intro a ha
   refine cc ha rfl rfl (r_callV ha (cap := #[.pointer (some ⟨b2, 0, none⟩)]) [en i, en j] rfl rfl Tryz.call90) rfl rfl rfl (c_turnedF i j b2 bk v rho _ (by omega) (hs.below hB) (by omega) hb2 hbk (glob_keep hG hB) (globP_keep hP hB)) ?_
   rintro e w38 ⟨rfl, hBc⟩
   have hg := grown_call hBc
   replace hB := keepB0 hg hB
   replace hb2 := keepO0 hg hb2
   replace hbk := keepO0 hg hbk
   replace hb4 := keepO0 hg hb4
   replace hb6 := keepO0 hg hb6
   replace hb10 := keepO0 hg hb10
   refine ⟨fun _ => ⟨hB, hb2, hbk, hb4, hb6, hb10, trivial⟩, _, rfl, ?_⟩; intro a ha
   refine cc ha rfl rfl (r_call ha [.agg (((matT rho i j)).map ei).toArray, .agg (((rg r j)).map ei).toArray] rfl Tryz.call91) rfl rfl rfl (c_times (matT rho i j) (rg r j) _ (by rw [matT_len]) (by rw [rg_len _ _ (by rw [hr]; omega)]) (globP_keep hP hB)) ?_
   rintro e w39 ⟨rfl, hBc⟩
   have hg := grown_call hBc
   replace hB := keepB0 hg hB
   replace hb2 := keepO0 hg hb2
   replace hbk := keepO0 hg hbk
   replace hb4 := keepO0 hg hb4
   replace hb6 := keepO0 hg hb6
   replace hb10 := keepO0 hg hb10
   refine ⟨fun _ => ⟨hB, hb2, hbk, hb4, hb6, hb10, trivial⟩, _, rfl, ?_⟩; intro a ha
   refine cc ha rfl rfl (r_call ha [.agg (((rg (tiB (matT rho) r (tiA (matT rho) r i) i j) i)).map ei).toArray, .agg (((tms (matT rho i j) (rg r j))).map ei).toArray] rfl Tryz.call46) rfl rfl rfl (c_plus (rg (tiB (matT rho) r (tiA (matT rho) r i) i j) i) (tms (matT rho i j) (rg r j)) _ (by rw [rg_len _ _ (by rw [tiB_len _ _ _ hti _ (by omega)]; omega)]) (by rw [(tms_red _ _).len])) ?_
   rintro e w40 ⟨rfl, hBc⟩
   have hg := grown_call hBc
   replace hB := keepB0 hg hB
   replace hb2 := keepO0 hg hb2
   replace hbk := keepO0 hg hbk
   replace hb4 := keepO0 hg hb4
   replace hb6 := keepO0 hg hb6
   replace hb10 := keepO0 hg hb10
   refine ⟨fun _ => ⟨hB, hb2, hbk, hb4, hb6, hb10, trivial⟩, _, rfl, ?_⟩; intro a ha
   refine c1 ha rfl (fun w _ _ ha => r_indexArr (i := i) ha (i * 256) Tryz.runUnderlying52 Tryz.sizeOf50 rfl rfl (by omega) (by omega)) ?_; intro a ha
   refine cstoreR ha rfl rfl rfl rfl (one_ei _) Tryz.sizeOf50 (by rw [List.length_map, (pl_red _ _ (by rw [rg_len _ _ (by rw [tiB_len _ _ _ hti _ (by omega)]; omega)])).len]) hb10 (by simp only [List.length_map]; rw [(pl_red _ _ (by rw [rg_len _ _ (by rw [tiB_len _ _ _ hti _ (by omega)]; omega)])).len, tiB_len _ _ _ hti _ (by omega)]; omega) rfl ?_
   intro a w41 ha hg hb10'
   rw [rs_map _ _ _ (by rw [(pl_red _ _ (by rw [rg_len _ _ (by rw [tiB_len _ _ _ hti _ (by omega)]; omega)])).len])] at hb10'
   replace hb10 := hb10'
   replace hB := keepB1 hg (by omega) hB
   replace hb2 := keepO1 hg (by omega) hb2
   replace hbk := keepO1 hg (by omega) hbk
   replace hb4 := keepO1 hg (by omega) hb4
   replace hb6 := keepO1 hg (by omega) hb6
   refine cfin (k34 _ _ ?_)
   refine region ?_
   refine s2 ha rfl (fun _ ha => rn_add ha j 1 rfl rfl (by omega)) (mv rfl) ?_; intro a ha
   exact ⟨j + 1, by omega, (by omega), ha.to [0, 3, 4, 5, 8, 6, 11] rfl, hB, hb2, hbk, hb4, hb6, hb10⟩
  ·skip
   replace hc32 := of_decide_eq_false hc32
   refine wp_exit ?_
   obtain rfl : j = 3 := by omega
   refine k22 _ _ ?_
   refine region ?_
   refine s2 ha rfl (fun _ ha => rn_add ha i 1 rfl rfl (by omega)) (mv rfl) ?_; intro a ha
   exact ⟨i + 1, by omega, (by omega), ha.to [0, 3, 4, 5, 8] rfl, hB, hb2, hbk, hb4, hb6, hb10⟩
 ·skip
  replace hc20 := of_decide_eq_false hc20
  refine wp_exit ?_
  obtain rfl : i = 3 := by omega
  refine k12 _ _ ?_
  refine qr fun K42 k43 => ?_
  refine s1 ha rfl (fun _ ha => r_loadR ha rfl Tryz.isAgg52 Tryz.sizeOf52 (C := (tiA (matT rho) r 3).map ei) (by rw [List.length_map, tiA_len _ _ _ (by omega)]) (cells_all hb10)) ?_; intro a ha
  refine sstoreW ha rfl rfl (one_ei _) Tryz.sizeOf52 (by rw [List.length_map, tiA_len _ _ _ (by omega)]) hb6 (by rw [List.length_map, List.length_replicate]) ?_
  intro a w44 ha hg hb6'
  replace hb6 := hb6'
  replace hB := keepB1 hg (by omega) hB
  replace hb2 := keepO1 hg (by omega) hb2
  replace hbk := keepO1 hg (by omega) hbk
  replace hb10 := keepO1 hg (by omega) hb10
  refine k43 _ _ ?_
  refine wp_ret ?_
  exact retC _ ha Tryz.results42 rfl hb6 Tryz.underlying52 rfl (by rw [List.length_map, tiA_len _ _ _ (by omega)]; kernel_rfl) ⟨rfl, hB⟩
end Go.Proofs.YtaignhikdfpbbaaGreatDoor

/- WALKS written by gen.py (own program) out of specs. -/
namespace Go.Proofs.YtaignhikdfpbbaaGreatDoor
open Go.RowKit Go.Rx
set_option maxRecDepth 100000
set_option maxHeartbeats 4000000
set_option linter.unusedVariables false
set_option linter.unusedSimpArgs false

theorem zero_52M4 : ∀ w, (zeroValue 52).run Tryz.prog w = .ok (.agg ((List.replicate 768 (0 : Int)).map ei).toArray) w := fun _ => by kernel_rfl
theorem zero_50M4 : ∀ w, (zeroValue 50).run Tryz.prog w = .ok (.agg ((List.replicate 256 (0 : Int)).map ei).toArray) w := fun _ => by kernel_rfl
theorem c_enc1 (v u z : Value) (ek m r : List UInt8) (w0 : World) (hs : Sl w0 v (ek.map e8)) (hsu : Sl w0 u (m.map e8)) (hsz : Sl w0 z (r.map e8)) (h1 : ek.length = 1184) (h2 : m.length = 32) (h3 : r.length = 32) (hG : Glob w0) (hP : GlobP w0) :
    Calls Tryz.prog 13 #[v, u, z] w0 fun e w' => ∃ u0 : Value, e = .returned (.tuple #[u0, en 0]) ∧ Below w0.heap.size w0 w' ∧ Sl w' u0 ((enc1 ek m r).map e8) ∧ (∀ j, u0.ownBlock = some j → w0.heap.size ≤ j) := by
 refine enter (args := [_, _, _]) Tryz.func13 rfl Tryz.ntmps13 rfl ?_
 intro a ha
 have hB := Below.refl w0.heap.size w0
 refine qr fun K1 k2 => ?_
 refine s2 ha rfl (av rfl) (av rfl) ?_; intro a ha
 refine k2 _ _ ?_
 refine wp_seq_k fun K3 k4 => ?_
 refine qr fun K5 k6 => ?_
 refine s4 ha rfl (mv rfl) (fun _ ha => r_lenS ha Tryz.runUnderlying22 (hs.below hB) rfl (by rw [List.length_map])) (fun _ ha => r_neq ha ((ek.length : Nat) : Int) 1184 false rfl rfl (decide_eq_false (by omega))) (mv rfl) ?_; intro a ha
 refine svg ha (r_move ha rfl) rfl rfl rfl rfl rfl ?_; intro a ha
 refine svg ha (r_lenS ha Tryz.runUnderlying22 (hsu.below hB) rfl (by rw [List.length_map])) rfl rfl rfl rfl rfl ?_; intro a ha
 refine svg ha (r_neq ha ((m.length : Nat) : Int) 32 false rfl rfl (decide_eq_false (by omega))) rfl rfl rfl rfl rfl ?_; intro a ha
 refine s2 ha rfl (fun _ ha => r_pick ha false rfl rfl) (mv rfl) ?_; intro a ha
 refine svg ha (r_move ha rfl) rfl rfl rfl rfl rfl ?_; intro a ha
 refine svg ha (r_lenS ha Tryz.runUnderlying22 (hsz.below hB) rfl (by rw [List.length_map])) rfl rfl rfl rfl rfl ?_; intro a ha
 refine svg ha (r_neq ha ((r.length : Nat) : Int) 32 false rfl rfl (decide_eq_false (by omega))) rfl rfl rfl rfl rfl ?_; intro a ha
 refine s1 ha rfl (fun _ ha => r_pick ha false rfl rfl) ?_; intro a ha
 refine k6 _ _ ?_
 refine cond_f ha rfl ?_
 refine wp_skip ?_
 refine k4 _ _ ?_
 refine wp_seq_k fun K7 k8 => ?_
 have hJ14 : ∀ (a : Act) (w14 : World) (b12 : Nat), Has 70 [(1, u), (2, z), (6, .slice none 0 0), (7, .int .i64 0), (8, .pointer (some ⟨b12, 0, none⟩)), (9, rsl v 1152 ek.length)] a → (Below w0.heap.size w0 w14) → (w14.heap[b12]? = some (.cells ((unR 12 (ek.take 1152) 3).map ei).toArray 52 (0, 0))) → (w0.heap.size ≤ b12) → K7 a w14 := by
  intro a w14 b12 ha hB hb12 hzb12
  refine k8 _ _ ?_
  refine qr fun K15 k16 => ?_
  refine s1 ha rfl (mv rfl) ?_; intro a ha
  refine scp ha (r_call ha [z, en 0] rfl Tryz.call37) rfl rfl rfl (c_smalls z r 0 _ (hsz.below hB) (by omega) (by omega) (glob_keep hG hB)) ?_; intro w17 hg a ha
  replace hB := keepB0 hg hB
  replace hb12 := keepO0 hg hb12
  refine scp ha (r_call ha [.agg (((smA r 0 3)).map ei).toArray, .func (.func 39) #[] #[]] rfl Tryz.call38) rfl rfl rfl (c_eachFr (smA r 0 3) _ (by rw [smA_len _ _ _ (by omega)]) (glob_keep hG hB) (globP_keep hP hB)) ?_; intro w18 hg a ha
  replace hB := keepB0 hg hB
  replace hb12 := keepO0 hg hb12
  refine salloc ha zero_52M4 rfl ?_
  intro a w19 b20 ha hg hb20 hge20 hlt20
  have hz20 := Nat.le_trans hB.size hge20
  have hq12_20 := bl hb12 hge20
  replace hB := keepB0 hg hB
  replace hb12 := keepO0 hg hb12
  refine sstoreW ha rfl rfl (one_ei _) Tryz.sizeOf52 (by rw [List.length_map, eaR_len _ fwd_len _ (by rw [smA_len _ _ _ (by omega)]) _ (by omega)]) hb20 (by rw [List.length_map, List.length_replicate]) ?_
  intro a w21 ha hg hb20'
  replace hb20 := hb20'
  replace hB := keepB1 hg (by omega) hB
  replace hb12 := keepO1 hg (by omega) hb12
  refine k16 _ _ ?_
  refine wp_seq_k fun K22 k23 => ?_
  have hJ36 : ∀ (a : Act) (w36 : World) (b26 : Nat) (b28 : Nat) (b34 : Nat), Has 70 [(1, u), (2, z), (6, .slice none 0 0), (7, .int .i64 0), (8, .pointer (some ⟨b12, 0, none⟩)), (10, .pointer (some ⟨b20, 0, none⟩)), (11, .pointer (some ⟨b34, 0, none⟩))] a → (Below w0.heap.size w0 w36) → (w36.heap[b12]? = some (.cells ((unR 12 (ek.take 1152) 3).map ei).toArray 52 (0, 0))) → (w36.heap[b20]? = some (.cells ((eaR fwd (smA r 0 3) 3).map ei).toArray 52 (0, 0))) → (w36.heap[b26]? = some (.cells ([rsl v 1152 ek.length]).toArray 22 (0, 0))) → (w36.heap[b28]? = some (.cells (([.func (.func 88) #[] #[.pointer (some ⟨b26, 0, none⟩)]] : List Value)).toArray 58 (0, 0))) → (w36.heap[b34]? = some (.cells ((plR (eaR inv (tiA (matT (ek.drop 1152)) (eaR fwd (smA r 0 3) 3) 3) 3) (smA r 3 3) 3).map ei).toArray 52 (0, 0))) → (w0.heap.size ≤ b26) → (w0.heap.size ≤ b28) → (w0.heap.size ≤ b34) → (b26 ≠ b12) → (b26 ≠ b20) → (b28 ≠ b12) → (b28 ≠ b20) → (b28 ≠ b26) → (b34 ≠ b12) → (b34 ≠ b20) → (b34 ≠ b26) → (b34 ≠ b28) → K22 a w36 := by
   intro a w36 b26 b28 b34 ha hB hb12 hb20 hb26 hb28 hb34 hzb26 hzb28 hzb34 hqb26_b12 hqb26_b20 hqb28_b12 hqb28_b20 hqb28_b26 hqb34_b12 hqb34_b20 hqb34_b26 hqb34_b28
   refine k23 _ _ ?_
   refine qr fun K37 k38 => ?_
   refine s1 ha rfl (mv rfl) ?_; intro a ha
   refine scp ha (r_call ha [en 1, u] rfl Tryz.call45) rfl rfl rfl (c_unpack1 1 u m _ (by omega) (hsu.below hB) (by omega)) ?_; intro w39 hg a ha
   replace hB := keepB0 hg hB
   replace hb12 := keepO0 hg hb12
   replace hb20 := keepO0 hg hb20
   replace hb34 := keepO0 hg hb34
   refine s3 ha rfl (mv rfl) (fun _ ha => r_extract ha (vs := #[.agg ((unA 1 m 256).map ei).toArray, en 0]) rfl rfl) (fun _ ha => r_extract ha (vs := #[.agg ((unA 1 m 256).map ei).toArray, en 0]) rfl rfl) ?_; intro a ha
   refine salloc ha zero_50M4 rfl ?_
   intro a w40 b41 ha hg hb41 hge41 hlt41
   have hz41 := Nat.le_trans hB.size hge41
   have hq12_41 := bl hb12 hge41
   have hq20_41 := bl hb20 hge41
   have hq34_41 := bl hb34 hge41
   replace hB := keepB0 hg hB
   replace hb12 := keepO0 hg hb12
   replace hb20 := keepO0 hg hb20
   replace hb34 := keepO0 hg hb34
   refine sstoreW ha rfl rfl (one_ei _) Tryz.sizeOf50 (by rw [List.length_map, unA_len]) hb41 (by rw [List.length_map, List.length_replicate]) ?_
   intro a w42 ha hg hb41'
   replace hb41 := hb41'
   replace hB := keepB1 hg (by omega) hB
   replace hb12 := keepO1 hg (by omega) hb12
   replace hb20 := keepO1 hg (by omega) hb20
   replace hb34 := keepO1 hg (by omega) hb34
   refine s1 ha rfl (av rfl) ?_; intro a ha
   refine k38 _ _ ?_
   refine wp_seq_k fun K43 k44 => ?_
   have hJ55 : ∀ (a : Act) (w55 : World) (b53 : Nat), Has 70 [(6, .slice none 0 0), (7, .int .i64 0), (11, .pointer (some ⟨b34, 0, none⟩)), (14, .pointer (some ⟨b53, 0, none⟩))] a → (Below w0.heap.size w0 w55) → (w55.heap[b12]? = some (.cells ((unR 12 (ek.take 1152) 3).map ei).toArray 52 (0, 0))) → (w55.heap[b20]? = some (.cells ((eaR fwd (smA r 0 3) 3).map ei).toArray 52 (0, 0))) → (w55.heap[b34]? = some (.cells ((plR (eaR inv (tiA (matT (ek.drop 1152)) (eaR fwd (smA r 0 3) 3) 3) 3) (smA r 3 3) 3).map ei).toArray 52 (0, 0))) → (w55.heap[b41]? = some (.cells ((unA 1 m 256).map ei).toArray 50 (0, 0))) → (w55.heap[b53]? = some (.cells ((pl (pl (inv (dotA (unR 12 (ek.take 1152) 3) (eaR fwd (smA r 0 3) 3) 3)) (small2 r 6)) (spA 1 (unA 1 m 256) 256)).map ei).toArray 50 (0, 0))) → (w0.heap.size ≤ b53) → (b53 ≠ b12) → (b53 ≠ b20) → (b53 ≠ b34) → (b53 ≠ b41) → K43 a w55 := by
    intro a w55 b53 ha hB hb12 hb20 hb34 hb41 hb53 hzb53 hqb53_b12 hqb53_b20 hqb53_b34 hqb53_b41
    refine k44 _ _ ?_
    refine qr fun K56 k57 => ?_
    refine s1 ha rfl (av rfl) ?_; intro a ha
    refine k57 _ _ ?_
    refine wp_seq_k fun K58 k59 => ?_
    refine regionD (S := fun w => Below w0.heap.size w0 w ∧ w.heap[b34]? = some (.cells ((plR (eaR inv (tiA (matT (ek.drop 1152)) (eaR fwd (smA r 0 3) 3) 3) 3) (smA r 3 3) 3).map ei).toArray 52 (0, 0)) ∧ w.heap[b53]? = some (.cells ((pl (pl (inv (dotA (unR 12 (ek.take 1152) 3) (eaR fwd (smA r 0 3) 3) 3)) (small2 r 6)) (spA 1 (unA 1 m 256) 256)).map ei).toArray 50 (0, 0)) ∧ True) [] [0, 1, 4, 9, 10] [0, 1, 4, 2, 3, 5, 6, 7, 8, 9, 10] mixed (by kernel_rfl) (fun w hg => ⟨keepB0 hg hB, keepO0 hg hb34, keepO0 hg hb53, trivial⟩) ?_
    intro w60 hg
    replace hB := keepB0 hg hB
    replace hb34 := keepO0 hg hb34
    replace hb53 := keepO0 hg hb53
    refine c3 ha rfl (fun w ⟨_, hb34, _⟩ _ ha => r_loadR ha rfl Tryz.isAgg52 Tryz.sizeOf52 (C := (plR (eaR inv (tiA (matT (ek.drop 1152)) (eaR fwd (smA r 0 3) 3) 3) 3) (smA r 3 3) 3).map ei) (by rw [List.length_map, plR_len _ _ (by rw [eaR_len _ inv_len _ (by rw [tiA_len _ _ _ (by omega)]) _ (by omega)]) _ (by omega)]) (cells_all hb34)) (cmv rfl) (fun w ⟨_, _, hb53, _⟩ _ ha => r_loadR ha rfl Tryz.isAgg50 Tryz.sizeOf50 (C := (pl (pl (inv (dotA (unR 12 (ek.take 1152) 3) (eaR fwd (smA r 0 3) 3) 3)) (small2 r 6)) (spA 1 (unA 1 m 256) 256)).map ei) (by rw [List.length_map, (pl_red _ _ (by rw [(pl_red _ _ (by rw [(inv_red _ (by rw [dotA_len])).len])).len])).len]) (cells_all hb53)) ?_; intro a ha
    refine cc ha rfl rfl (r_call ha [.agg (((plR (eaR inv (tiA (matT (ek.drop 1152)) (eaR fwd (smA r 0 3) 3) 3) 3) (smA r 3 3) 3)).map ei).toArray, .func (.func 50) #[] #[]] rfl Tryz.call38) rfl rfl rfl (c_eachEr (plR (eaR inv (tiA (matT (ek.drop 1152)) (eaR fwd (smA r 0 3) 3) 3) 3) (smA r 3 3) 3) _ (by rw [plR_len _ _ (by rw [eaR_len _ inv_len _ (by rw [tiA_len _ _ _ (by omega)]) _ (by omega)]) _ (by omega)])) ?_
    rintro e w61 ⟨rfl, hBc⟩
    have hg := grown_call hBc
    replace hB := keepB0 hg hB
    replace hb34 := keepO0 hg hb34
    replace hb53 := keepO0 hg hb53
    refine ⟨fun _ => ⟨hB, hb34, hb53, trivial⟩, _, rfl, ?_⟩; intro a ha
    refine ccx ha rfl rfl (r_call ha [.agg (((eaR sq10 (plR (eaR inv (tiA (matT (ek.drop 1152)) (eaR fwd (smA r 0 3) 3) 3) 3) (smA r 3 3) 3) 3)).map ei).toArray, en 10] rfl Tryz.call53) rfl rfl rfl (c_packR (eaR sq10 (plR (eaR inv (tiA (matT (ek.drop 1152)) (eaR fwd (smA r 0 3) 3) 3) 3) (smA r 3 3) 3) 3) 10 _ (by rw [eaR_len _ sq10_len _ (by rw [plR_len _ _ (by rw [eaR_len _ inv_len _ (by rw [tiA_len _ _ _ (by omega)]) _ (by omega)]) _ (by omega)]) _ (by omega)]) (by omega)) ?_
    rintro e w62 ⟨u63, rfl, hBc, hs63, hd63⟩
    have hg := grown_call hBc
    have hnb_hs63_b34 := nbn hd63 hb34
    have hnb_hs63_b53 := nbn hd63 hb53
    replace hd63 : ∀ j, u63.ownBlock = some j → w0.heap.size ≤ j := fun j hj => Nat.le_trans hB.size (hd63 j hj)
    replace hB := keepB0 hg hB
    replace hb34 := keepO0 hg hb34
    replace hb53 := keepO0 hg hb53
    refine ⟨fun w => (Sl w u63 ((pkR 10 (eaR sq10 (plR (eaR inv (tiA (matT (ek.drop 1152)) (eaR fwd (smA r 0 3) 3) 3) 3) (smA r 3 3) 3) 3) 3).map e8)) ∧ Below w0.heap.size w0 w ∧ w.heap[b34]? = some (.cells ((plR (eaR inv (tiA (matT (ek.drop 1152)) (eaR fwd (smA r 0 3) 3) 3) 3) (smA r 3 3) 3).map ei).toArray 52 (0, 0)) ∧ w.heap[b53]? = some (.cells ((pl (pl (inv (dotA (unR 12 (ek.take 1152) 3) (eaR fwd (smA r 0 3) 3) 3)) (small2 r 6)) (spA 1 (unA 1 m 256) 256)).map ei).toArray 50 (0, 0)) ∧ True, fun w h => h.2, fun _ => ⟨hs63, hB, hb34, hb53, trivial⟩, _, rfl, ?_⟩; intro a ha
    refine cc ha rfl rfl (r_call ha [ei 4, .agg (((pl (pl (inv (dotA (unR 12 (ek.take 1152) 3) (eaR fwd (smA r 0 3) 3) 3)) (small2 r 6)) (spA 1 (unA 1 m 256) 256))).map ei).toArray] rfl Tryz.call51) rfl rfl rfl (c_squeeze 4 (pl (pl (inv (dotA (unR 12 (ek.take 1152) 3) (eaR fwd (smA r 0 3) 3) 3)) (small2 r 6)) (spA 1 (unA 1 m 256) 256)) _ (by rw [(pl_red _ _ (by rw [(pl_red _ _ (by rw [(inv_red _ (by rw [dotA_len])).len])).len])).len])) ?_
    rintro e w64 ⟨rfl, hBc⟩
    have hg := grown_call hBc
    replace hB := keepB0 hg hB
    replace hb34 := keepO0 hg hb34
    replace hb53 := keepO0 hg hb53
    replace hs63 := keepS0 hg hs63
    refine ⟨fun _ => ⟨hs63, hB, hb34, hb53, trivial⟩, _, rfl, ?_⟩; intro a ha
    refine ccx ha rfl rfl (r_call ha [en 4, .agg (((sqA 4 (pl (pl (inv (dotA (unR 12 (ek.take 1152) 3) (eaR fwd (smA r 0 3) 3) 3)) (small2 r 6)) (spA 1 (unA 1 m 256) 256)) 256)).map ei).toArray] rfl Tryz.call54) rfl rfl rfl (c_pack1 4 (sqA 4 (pl (pl (inv (dotA (unR 12 (ek.take 1152) 3) (eaR fwd (smA r 0 3) 3) 3)) (small2 r 6)) (spA 1 (unA 1 m 256) 256)) 256) _ (by omega) (by rw [sqA_len, (pl_red _ _ (by rw [(pl_red _ _ (by rw [(inv_red _ (by rw [dotA_len])).len])).len])).len])) ?_
    rintro e w65 ⟨u66, rfl, hBc, hs66, hd66⟩
    have hg := grown_call hBc
    have hnb_hs66_b34 := nbn hd66 hb34
    have hnb_hs66_b53 := nbn hd66 hb53
    have hds_hs66_hs63 := nds hd66 (fun j hj => hs63.lt j hj)
    replace hd66 : ∀ j, u66.ownBlock = some j → w0.heap.size ≤ j := fun j hj => Nat.le_trans hB.size (hd66 j hj)
    replace hB := keepB0 hg hB
    replace hb34 := keepO0 hg hb34
    replace hb53 := keepO0 hg hb53
    replace hs63 := keepS0 hg hs63
    refine ⟨fun w => (Sl w u66 ((paA 4 (sqA 4 (pl (pl (inv (dotA (unR 12 (ek.take 1152) 3) (eaR fwd (smA r 0 3) 3) 3)) (small2 r 6)) (spA 1 (unA 1 m 256) 256)) 256) 256).map e8)) ∧ (Sl w u63 ((pkR 10 (eaR sq10 (plR (eaR inv (tiA (matT (ek.drop 1152)) (eaR fwd (smA r 0 3) 3) 3) 3) (smA r 3 3) 3) 3) 3).map e8)) ∧ Below w0.heap.size w0 w ∧ w.heap[b34]? = some (.cells ((plR (eaR inv (tiA (matT (ek.drop 1152)) (eaR fwd (smA r 0 3) 3) 3) 3) (smA r 3 3) 3).map ei).toArray 52 (0, 0)) ∧ w.heap[b53]? = some (.cells ((pl (pl (inv (dotA (unR 12 (ek.take 1152) 3) (eaR fwd (smA r 0 3) 3) 3)) (small2 r 6)) (spA 1 (unA 1 m 256) 256)).map ei).toArray 50 (0, 0)) ∧ True, fun w h => h.2, fun _ => ⟨hs66, hs63, hB, hb34, hb53, trivial⟩, _, rfl, ?_⟩; intro a ha
    obtain ⟨b67, w68, hr67, hg, hb67, hge67, hlt67⟩ := r_buildS (w := w65) (dst := some 68) (ty := 96) (pos := "kpke.go:120") (af := #[⟨3, .data⟩, ⟨6, .data⟩]) (g := none) (t := 96) (k := 2) (parts := [(0, .tmp 64), (1, .tmp 67)]) ha [(0, u63), (1, u66)] [u63, u66] rfl Tryz.runUnderlying96 Tryz.sizeOf22 Tryz.zeroValue22 rfl rfl rfl (fill2 (Sl.one hs63) (Sl.one hs66))
    have hz67 := Nat.le_trans hB.size hge67
    have hne_hs63_b67 : ∀ j, Value.ownBlock u63 = some j → j ≠ b67 := fun j hj => by have := hs63.lt j hj; omega
    have hne_hs66_b67 : ∀ j, Value.ownBlock u66 = some j → j ≠ b67 := fun j hj => by have := hs66.lt j hj; omega
    have hq34_67 := bl hb34 hge67
    have hq53_67 := bl hb53 hge67
    replace hB := keepB0 hg hB
    replace hb34 := keepO0 hg hb34
    replace hb53 := keepO0 hg hb53
    replace hs63 := keepS0 hg hs63
    replace hs66 := keepS0 hg hs66
    refine cwx ha rfl rfl hr67 rfl rfl rfl ⟨fun w => (w.heap[b67]? = some (.cells ([u63, u66]).toArray 22 (0, 0))) ∧ (Sl w u66 ((paA 4 (sqA 4 (pl (pl (inv (dotA (unR 12 (ek.take 1152) 3) (eaR fwd (smA r 0 3) 3) 3)) (small2 r 6)) (spA 1 (unA 1 m 256) 256)) 256) 256).map e8)) ∧ (Sl w u63 ((pkR 10 (eaR sq10 (plR (eaR inv (tiA (matT (ek.drop 1152)) (eaR fwd (smA r 0 3) 3) 3) 3) (smA r 3 3) 3) 3) 3).map e8)) ∧ Below w0.heap.size w0 w ∧ w.heap[b34]? = some (.cells ((plR (eaR inv (tiA (matT (ek.drop 1152)) (eaR fwd (smA r 0 3) 3) 3) 3) (smA r 3 3) 3).map ei).toArray 52 (0, 0)) ∧ w.heap[b53]? = some (.cells ((pl (pl (inv (dotA (unR 12 (ek.take 1152) 3) (eaR fwd (smA r 0 3) 3) 3)) (small2 r 6)) (spA 1 (unA 1 m 256) 256)).map ei).toArray 50 (0, 0)) ∧ True, fun w h => h.2, fun _ => ⟨hb67, hs66, hs63, hB, hb34, hb53, trivial⟩, ?_⟩; intro a ha
    refine ccx ha rfl rfl (r_call ha [(.slice (some ⟨b67, 0, none⟩) 2 2)] rfl Tryz.call52) rfl rfl rfl (c_join (.slice (some ⟨b67, 0, none⟩) 2 2) ([u63, u66]) ([pkR 10 (eaR sq10 (plR (eaR inv (tiA (matT (ek.drop 1152)) (eaR fwd (smA r 0 3) 3) 3) 3) (smA r 3 3) 3) 3) 3, paA 4 (sqA 4 (pl (pl (inv (dotA (unR 12 (ek.take 1152) 3) (eaR fwd (smA r 0 3) 3) 3)) (small2 r 6)) (spA 1 (unA 1 m 256) 256)) 256) 256]) _ (Sl.ofBlock (D := [u63, u66]) (C := [u63, u66]) hb67 rfl (Nat.le_refl _)) (.cons hs63 (.cons hs66 .nil)) (by simp only [List.flatten_cons, List.flatten_nil, List.append_nil, List.length_append, pkR_len, paA_len]; omega) (show 2 ≤ 1000 by omega)) ?_
    rintro e w69 ⟨u70, rfl, hBc, hs70, hd70⟩
    have hg := grown_call hBc
    have hnb_hs70_b34 := nbn hd70 hb34
    have hnb_hs70_b53 := nbn hd70 hb53
    have hnb_hs70_b67 := nbn hd70 hb67
    have hds_hs70_hs63 := nds hd70 (fun j hj => hs63.lt j hj)
    have hds_hs70_hs66 := nds hd70 (fun j hj => hs66.lt j hj)
    replace hd70 : ∀ j, u70.ownBlock = some j → w0.heap.size ≤ j := fun j hj => Nat.le_trans hB.size (hd70 j hj)
    replace hB := keepB0 hg hB
    replace hb34 := keepO0 hg hb34
    replace hb53 := keepO0 hg hb53
    replace hb67 := keepO0 hg hb67
    replace hs63 := keepS0 hg hs63
    replace hs66 := keepS0 hg hs66
    refine ⟨fun w => (Sl w u70 ((([pkR 10 (eaR sq10 (plR (eaR inv (tiA (matT (ek.drop 1152)) (eaR fwd (smA r 0 3) 3) 3) 3) (smA r 3 3) 3) 3) 3, paA 4 (sqA 4 (pl (pl (inv (dotA (unR 12 (ek.take 1152) 3) (eaR fwd (smA r 0 3) 3) 3)) (small2 r 6)) (spA 1 (unA 1 m 256) 256)) 256) 256]).flatten).map e8)) ∧ (w.heap[b67]? = some (.cells ([u63, u66]).toArray 22 (0, 0))) ∧ (Sl w u66 ((paA 4 (sqA 4 (pl (pl (inv (dotA (unR 12 (ek.take 1152) 3) (eaR fwd (smA r 0 3) 3) 3)) (small2 r 6)) (spA 1 (unA 1 m 256) 256)) 256) 256).map e8)) ∧ (Sl w u63 ((pkR 10 (eaR sq10 (plR (eaR inv (tiA (matT (ek.drop 1152)) (eaR fwd (smA r 0 3) 3) 3) 3) (smA r 3 3) 3) 3) 3).map e8)) ∧ Below w0.heap.size w0 w ∧ w.heap[b34]? = some (.cells ((plR (eaR inv (tiA (matT (ek.drop 1152)) (eaR fwd (smA r 0 3) 3) 3) 3) (smA r 3 3) 3).map ei).toArray 52 (0, 0)) ∧ w.heap[b53]? = some (.cells ((pl (pl (inv (dotA (unR 12 (ek.take 1152) 3) (eaR fwd (smA r 0 3) 3) 3)) (small2 r 6)) (spA 1 (unA 1 m 256) 256)).map ei).toArray 50 (0, 0)) ∧ True, fun w h => h.2, fun _ => ⟨hs70, hb67, hs66, hs63, hB, hb34, hb53, trivial⟩, _, rfl, ?_⟩; intro a ha
    refine c2 ha rfl (cav rfl) (cav rfl) ?_; intro a ha
    refine cfin (k59 _ _ ?_)
    refine wp_ret ?_
    exact ret2 ha Tryz.results13 rfl rfl ⟨_, rfl, hB, (Sl.castM (l := ([pkR 10 (eaR sq10 (plR (eaR inv (tiA (matT (ek.drop 1152)) (eaR fwd (smA r 0 3) 3) 3) 3) (smA r 3 3) 3) 3) 3, paA 4 (sqA 4 (pl (pl (inv (dotA (unR 12 (ek.take 1152) 3) (eaR fwd (smA r 0 3) 3) 3)) (small2 r 6)) (spA 1 (unA 1 m 256) 256)) 256) 256]).flatten) hs70 rfl), hd70⟩
   refine regionT (S := fun w => Below w0.heap.size w0 w ∧ w.heap[b12]? = some (.cells ((unR 12 (ek.take 1152) 3).map ei).toArray 52 (0, 0)) ∧ w.heap[b20]? = some (.cells ((eaR fwd (smA r 0 3) 3).map ei).toArray 52 (0, 0)) ∧ w.heap[b34]? = some (.cells ((plR (eaR inv (tiA (matT (ek.drop 1152)) (eaR fwd (smA r 0 3) 3) 3) 3) (smA r 3 3) 3).map ei).toArray 52 (0, 0)) ∧ w.heap[b41]? = some (.cells ((unA 1 m 256).map ei).toArray 50 (0, 0)) ∧ True) [11] [0, 1, 4, 7] (.op 0 (.op 1 (.op 4 (.op 7 (.two 2 (.two 3 (.two 5 (.two 6 (.two 8 (.two 9 (.op 10 (.op 11 .fin)) 10 (.op 9 (.op 11 .fin))) 10 (.op 8 (.op 9 (.op 11 .fin)))) 10 (.op 6 (.op 8 (.op 9 (.op 11 .fin))))) 10 (.op 5 (.op 6 (.op 8 (.op 9 (.op 11 .fin)))))) 10 (.op 3 (.op 5 (.op 6 (.op 8 (.op 9 (.op 11 .fin))))))) 10 (.op 2 (.op 3 (.op 5 (.op 6 (.op 8 (.op 9 (.op 11 .fin)))))))))))) mixed (by kernel_rfl) (fun w hg => ⟨keepB0 hg hB, keepO0 hg hb12, keepO0 hg hb20, keepO0 hg hb34, keepO0 hg hb41, trivial⟩) ?_
   intro w45 hg
   replace hB := keepB0 hg hB
   replace hb12 := keepO0 hg hb12
   replace hb20 := keepO0 hg hb20
   replace hb34 := keepO0 hg hb34
   replace hb41 := keepO0 hg hb41
   refine T.c4 ha rfl (fun w ⟨_, hb12, _⟩ _ ha => r_loadR ha rfl Tryz.isAgg52 Tryz.sizeOf52 (C := (unR 12 (ek.take 1152) 3).map ei) (by rw [List.length_map, unR_len _ _ _ (by omega)]) (cells_all hb12)) (fun w ⟨_, _, hb20, _⟩ _ ha => r_loadR ha rfl Tryz.isAgg52 Tryz.sizeOf52 (C := (eaR fwd (smA r 0 3) 3).map ei) (by rw [List.length_map, eaR_len _ fwd_len _ (by rw [smA_len _ _ _ (by omega)]) _ (by omega)]) (cells_all hb20)) (cmv rfl) (fun w ⟨_, _, _, _, hb41, _⟩ _ ha => r_loadR ha rfl Tryz.isAgg50 Tryz.sizeOf50 (C := (unA 1 m 256).map ei) (by rw [List.length_map, unA_len]) (cells_all hb41)) ?_; intro a ha
   refine T.two ?_ ?_
   ·skip
    refine T.cc ha rfl rfl (r_call ha [.agg (((unR 12 (ek.take 1152) 3)).map ei).toArray, .agg (((eaR fwd (smA r 0 3) 3)).map ei).toArray] rfl Tryz.call47) rfl rfl rfl (c_dot (unR 12 (ek.take 1152) 3) (eaR fwd (smA r 0 3) 3) _ (by rw [unR_len _ _ _ (by omega)]) (by rw [eaR_len _ fwd_len _ (by rw [smA_len _ _ _ (by omega)]) _ (by omega)]) (glob_keep hG hB) (globP_keep hP hB)) ?_
    rintro e w71 ⟨rfl, hBc⟩
    have hg := grown_call hBc
    replace hB := keepB0 hg hB
    replace hb12 := keepO0 hg hb12
    replace hb20 := keepO0 hg hb20
    replace hb34 := keepO0 hg hb34
    replace hb41 := keepO0 hg hb41
    refine ⟨fun _ => ⟨hB, hb12, hb20, hb34, hb41, trivial⟩, _, rfl, ?_⟩; intro a ha
    refine T.two ?_ ?_
    ·skip
     refine T.cc ha rfl rfl (r_call ha [.agg (((dotA (unR 12 (ek.take 1152) 3) (eaR fwd (smA r 0 3) 3) 3)).map ei).toArray] rfl Tryz.call43) rfl rfl rfl (c_inv (dotA (unR 12 (ek.take 1152) 3) (eaR fwd (smA r 0 3) 3) 3) _ (by rw [dotA_len]) (globP_keep hP hB)) ?_
     rintro e w72 ⟨rfl, hBc⟩
     have hg := grown_call hBc
     replace hB := keepB0 hg hB
     replace hb12 := keepO0 hg hb12
     replace hb20 := keepO0 hg hb20
     replace hb34 := keepO0 hg hb34
     replace hb41 := keepO0 hg hb41
     refine ⟨fun _ => ⟨hB, hb12, hb20, hb34, hb41, trivial⟩, _, rfl, ?_⟩; intro a ha
     refine T.two ?_ ?_
     ·skip
      refine T.cc ha rfl rfl (r_call ha [z, en 6] rfl Tryz.call48) rfl rfl rfl (c_small z r 6 _ (hsz.below hB) (by omega) (by omega) (glob_keep hG hB)) ?_
      rintro e w73 ⟨rfl, hBc⟩
      have hg := grown_call hBc
      replace hB := keepB0 hg hB
      replace hb12 := keepO0 hg hb12
      replace hb20 := keepO0 hg hb20
      replace hb34 := keepO0 hg hb34
      replace hb41 := keepO0 hg hb41
      refine ⟨fun _ => ⟨hB, hb12, hb20, hb34, hb41, trivial⟩, _, rfl, ?_⟩; intro a ha
      refine T.two ?_ ?_
      ·skip
       refine T.cc ha rfl rfl (r_call ha [.agg (((inv (dotA (unR 12 (ek.take 1152) 3) (eaR fwd (smA r 0 3) 3) 3))).map ei).toArray, .agg (((small2 r 6)).map ei).toArray] rfl Tryz.call46) rfl rfl rfl (c_plus (inv (dotA (unR 12 (ek.take 1152) 3) (eaR fwd (smA r 0 3) 3) 3)) (small2 r 6) _ (by rw [(inv_red _ (by rw [dotA_len])).len]) (by rw [small2_len])) ?_
       rintro e w74 ⟨rfl, hBc⟩
       have hg := grown_call hBc
       replace hB := keepB0 hg hB
       replace hb12 := keepO0 hg hb12
       replace hb20 := keepO0 hg hb20
       replace hb34 := keepO0 hg hb34
       replace hb41 := keepO0 hg hb41
       refine ⟨fun _ => ⟨hB, hb12, hb20, hb34, hb41, trivial⟩, _, rfl, ?_⟩; intro a ha
       refine T.two ?_ ?_
       ·skip
        refine T.cc ha rfl rfl (r_call ha [ei 1, .agg (((unA 1 m 256)).map ei).toArray] rfl Tryz.call49) rfl rfl rfl (c_spread 1 (unA 1 m 256) _ (by rw [unA_len])) ?_
        rintro e w75 ⟨rfl, hBc⟩
        have hg := grown_call hBc
        replace hB := keepB0 hg hB
        replace hb12 := keepO0 hg hb12
        replace hb20 := keepO0 hg hb20
        replace hb34 := keepO0 hg hb34
        replace hb41 := keepO0 hg hb41
        refine ⟨fun _ => ⟨hB, hb12, hb20, hb34, hb41, trivial⟩, _, rfl, ?_⟩; intro a ha
        refine T.two ?_ ?_
        ·skip
         refine T.cc ha rfl rfl (r_call ha [.agg (((pl (inv (dotA (unR 12 (ek.take 1152) 3) (eaR fwd (smA r 0 3) 3) 3)) (small2 r 6))).map ei).toArray, .agg (((spA 1 (unA 1 m 256) 256)).map ei).toArray] rfl Tryz.call46) rfl rfl rfl (c_plus (pl (inv (dotA (unR 12 (ek.take 1152) 3) (eaR fwd (smA r 0 3) 3) 3)) (small2 r 6)) (spA 1 (unA 1 m 256) 256) _ (by rw [(pl_red _ _ (by rw [(inv_red _ (by rw [dotA_len])).len])).len]) (by rw [spA_len, unA_len])) ?_
         rintro e w76 ⟨rfl, hBc⟩
         have hg := grown_call hBc
         replace hB := keepB0 hg hB
         replace hb12 := keepO0 hg hb12
         replace hb20 := keepO0 hg hb20
         replace hb34 := keepO0 hg hb34
         replace hb41 := keepO0 hg hb41
         refine ⟨fun _ => ⟨hB, hb12, hb20, hb34, hb41, trivial⟩, _, rfl, ?_⟩; intro a ha
         refine T.calloc ha rfl rfl zero_50M4 rfl (fun w hg => ⟨keepB0 hg hB, keepO0 hg hb12, keepO0 hg hb20, keepO0 hg hb34, keepO0 hg hb41, trivial⟩) ?_
         intro a w77 b78 ha hg hb78 hge78 hlt78
         have hz78 := Nat.le_trans hB.size hge78
         have hq12_78 := bl hb12 hge78
         have hq20_78 := bl hb20 hge78
         have hq34_78 := bl hb34 hge78
         have hq41_78 := bl hb41 hge78
         replace hB := keepB0 hg hB
         replace hb12 := keepO0 hg hb12
         replace hb20 := keepO0 hg hb20
         replace hb34 := keepO0 hg hb34
         replace hb41 := keepO0 hg hb41
         refine T.cstoreW ha rfl rfl rfl rfl (one_ei _) Tryz.sizeOf50 (by rw [List.length_map, (pl_red _ _ (by rw [(pl_red _ _ (by rw [(inv_red _ (by rw [dotA_len])).len])).len])).len]) hb78 (by rw [List.length_map, List.length_replicate]) rfl ?_
         intro a w79 ha hg hb78'
         replace hb78 := hb78'
         replace hB := keepB1 hg (by omega) hB
         replace hb12 := keepO1 hg (by omega) hb12
         replace hb20 := keepO1 hg (by omega) hb20
         replace hb34 := keepO1 hg (by omega) hb34
         replace hb41 := keepO1 hg (by omega) hb41
         exact T.cfin (hJ55 _ _ b78 (ha.to [6, 7, 11, 14] rfl) hB hb12 hb20 hb34 hb41 hb78 hz78 (by omega) (by omega) (by omega) (by omega))
        ·skip
         refine T.calloc ha rfl rfl zero_50M4 rfl (fun w hg => ⟨keepB0 hg hB, keepO0 hg hb12, keepO0 hg hb20, keepO0 hg hb34, keepO0 hg hb41, trivial⟩) ?_
         intro a w80 b81 ha hg hb81 hge81 hlt81
         have hz81 := Nat.le_trans hB.size hge81
         have hq12_81 := bl hb12 hge81
         have hq20_81 := bl hb20 hge81
         have hq34_81 := bl hb34 hge81
         have hq41_81 := bl hb41 hge81
         replace hB := keepB0 hg hB
         replace hb12 := keepO0 hg hb12
         replace hb20 := keepO0 hg hb20
         replace hb34 := keepO0 hg hb34
         replace hb41 := keepO0 hg hb41
         refine T.cc ha rfl rfl (r_call ha [.agg (((pl (inv (dotA (unR 12 (ek.take 1152) 3) (eaR fwd (smA r 0 3) 3) 3)) (small2 r 6))).map ei).toArray, .agg (((spA 1 (unA 1 m 256) 256)).map ei).toArray] rfl Tryz.call46) rfl rfl rfl (c_plus (pl (inv (dotA (unR 12 (ek.take 1152) 3) (eaR fwd (smA r 0 3) 3) 3)) (small2 r 6)) (spA 1 (unA 1 m 256) 256) _ (by rw [(pl_red _ _ (by rw [(inv_red _ (by rw [dotA_len])).len])).len]) (by rw [spA_len, unA_len])) ?_
         rintro e w82 ⟨rfl, hBc⟩
         have hg := grown_call hBc
         replace hB := keepB0 hg hB
         replace hb12 := keepO0 hg hb12
         replace hb20 := keepO0 hg hb20
         replace hb34 := keepO0 hg hb34
         replace hb41 := keepO0 hg hb41
         replace hb81 := keepO0 hg hb81
         refine ⟨fun _ => ⟨hB, hb12, hb20, hb34, hb41, trivial⟩, _, rfl, ?_⟩; intro a ha
         refine T.cstoreW ha rfl rfl rfl rfl (one_ei _) Tryz.sizeOf50 (by rw [List.length_map, (pl_red _ _ (by rw [(pl_red _ _ (by rw [(inv_red _ (by rw [dotA_len])).len])).len])).len]) hb81 (by rw [List.length_map, List.length_replicate]) rfl ?_
         intro a w83 ha hg hb81'
         replace hb81 := hb81'
         replace hB := keepB1 hg (by omega) hB
         replace hb12 := keepO1 hg (by omega) hb12
         replace hb20 := keepO1 hg (by omega) hb20
         replace hb34 := keepO1 hg (by omega) hb34
         replace hb41 := keepO1 hg (by omega) hb41
         exact T.cfin (hJ55 _ _ b81 (ha.to [6, 7, 11, 14] rfl) hB hb12 hb20 hb34 hb41 hb81 hz81 (by omega) (by omega) (by omega) (by omega))
       ·skip
        refine T.calloc ha rfl rfl zero_50M4 rfl (fun w hg => ⟨keepB0 hg hB, keepO0 hg hb12, keepO0 hg hb20, keepO0 hg hb34, keepO0 hg hb41, trivial⟩) ?_
        intro a w84 b85 ha hg hb85 hge85 hlt85
        have hz85 := Nat.le_trans hB.size hge85
        have hq12_85 := bl hb12 hge85
        have hq20_85 := bl hb20 hge85
        have hq34_85 := bl hb34 hge85
        have hq41_85 := bl hb41 hge85
        replace hB := keepB0 hg hB
        replace hb12 := keepO0 hg hb12
        replace hb20 := keepO0 hg hb20
        replace hb34 := keepO0 hg hb34
        replace hb41 := keepO0 hg hb41
        refine T.cc ha rfl rfl (r_call ha [ei 1, .agg (((unA 1 m 256)).map ei).toArray] rfl Tryz.call49) rfl rfl rfl (c_spread 1 (unA 1 m 256) _ (by rw [unA_len])) ?_
        rintro e w86 ⟨rfl, hBc⟩
        have hg := grown_call hBc
        replace hB := keepB0 hg hB
        replace hb12 := keepO0 hg hb12
        replace hb20 := keepO0 hg hb20
        replace hb34 := keepO0 hg hb34
        replace hb41 := keepO0 hg hb41
        replace hb85 := keepO0 hg hb85
        refine ⟨fun _ => ⟨hB, hb12, hb20, hb34, hb41, trivial⟩, _, rfl, ?_⟩; intro a ha
        refine T.cc ha rfl rfl (r_call ha [.agg (((pl (inv (dotA (unR 12 (ek.take 1152) 3) (eaR fwd (smA r 0 3) 3) 3)) (small2 r 6))).map ei).toArray, .agg (((spA 1 (unA 1 m 256) 256)).map ei).toArray] rfl Tryz.call46) rfl rfl rfl (c_plus (pl (inv (dotA (unR 12 (ek.take 1152) 3) (eaR fwd (smA r 0 3) 3) 3)) (small2 r 6)) (spA 1 (unA 1 m 256) 256) _ (by rw [(pl_red _ _ (by rw [(inv_red _ (by rw [dotA_len])).len])).len]) (by rw [spA_len, unA_len])) ?_
        rintro e w87 ⟨rfl, hBc⟩
        have hg := grown_call hBc
        replace hB := keepB0 hg hB
        replace hb12 := keepO0 hg hb12
        replace hb20 := keepO0 hg hb20
        replace hb34 := keepO0 hg hb34
        replace hb41 := keepO0 hg hb41
        replace hb85 := keepO0 hg hb85
        refine ⟨fun _ => ⟨hB, hb12, hb20, hb34, hb41, trivial⟩, _, rfl, ?_⟩; intro a ha
        refine T.cstoreW ha rfl rfl rfl rfl (one_ei _) Tryz.sizeOf50 (by rw [List.length_map, (pl_red _ _ (by rw [(pl_red _ _ (by rw [(inv_red _ (by rw [dotA_len])).len])).len])).len]) hb85 (by rw [List.length_map, List.length_replicate]) rfl ?_
        intro a w88 ha hg hb85'
        replace hb85 := hb85'
        replace hB := keepB1 hg (by omega) hB
        replace hb12 := keepO1 hg (by omega) hb12
        replace hb20 := keepO1 hg (by omega) hb20
        replace hb34 := keepO1 hg (by omega) hb34
        replace hb41 := keepO1 hg (by omega) hb41
        exact T.cfin (hJ55 _ _ b85 (ha.to [6, 7, 11, 14] rfl) hB hb12 hb20 hb34 hb41 hb85 hz85 (by omega) (by omega) (by omega) (by omega))
      ·skip
       refine T.calloc ha rfl rfl zero_50M4 rfl (fun w hg => ⟨keepB0 hg hB, keepO0 hg hb12, keepO0 hg hb20, keepO0 hg hb34, keepO0 hg hb41, trivial⟩) ?_
       intro a w89 b90 ha hg hb90 hge90 hlt90
       have hz90 := Nat.le_trans hB.size hge90
       have hq12_90 := bl hb12 hge90
       have hq20_90 := bl hb20 hge90
       have hq34_90 := bl hb34 hge90
       have hq41_90 := bl hb41 hge90
       replace hB := keepB0 hg hB
       replace hb12 := keepO0 hg hb12
       replace hb20 := keepO0 hg hb20
       replace hb34 := keepO0 hg hb34
       replace hb41 := keepO0 hg hb41
       refine T.cc ha rfl rfl (r_call ha [.agg (((inv (dotA (unR 12 (ek.take 1152) 3) (eaR fwd (smA r 0 3) 3) 3))).map ei).toArray, .agg (((small2 r 6)).map ei).toArray] rfl Tryz.call46) rfl rfl rfl (c_plus (inv (dotA (unR 12 (ek.take 1152) 3) (eaR fwd (smA r 0 3) 3) 3)) (small2 r 6) _ (by rw [(inv_red _ (by rw [dotA_len])).len]) (by rw [small2_len])) ?_
       rintro e w91 ⟨rfl, hBc⟩
       have hg := grown_call hBc
       replace hB := keepB0 hg hB
       replace hb12 := keepO0 hg hb12
       replace hb20 := keepO0 hg hb20
       replace hb34 := keepO0 hg hb34
       replace hb41 := keepO0 hg hb41
       replace hb90 := keepO0 hg hb90
       refine ⟨fun _ => ⟨hB, hb12, hb20, hb34, hb41, trivial⟩, _, rfl, ?_⟩; intro a ha
       refine T.cc ha rfl rfl (r_call ha [ei 1, .agg (((unA 1 m 256)).map ei).toArray] rfl Tryz.call49) rfl rfl rfl (c_spread 1 (unA 1 m 256) _ (by rw [unA_len])) ?_
       rintro e w92 ⟨rfl, hBc⟩
       have hg := grown_call hBc
       replace hB := keepB0 hg hB
       replace hb12 := keepO0 hg hb12
       replace hb20 := keepO0 hg hb20
       replace hb34 := keepO0 hg hb34
       replace hb41 := keepO0 hg hb41
       replace hb90 := keepO0 hg hb90
       refine ⟨fun _ => ⟨hB, hb12, hb20, hb34, hb41, trivial⟩, _, rfl, ?_⟩; intro a ha
       refine T.cc ha rfl rfl (r_call ha [.agg (((pl (inv (dotA (unR 12 (ek.take 1152) 3) (eaR fwd (smA r 0 3) 3) 3)) (small2 r 6))).map ei).toArray, .agg (((spA 1 (unA 1 m 256) 256)).map ei).toArray] rfl Tryz.call46) rfl rfl rfl (c_plus (pl (inv (dotA (unR 12 (ek.take 1152) 3) (eaR fwd (smA r 0 3) 3) 3)) (small2 r 6)) (spA 1 (unA 1 m 256) 256) _ (by rw [(pl_red _ _ (by rw [(inv_red _ (by rw [dotA_len])).len])).len]) (by rw [spA_len, unA_len])) ?_
       rintro e w93 ⟨rfl, hBc⟩
       have hg := grown_call hBc
       replace hB := keepB0 hg hB
       replace hb12 := keepO0 hg hb12
       replace hb20 := keepO0 hg hb20
       replace hb34 := keepO0 hg hb34
       replace hb41 := keepO0 hg hb41
       replace hb90 := keepO0 hg hb90
       refine ⟨fun _ => ⟨hB, hb12, hb20, hb34, hb41, trivial⟩, _, rfl, ?_⟩; intro a ha
       refine T.cstoreW ha rfl rfl rfl rfl (one_ei _) Tryz.sizeOf50 (by rw [List.length_map, (pl_red _ _ (by rw [(pl_red _ _ (by rw [(inv_red _ (by rw [dotA_len])).len])).len])).len]) hb90 (by rw [List.length_map, List.length_replicate]) rfl ?_
       intro a w94 ha hg hb90'
       replace hb90 := hb90'
       replace hB := keepB1 hg (by omega) hB
       replace hb12 := keepO1 hg (by omega) hb12
       replace hb20 := keepO1 hg (by omega) hb20
       replace hb34 := keepO1 hg (by omega) hb34
       replace hb41 := keepO1 hg (by omega) hb41
       exact T.cfin (hJ55 _ _ b90 (ha.to [6, 7, 11, 14] rfl) hB hb12 hb20 hb34 hb41 hb90 hz90 (by omega) (by omega) (by omega) (by omega))
     ·skip
      refine T.calloc ha rfl rfl zero_50M4 rfl (fun w hg => ⟨keepB0 hg hB, keepO0 hg hb12, keepO0 hg hb20, keepO0 hg hb34, keepO0 hg hb41, trivial⟩) ?_
      intro a w95 b96 ha hg hb96 hge96 hlt96
      have hz96 := Nat.le_trans hB.size hge96
      have hq12_96 := bl hb12 hge96
      have hq20_96 := bl hb20 hge96
      have hq34_96 := bl hb34 hge96
      have hq41_96 := bl hb41 hge96
      replace hB := keepB0 hg hB
      replace hb12 := keepO0 hg hb12
      replace hb20 := keepO0 hg hb20
      replace hb34 := keepO0 hg hb34
      replace hb41 := keepO0 hg hb41
      refine T.cc ha rfl rfl (r_call ha [z, en 6] rfl Tryz.call48) rfl rfl rfl (c_small z r 6 _ (hsz.below hB) (by omega) (by omega) (glob_keep hG hB)) ?_
      rintro e w97 ⟨rfl, hBc⟩
      have hg := grown_call hBc
      replace hB := keepB0 hg hB
      replace hb12 := keepO0 hg hb12
      replace hb20 := keepO0 hg hb20
      replace hb34 := keepO0 hg hb34
      replace hb41 := keepO0 hg hb41
      replace hb96 := keepO0 hg hb96
      refine ⟨fun _ => ⟨hB, hb12, hb20, hb34, hb41, trivial⟩, _, rfl, ?_⟩; intro a ha
      refine T.cc ha rfl rfl (r_call ha [.agg (((inv (dotA (unR 12 (ek.take 1152) 3) (eaR fwd (smA r 0 3) 3) 3))).map ei).toArray, .agg (((small2 r 6)).map ei).toArray] rfl Tryz.call46) rfl rfl rfl (c_plus (inv (dotA (unR 12 (ek.take 1152) 3) (eaR fwd (smA r 0 3) 3) 3)) (small2 r 6) _ (by rw [(inv_red _ (by rw [dotA_len])).len]) (by rw [small2_len])) ?_
      rintro e w98 ⟨rfl, hBc⟩
      have hg := grown_call hBc
      replace hB := keepB0 hg hB
      replace hb12 := keepO0 hg hb12
      replace hb20 := keepO0 hg hb20
      replace hb34 := keepO0 hg hb34
      replace hb41 := keepO0 hg hb41
      replace hb96 := keepO0 hg hb96
      refine ⟨fun _ => ⟨hB, hb12, hb20, hb34, hb41, trivial⟩, _, rfl, ?_⟩; intro a ha
      refine T.cc ha rfl rfl (r_call ha [ei 1, .agg (((unA 1 m 256)).map ei).toArray] rfl Tryz.call49) rfl rfl rfl (c_spread 1 (unA 1 m 256) _ (by rw [unA_len])) ?_
      rintro e w99 ⟨rfl, hBc⟩
      have hg := grown_call hBc
      replace hB := keepB0 hg hB
      replace hb12 := keepO0 hg hb12
      replace hb20 := keepO0 hg hb20
      replace hb34 := keepO0 hg hb34
      replace hb41 := keepO0 hg hb41
      replace hb96 := keepO0 hg hb96
      refine ⟨fun _ => ⟨hB, hb12, hb20, hb34, hb41, trivial⟩, _, rfl, ?_⟩; intro a ha
      refine T.cc ha rfl rfl (r_call ha [.agg (((pl (inv (dotA (unR 12 (ek.take 1152) 3) (eaR fwd (smA r 0 3) 3) 3)) (small2 r 6))).map ei).toArray, .agg (((spA 1 (unA 1 m 256) 256)).map ei).toArray] rfl Tryz.call46) rfl rfl rfl (c_plus (pl (inv (dotA (unR 12 (ek.take 1152) 3) (eaR fwd (smA r 0 3) 3) 3)) (small2 r 6)) (spA 1 (unA 1 m 256) 256) _ (by rw [(pl_red _ _ (by rw [(inv_red _ (by rw [dotA_len])).len])).len]) (by rw [spA_len, unA_len])) ?_
      rintro e w100 ⟨rfl, hBc⟩
      have hg := grown_call hBc
      replace hB := keepB0 hg hB
      replace hb12 := keepO0 hg hb12
      replace hb20 := keepO0 hg hb20
      replace hb34 := keepO0 hg hb34
      replace hb41 := keepO0 hg hb41
      replace hb96 := keepO0 hg hb96
      refine ⟨fun _ => ⟨hB, hb12, hb20, hb34, hb41, trivial⟩, _, rfl, ?_⟩; intro a ha
      refine T.cstoreW ha rfl rfl rfl rfl (one_ei _) Tryz.sizeOf50 (by rw [List.length_map, (pl_red _ _ (by rw [(pl_red _ _ (by rw [(inv_red _ (by rw [dotA_len])).len])).len])).len]) hb96 (by rw [List.length_map, List.length_replicate]) rfl ?_
      intro a w101 ha hg hb96'
      replace hb96 := hb96'
      replace hB := keepB1 hg (by omega) hB
      replace hb12 := keepO1 hg (by omega) hb12
      replace hb20 := keepO1 hg (by omega) hb20
      replace hb34 := keepO1 hg (by omega) hb34
      replace hb41 := keepO1 hg (by omega) hb41
      exact T.cfin (hJ55 _ _ b96 (ha.to [6, 7, 11, 14] rfl) hB hb12 hb20 hb34 hb41 hb96 hz96 (by omega) (by omega) (by omega) (by omega))
    ·skip
     refine T.calloc ha rfl rfl zero_50M4 rfl (fun w hg => ⟨keepB0 hg hB, keepO0 hg hb12, keepO0 hg hb20, keepO0 hg hb34, keepO0 hg hb41, trivial⟩) ?_
     intro a w102 b103 ha hg hb103 hge103 hlt103
     have hz103 := Nat.le_trans hB.size hge103
     have hq12_103 := bl hb12 hge103
     have hq20_103 := bl hb20 hge103
     have hq34_103 := bl hb34 hge103
     have hq41_103 := bl hb41 hge103
     replace hB := keepB0 hg hB
     replace hb12 := keepO0 hg hb12
     replace hb20 := keepO0 hg hb20
     replace hb34 := keepO0 hg hb34
     replace hb41 := keepO0 hg hb41
     refine T.cc ha rfl rfl (r_call ha [.agg (((dotA (unR 12 (ek.take 1152) 3) (eaR fwd (smA r 0 3) 3) 3)).map ei).toArray] rfl Tryz.call43) rfl rfl rfl (c_inv (dotA (unR 12 (ek.take 1152) 3) (eaR fwd (smA r 0 3) 3) 3) _ (by rw [dotA_len]) (globP_keep hP hB)) ?_
     rintro e w104 ⟨rfl, hBc⟩
     have hg := grown_call hBc
     replace hB := keepB0 hg hB
     replace hb12 := keepO0 hg hb12
     replace hb20 := keepO0 hg hb20
     replace hb34 := keepO0 hg hb34
     replace hb41 := keepO0 hg hb41
     replace hb103 := keepO0 hg hb103
     refine ⟨fun _ => ⟨hB, hb12, hb20, hb34, hb41, trivial⟩, _, rfl, ?_⟩; intro a ha
     refine T.cc ha rfl rfl (r_call ha [z, en 6] rfl Tryz.call48) rfl rfl rfl (c_small z r 6 _ (hsz.below hB) (by omega) (by omega) (glob_keep hG hB)) ?_
     rintro e w105 ⟨rfl, hBc⟩
     have hg := grown_call hBc
     replace hB := keepB0 hg hB
     replace hb12 := keepO0 hg hb12
     replace hb20 := keepO0 hg hb20
     replace hb34 := keepO0 hg hb34
     replace hb41 := keepO0 hg hb41
     replace hb103 := keepO0 hg hb103
     refine ⟨fun _ => ⟨hB, hb12, hb20, hb34, hb41, trivial⟩, _, rfl, ?_⟩; intro a ha
     refine T.cc ha rfl rfl (r_call ha [.agg (((inv (dotA (unR 12 (ek.take 1152) 3) (eaR fwd (smA r 0 3) 3) 3))).map ei).toArray, .agg (((small2 r 6)).map ei).toArray] rfl Tryz.call46) rfl rfl rfl (c_plus (inv (dotA (unR 12 (ek.take 1152) 3) (eaR fwd (smA r 0 3) 3) 3)) (small2 r 6) _ (by rw [(inv_red _ (by rw [dotA_len])).len]) (by rw [small2_len])) ?_
     rintro e w106 ⟨rfl, hBc⟩
     have hg := grown_call hBc
     replace hB := keepB0 hg hB
     replace hb12 := keepO0 hg hb12
     replace hb20 := keepO0 hg hb20
     replace hb34 := keepO0 hg hb34
     replace hb41 := keepO0 hg hb41
     replace hb103 := keepO0 hg hb103
     refine ⟨fun _ => ⟨hB, hb12, hb20, hb34, hb41, trivial⟩, _, rfl, ?_⟩; intro a ha
     refine T.cc ha rfl rfl (r_call ha [ei 1, .agg (((unA 1 m 256)).map ei).toArray] rfl Tryz.call49) rfl rfl rfl (c_spread 1 (unA 1 m 256) _ (by rw [unA_len])) ?_
     rintro e w107 ⟨rfl, hBc⟩
     have hg := grown_call hBc
     replace hB := keepB0 hg hB
     replace hb12 := keepO0 hg hb12
     replace hb20 := keepO0 hg hb20
     replace hb34 := keepO0 hg hb34
     replace hb41 := keepO0 hg hb41
     replace hb103 := keepO0 hg hb103
     refine ⟨fun _ => ⟨hB, hb12, hb20, hb34, hb41, trivial⟩, _, rfl, ?_⟩; intro a ha
     refine T.cc ha rfl rfl (r_call ha [.agg (((pl (inv (dotA (unR 12 (ek.take 1152) 3) (eaR fwd (smA r 0 3) 3) 3)) (small2 r 6))).map ei).toArray, .agg (((spA 1 (unA 1 m 256) 256)).map ei).toArray] rfl Tryz.call46) rfl rfl rfl (c_plus (pl (inv (dotA (unR 12 (ek.take 1152) 3) (eaR fwd (smA r 0 3) 3) 3)) (small2 r 6)) (spA 1 (unA 1 m 256) 256) _ (by rw [(pl_red _ _ (by rw [(inv_red _ (by rw [dotA_len])).len])).len]) (by rw [spA_len, unA_len])) ?_
     rintro e w108 ⟨rfl, hBc⟩
     have hg := grown_call hBc
     replace hB := keepB0 hg hB
     replace hb12 := keepO0 hg hb12
     replace hb20 := keepO0 hg hb20
     replace hb34 := keepO0 hg hb34
     replace hb41 := keepO0 hg hb41
     replace hb103 := keepO0 hg hb103
     refine ⟨fun _ => ⟨hB, hb12, hb20, hb34, hb41, trivial⟩, _, rfl, ?_⟩; intro a ha
     refine T.cstoreW ha rfl rfl rfl rfl (one_ei _) Tryz.sizeOf50 (by rw [List.length_map, (pl_red _ _ (by rw [(pl_red _ _ (by rw [(inv_red _ (by rw [dotA_len])).len])).len])).len]) hb103 (by rw [List.length_map, List.length_replicate]) rfl ?_
     intro a w109 ha hg hb103'
     replace hb103 := hb103'
     replace hB := keepB1 hg (by omega) hB
     replace hb12 := keepO1 hg (by omega) hb12
     replace hb20 := keepO1 hg (by omega) hb20
     replace hb34 := keepO1 hg (by omega) hb34
     replace hb41 := keepO1 hg (by omega) hb41
     exact T.cfin (hJ55 _ _ b103 (ha.to [6, 7, 11, 14] rfl) hB hb12 hb20 hb34 hb41 hb103 hz103 (by omega) (by omega) (by omega) (by omega))
   ·skip
    refine T.calloc ha rfl rfl zero_50M4 rfl (fun w hg => ⟨keepB0 hg hB, keepO0 hg hb12, keepO0 hg hb20, keepO0 hg hb34, keepO0 hg hb41, trivial⟩) ?_
    intro a w110 b111 ha hg hb111 hge111 hlt111
    have hz111 := Nat.le_trans hB.size hge111
    have hq12_111 := bl hb12 hge111
    have hq20_111 := bl hb20 hge111
    have hq34_111 := bl hb34 hge111
    have hq41_111 := bl hb41 hge111
    replace hB := keepB0 hg hB
    replace hb12 := keepO0 hg hb12
    replace hb20 := keepO0 hg hb20
    replace hb34 := keepO0 hg hb34
    replace hb41 := keepO0 hg hb41
    refine T.cc ha rfl rfl (r_call ha [.agg (((unR 12 (ek.take 1152) 3)).map ei).toArray, .agg (((eaR fwd (smA r 0 3) 3)).map ei).toArray] rfl Tryz.call47) rfl rfl rfl (c_dot (unR 12 (ek.take 1152) 3) (eaR fwd (smA r 0 3) 3) _ (by rw [unR_len _ _ _ (by omega)]) (by rw [eaR_len _ fwd_len _ (by rw [smA_len _ _ _ (by omega)]) _ (by omega)]) (glob_keep hG hB) (globP_keep hP hB)) ?_
    rintro e w112 ⟨rfl, hBc⟩
    have hg := grown_call hBc
    replace hB := keepB0 hg hB
    replace hb12 := keepO0 hg hb12
    replace hb20 := keepO0 hg hb20
    replace hb34 := keepO0 hg hb34
    replace hb41 := keepO0 hg hb41
    replace hb111 := keepO0 hg hb111
    refine ⟨fun _ => ⟨hB, hb12, hb20, hb34, hb41, trivial⟩, _, rfl, ?_⟩; intro a ha
    refine T.cc ha rfl rfl (r_call ha [.agg (((dotA (unR 12 (ek.take 1152) 3) (eaR fwd (smA r 0 3) 3) 3)).map ei).toArray] rfl Tryz.call43) rfl rfl rfl (c_inv (dotA (unR 12 (ek.take 1152) 3) (eaR fwd (smA r 0 3) 3) 3) _ (by rw [dotA_len]) (globP_keep hP hB)) ?_
    rintro e w113 ⟨rfl, hBc⟩
    have hg := grown_call hBc
    replace hB := keepB0 hg hB
    replace hb12 := keepO0 hg hb12
    replace hb20 := keepO0 hg hb20
    replace hb34 := keepO0 hg hb34
    replace hb41 := keepO0 hg hb41
    replace hb111 := keepO0 hg hb111
    refine ⟨fun _ => ⟨hB, hb12, hb20, hb34, hb41, trivial⟩, _, rfl, ?_⟩; intro a ha
    refine T.cc ha rfl rfl (r_call ha [z, en 6] rfl Tryz.call48) rfl rfl rfl (c_small z r 6 _ (hsz.below hB) (by omega) (by omega) (glob_keep hG hB)) ?_
    rintro e w114 ⟨rfl, hBc⟩
    have hg := grown_call hBc
    replace hB := keepB0 hg hB
    replace hb12 := keepO0 hg hb12
    replace hb20 := keepO0 hg hb20
    replace hb34 := keepO0 hg hb34
    replace hb41 := keepO0 hg hb41
    replace hb111 := keepO0 hg hb111
    refine ⟨fun _ => ⟨hB, hb12, hb20, hb34, hb41, trivial⟩, _, rfl, ?_⟩; intro a ha
    refine T.cc ha rfl rfl (r_call ha [.agg (((inv (dotA (unR 12 (ek.take 1152) 3) (eaR fwd (smA r 0 3) 3) 3))).map ei).toArray, .agg (((small2 r 6)).map ei).toArray] rfl Tryz.call46) rfl rfl rfl (c_plus (inv (dotA (unR 12 (ek.take 1152) 3) (eaR fwd (smA r 0 3) 3) 3)) (small2 r 6) _ (by rw [(inv_red _ (by rw [dotA_len])).len]) (by rw [small2_len])) ?_
    rintro e w115 ⟨rfl, hBc⟩
    have hg := grown_call hBc
    replace hB := keepB0 hg hB
    replace hb12 := keepO0 hg hb12
    replace hb20 := keepO0 hg hb20
    replace hb34 := keepO0 hg hb34
    replace hb41 := keepO0 hg hb41
    replace hb111 := keepO0 hg hb111
    refine ⟨fun _ => ⟨hB, hb12, hb20, hb34, hb41, trivial⟩, _, rfl, ?_⟩; intro a ha
    refine T.cc ha rfl rfl (r_call ha [ei 1, .agg (((unA 1 m 256)).map ei).toArray] rfl Tryz.call49) rfl rfl rfl (c_spread 1 (unA 1 m 256) _ (by rw [unA_len])) ?_
    rintro e w116 ⟨rfl, hBc⟩
    have hg := grown_call hBc
    replace hB := keepB0 hg hB
    replace hb12 := keepO0 hg hb12
    replace hb20 := keepO0 hg hb20
    replace hb34 := keepO0 hg hb34
    replace hb41 := keepO0 hg hb41
    replace hb111 := keepO0 hg hb111
    refine ⟨fun _ => ⟨hB, hb12, hb20, hb34, hb41, trivial⟩, _, rfl, ?_⟩; intro a ha
    refine T.cc ha rfl rfl (r_call ha [.agg (((pl (inv (dotA (unR 12 (ek.take 1152) 3) (eaR fwd (smA r 0 3) 3) 3)) (small2 r 6))).map ei).toArray, .agg (((spA 1 (unA 1 m 256) 256)).map ei).toArray] rfl Tryz.call46) rfl rfl rfl (c_plus (pl (inv (dotA (unR 12 (ek.take 1152) 3) (eaR fwd (smA r 0 3) 3) 3)) (small2 r 6)) (spA 1 (unA 1 m 256) 256) _ (by rw [(pl_red _ _ (by rw [(inv_red _ (by rw [dotA_len])).len])).len]) (by rw [spA_len, unA_len])) ?_
    rintro e w117 ⟨rfl, hBc⟩
    have hg := grown_call hBc
    replace hB := keepB0 hg hB
    replace hb12 := keepO0 hg hb12
    replace hb20 := keepO0 hg hb20
    replace hb34 := keepO0 hg hb34
    replace hb41 := keepO0 hg hb41
    replace hb111 := keepO0 hg hb111
    refine ⟨fun _ => ⟨hB, hb12, hb20, hb34, hb41, trivial⟩, _, rfl, ?_⟩; intro a ha
    refine T.cstoreW ha rfl rfl rfl rfl (one_ei _) Tryz.sizeOf50 (by rw [List.length_map, (pl_red _ _ (by rw [(pl_red _ _ (by rw [(inv_red _ (by rw [dotA_len])).len])).len])).len]) hb111 (by rw [List.length_map, List.length_replicate]) rfl ?_
    intro a w118 ha hg hb111'
    replace hb111 := hb111'
    replace hB := keepB1 hg (by omega) hB
    replace hb12 := keepO1 hg (by omega) hb12
    replace hb20 := keepO1 hg (by omega) hb20
    replace hb34 := keepO1 hg (by omega) hb34
    replace hb41 := keepO1 hg (by omega) hb41
    exact T.cfin (hJ55 _ _ b111 (ha.to [6, 7, 11, 14] rfl) hB hb12 hb20 hb34 hb41 hb111 hz111 (by omega) (by omega) (by omega) (by omega))
  refine regionT (S := fun w => Below w0.heap.size w0 w ∧ w.heap[b12]? = some (.cells ((unR 12 (ek.take 1152) 3).map ei).toArray 52 (0, 0)) ∧ w.heap[b20]? = some (.cells ((eaR fwd (smA r 0 3) 3).map ei).toArray 52 (0, 0)) ∧ True) [10] [0, 3, 6] (.op 0 (.op 3 (.op 6 (.two 1 (.two 2 (.two 4 (.two 5 (.two 7 (.two 8 (.op 9 (.op 10 .fin)) 9 (.op 8 (.op 10 .fin))) 9 (.op 7 (.op 8 (.op 10 .fin)))) 9 (.op 5 (.op 7 (.op 8 (.op 10 .fin))))) 9 (.op 4 (.op 5 (.op 7 (.op 8 (.op 10 .fin)))))) 9 (.op 2 (.op 4 (.op 5 (.op 7 (.op 8 (.op 10 .fin))))))) 9 (.op 1 (.op 2 (.op 4 (.op 5 (.op 7 (.op 8 (.op 10 .fin))))))))))) mixed (by kernel_rfl) (fun w hg => ⟨keepB0 hg hB, keepO0 hg hb12, keepO0 hg hb20, trivial⟩) ?_
  intro w24 hg
  replace hB := keepB0 hg hB
  replace hb12 := keepO0 hg hb12
  replace hb20 := keepO0 hg hb20
  refine T.c3 ha rfl (cmv rfl) (fun w ⟨_, _, hb20, _⟩ _ ha => r_loadR ha rfl Tryz.isAgg52 Tryz.sizeOf52 (C := (eaR fwd (smA r 0 3) 3).map ei) (by rw [List.length_map, eaR_len _ fwd_len _ (by rw [smA_len _ _ _ (by omega)]) _ (by omega)]) (cells_all hb20)) (cmv rfl) ?_; intro a ha
  refine T.two ?_ ?_
  ·skip
   refine T.ccx ha rfl rfl (r_call ha [(rsl v 1152 ek.length)] rfl Tryz.call40) rfl rfl rfl (c_matrix (rsl v 1152 ek.length) (ek.drop 1152) _ (Sl.castM (Sl.cutM (lo := 1152) (hi := ek.length) (hs.below hB) (by omega) (by omega)) (cutE _ _ _ rfl))) ?_
   rintro e w119 ⟨b120, rfl, hBc, hb120, hge120⟩
   have hg := grown_call hBc
   have hz120 := Nat.le_trans hB.size hge120
   have hq12_120 := bl hb12 hge120
   have hq20_120 := bl hb20 hge120
   replace hB := keepB0 hg hB
   replace hb12 := keepO0 hg hb12
   replace hb20 := keepO0 hg hb20
   refine ⟨fun w => (w.heap[b120]? = some (.cells ([rsl v 1152 ek.length]).toArray 22 (0, 0))) ∧ Below w0.heap.size w0 w ∧ w.heap[b12]? = some (.cells ((unR 12 (ek.take 1152) 3).map ei).toArray 52 (0, 0)) ∧ w.heap[b20]? = some (.cells ((eaR fwd (smA r 0 3) 3).map ei).toArray 52 (0, 0)) ∧ True, fun w h => h.2, fun _ => ⟨hb120, hB, hb12, hb20, trivial⟩, _, rfl, ?_⟩; intro a ha
   refine T.two ?_ ?_
   ·skip
    refine T.ccx ha rfl rfl (r_call ha [.func (.func 88) #[] #[.pointer (some ⟨b120, 0, none⟩)]] rfl Tryz.call41) rfl rfl rfl (c_turn b120 (rsl v 1152 ek.length) (ek.drop 1152) _ (Sl.castM (Sl.cutM (lo := 1152) (hi := ek.length) (hs.below hB) (by omega) (by omega)) (cutE _ _ _ rfl)) hb120) ?_
    rintro e w121 ⟨b122, rfl, hBc, hb122, hge122⟩
    have hg := grown_call hBc
    have hz122 := Nat.le_trans hB.size hge122
    have hq12_122 := bl hb12 hge122
    have hq20_122 := bl hb20 hge122
    have hq120_122 := bl hb120 hge122
    replace hB := keepB0 hg hB
    replace hb12 := keepO0 hg hb12
    replace hb20 := keepO0 hg hb20
    replace hb120 := keepO0 hg hb120
    refine ⟨fun w => (w.heap[b122]? = some (.cells (([.func (.func 88) #[] #[.pointer (some ⟨b120, 0, none⟩)]] : List Value)).toArray 58 (0, 0))) ∧ (w.heap[b120]? = some (.cells ([rsl v 1152 ek.length]).toArray 22 (0, 0))) ∧ Below w0.heap.size w0 w ∧ w.heap[b12]? = some (.cells ((unR 12 (ek.take 1152) 3).map ei).toArray 52 (0, 0)) ∧ w.heap[b20]? = some (.cells ((eaR fwd (smA r 0 3) 3).map ei).toArray 52 (0, 0)) ∧ True, fun w h => h.2, fun _ => ⟨hb122, hb120, hB, hb12, hb20, trivial⟩, _, rfl, ?_⟩; intro a ha
    refine T.two ?_ ?_
    ·skip
     refine T.cc ha rfl rfl (r_call ha [.func (.func 90) #[] #[.pointer (some ⟨b122, 0, none⟩)], .agg (((eaR fwd (smA r 0 3) 3)).map ei).toArray] rfl Tryz.call42) rfl rfl rfl (c_timesT b122 b120 (rsl v 1152 ek.length) (ek.drop 1152) (eaR fwd (smA r 0 3) 3) _ (Sl.castM (Sl.cutM (lo := 1152) (hi := ek.length) (hs.below hB) (by omega) (by omega)) (cutE _ _ _ rfl)) (by first | omega | (rw [List.length_drop]; omega)) (by rw [eaR_len _ fwd_len _ (by rw [smA_len _ _ _ (by omega)]) _ (by omega)]) hb122 hb120 (glob_keep hG hB) (globP_keep hP hB)) ?_
     rintro e w123 ⟨rfl, hBc⟩
     have hg := grown_call hBc
     replace hB := keepB0 hg hB
     replace hb12 := keepO0 hg hb12
     replace hb20 := keepO0 hg hb20
     replace hb120 := keepO0 hg hb120
     replace hb122 := keepO0 hg hb122
     refine ⟨fun _ => ⟨hb122, hb120, hB, hb12, hb20, trivial⟩, _, rfl, ?_⟩; intro a ha
     refine T.two ?_ ?_
     ·skip
      refine T.cc ha rfl rfl (r_call ha [.agg (((tiA (matT (ek.drop 1152)) (eaR fwd (smA r 0 3) 3) 3)).map ei).toArray, .func (.func 43) #[] #[]] rfl Tryz.call38) rfl rfl rfl (c_eachIr (tiA (matT (ek.drop 1152)) (eaR fwd (smA r 0 3) 3) 3) _ (by rw [tiA_len _ _ _ (by omega)]) (glob_keep hG hB) (globP_keep hP hB)) ?_
      rintro e w124 ⟨rfl, hBc⟩
      have hg := grown_call hBc
      replace hB := keepB0 hg hB
      replace hb12 := keepO0 hg hb12
      replace hb20 := keepO0 hg hb20
      replace hb120 := keepO0 hg hb120
      replace hb122 := keepO0 hg hb122
      refine ⟨fun _ => ⟨hb122, hb120, hB, hb12, hb20, trivial⟩, _, rfl, ?_⟩; intro a ha
      refine T.two ?_ ?_
      ·skip
       refine T.cc ha rfl rfl (r_call ha [z, en 3] rfl Tryz.call37) rfl rfl rfl (c_smalls z r 3 _ (hsz.below hB) (by first | omega | (rw [List.length_drop]; omega)) (by omega) (glob_keep hG hB)) ?_
       rintro e w125 ⟨rfl, hBc⟩
       have hg := grown_call hBc
       replace hB := keepB0 hg hB
       replace hb12 := keepO0 hg hb12
       replace hb20 := keepO0 hg hb20
       replace hb120 := keepO0 hg hb120
       replace hb122 := keepO0 hg hb122
       refine ⟨fun _ => ⟨hb122, hb120, hB, hb12, hb20, trivial⟩, _, rfl, ?_⟩; intro a ha
       refine T.two ?_ ?_
       ·skip
        refine T.cc ha rfl rfl (r_call ha [.agg (((eaR inv (tiA (matT (ek.drop 1152)) (eaR fwd (smA r 0 3) 3) 3) 3)).map ei).toArray, .agg (((smA r 3 3)).map ei).toArray] rfl Tryz.call44) rfl rfl rfl (c_plusR (eaR inv (tiA (matT (ek.drop 1152)) (eaR fwd (smA r 0 3) 3) 3) 3) (smA r 3 3) _ (by rw [eaR_len _ inv_len _ (by rw [tiA_len _ _ _ (by omega)]) _ (by omega)]) (by rw [smA_len _ _ _ (by omega)]) (glob_keep hG hB) (globP_keep hP hB)) ?_
        rintro e w126 ⟨rfl, hBc⟩
        have hg := grown_call hBc
        replace hB := keepB0 hg hB
        replace hb12 := keepO0 hg hb12
        replace hb20 := keepO0 hg hb20
        replace hb120 := keepO0 hg hb120
        replace hb122 := keepO0 hg hb122
        refine ⟨fun _ => ⟨hb122, hb120, hB, hb12, hb20, trivial⟩, _, rfl, ?_⟩; intro a ha
        refine T.calloc ha rfl rfl zero_52M4 rfl (fun w hg => ⟨keepO0 hg hb122, keepO0 hg hb120, keepB0 hg hB, keepO0 hg hb12, keepO0 hg hb20, trivial⟩) ?_
        intro a w127 b128 ha hg hb128 hge128 hlt128
        have hz128 := Nat.le_trans hB.size hge128
        have hq12_128 := bl hb12 hge128
        have hq20_128 := bl hb20 hge128
        have hq120_128 := bl hb120 hge128
        have hq122_128 := bl hb122 hge128
        replace hB := keepB0 hg hB
        replace hb12 := keepO0 hg hb12
        replace hb20 := keepO0 hg hb20
        replace hb120 := keepO0 hg hb120
        replace hb122 := keepO0 hg hb122
        refine T.cstoreW ha rfl rfl rfl rfl (one_ei _) Tryz.sizeOf52 (by rw [List.length_map, plR_len _ _ (by rw [eaR_len _ inv_len _ (by rw [tiA_len _ _ _ (by omega)]) _ (by omega)]) _ (by omega)]) hb128 (by rw [List.length_map, List.length_replicate]) rfl ?_
        intro a w129 ha hg hb128'
        replace hb128 := hb128'
        replace hB := keepB1 hg (by omega) hB
        replace hb12 := keepO1 hg (by omega) hb12
        replace hb20 := keepO1 hg (by omega) hb20
        replace hb120 := keepO1 hg (by omega) hb120
        replace hb122 := keepO1 hg (by omega) hb122
        exact T.cfin (hJ36 _ _ b120 b122 b128 (ha.to [1, 2, 6, 7, 8, 10, 11] rfl) hB hb12 hb20 hb120 hb122 hb128 hz120 hz122 hz128 (by omega) (by omega) (by omega) (by omega) (by omega) (by omega) (by omega) (by omega) (by omega))
       ·skip
        refine T.calloc ha rfl rfl zero_52M4 rfl (fun w hg => ⟨keepO0 hg hb122, keepO0 hg hb120, keepB0 hg hB, keepO0 hg hb12, keepO0 hg hb20, trivial⟩) ?_
        intro a w130 b131 ha hg hb131 hge131 hlt131
        have hz131 := Nat.le_trans hB.size hge131
        have hq12_131 := bl hb12 hge131
        have hq20_131 := bl hb20 hge131
        have hq120_131 := bl hb120 hge131
        have hq122_131 := bl hb122 hge131
        replace hB := keepB0 hg hB
        replace hb12 := keepO0 hg hb12
        replace hb20 := keepO0 hg hb20
        replace hb120 := keepO0 hg hb120
        replace hb122 := keepO0 hg hb122
        refine T.cc ha rfl rfl (r_call ha [.agg (((eaR inv (tiA (matT (ek.drop 1152)) (eaR fwd (smA r 0 3) 3) 3) 3)).map ei).toArray, .agg (((smA r 3 3)).map ei).toArray] rfl Tryz.call44) rfl rfl rfl (c_plusR (eaR inv (tiA (matT (ek.drop 1152)) (eaR fwd (smA r 0 3) 3) 3) 3) (smA r 3 3) _ (by rw [eaR_len _ inv_len _ (by rw [tiA_len _ _ _ (by omega)]) _ (by omega)]) (by rw [smA_len _ _ _ (by omega)]) (glob_keep hG hB) (globP_keep hP hB)) ?_
        rintro e w132 ⟨rfl, hBc⟩
        have hg := grown_call hBc
        replace hB := keepB0 hg hB
        replace hb12 := keepO0 hg hb12
        replace hb20 := keepO0 hg hb20
        replace hb120 := keepO0 hg hb120
        replace hb122 := keepO0 hg hb122
        replace hb131 := keepO0 hg hb131
        refine ⟨fun _ => ⟨hb122, hb120, hB, hb12, hb20, trivial⟩, _, rfl, ?_⟩; intro a ha
        refine T.cstoreW ha rfl rfl rfl rfl (one_ei _) Tryz.sizeOf52 (by rw [List.length_map, plR_len _ _ (by rw [eaR_len _ inv_len _ (by rw [tiA_len _ _ _ (by omega)]) _ (by omega)]) _ (by omega)]) hb131 (by rw [List.length_map, List.length_replicate]) rfl ?_
        intro a w133 ha hg hb131'
        replace hb131 := hb131'
        replace hB := keepB1 hg (by omega) hB
        replace hb12 := keepO1 hg (by omega) hb12
        replace hb20 := keepO1 hg (by omega) hb20
        replace hb120 := keepO1 hg (by omega) hb120
        replace hb122 := keepO1 hg (by omega) hb122
        exact T.cfin (hJ36 _ _ b120 b122 b131 (ha.to [1, 2, 6, 7, 8, 10, 11] rfl) hB hb12 hb20 hb120 hb122 hb131 hz120 hz122 hz131 (by omega) (by omega) (by omega) (by omega) (by omega) (by omega) (by omega) (by omega) (by omega))
      ·skip
       refine T.calloc ha rfl rfl zero_52M4 rfl (fun w hg => ⟨keepO0 hg hb122, keepO0 hg hb120, keepB0 hg hB, keepO0 hg hb12, keepO0 hg hb20, trivial⟩) ?_
       intro a w134 b135 ha hg hb135 hge135 hlt135
       have hz135 := Nat.le_trans hB.size hge135
       have hq12_135 := bl hb12 hge135
       have hq20_135 := bl hb20 hge135
       have hq120_135 := bl hb120 hge135
       have hq122_135 := bl hb122 hge135
       replace hB := keepB0 hg hB
       replace hb12 := keepO0 hg hb12
       replace hb20 := keepO0 hg hb20
       replace hb120 := keepO0 hg hb120
       replace hb122 := keepO0 hg hb122
       refine T.cc ha rfl rfl (r_call ha [z, en 3] rfl Tryz.call37) rfl rfl rfl (c_smalls z r 3 _ (hsz.below hB) (by first | omega | (rw [List.length_drop]; omega)) (by omega) (glob_keep hG hB)) ?_
       rintro e w136 ⟨rfl, hBc⟩
       have hg := grown_call hBc
       replace hB := keepB0 hg hB
       replace hb12 := keepO0 hg hb12
       replace hb20 := keepO0 hg hb20
       replace hb120 := keepO0 hg hb120
       replace hb122 := keepO0 hg hb122
       replace hb135 := keepO0 hg hb135
       refine ⟨fun _ => ⟨hb122, hb120, hB, hb12, hb20, trivial⟩, _, rfl, ?_⟩; intro a ha
       refine T.cc ha rfl rfl (r_call ha [.agg (((eaR inv (tiA (matT (ek.drop 1152)) (eaR fwd (smA r 0 3) 3) 3) 3)).map ei).toArray, .agg (((smA r 3 3)).map ei).toArray] rfl Tryz.call44) rfl rfl rfl (c_plusR (eaR inv (tiA (matT (ek.drop 1152)) (eaR fwd (smA r 0 3) 3) 3) 3) (smA r 3 3) _ (by rw [eaR_len _ inv_len _ (by rw [tiA_len _ _ _ (by omega)]) _ (by omega)]) (by rw [smA_len _ _ _ (by omega)]) (glob_keep hG hB) (globP_keep hP hB)) ?_
       rintro e w137 ⟨rfl, hBc⟩
       have hg := grown_call hBc
       replace hB := keepB0 hg hB
       replace hb12 := keepO0 hg hb12
       replace hb20 := keepO0 hg hb20
       replace hb120 := keepO0 hg hb120
       replace hb122 := keepO0 hg hb122
       replace hb135 := keepO0 hg hb135
       refine ⟨fun _ => ⟨hb122, hb120, hB, hb12, hb20, trivial⟩, _, rfl, ?_⟩; intro a ha
       refine T.cstoreW ha rfl rfl rfl rfl (one_ei _) Tryz.sizeOf52 (by rw [List.length_map, plR_len _ _ (by rw [eaR_len _ inv_len _ (by rw [tiA_len _ _ _ (by omega)]) _ (by omega)]) _ (by omega)]) hb135 (by rw [List.length_map, List.length_replicate]) rfl ?_
       intro a w138 ha hg hb135'
       replace hb135 := hb135'
       replace hB := keepB1 hg (by omega) hB
       replace hb12 := keepO1 hg (by omega) hb12
       replace hb20 := keepO1 hg (by omega) hb20
       replace hb120 := keepO1 hg (by omega) hb120
       replace hb122 := keepO1 hg (by omega) hb122
       exact T.cfin (hJ36 _ _ b120 b122 b135 (ha.to [1, 2, 6, 7, 8, 10, 11] rfl) hB hb12 hb20 hb120 hb122 hb135 hz120 hz122 hz135 (by omega) (by omega) (by omega) (by omega) (by omega) (by omega) (by omega) (by omega) (by omega))
     ·skip
      refine T.calloc ha rfl rfl zero_52M4 rfl (fun w hg => ⟨keepO0 hg hb122, keepO0 hg hb120, keepB0 hg hB, keepO0 hg hb12, keepO0 hg hb20, trivial⟩) ?_
      intro a w139 b140 ha hg hb140 hge140 hlt140
      have hz140 := Nat.le_trans hB.size hge140
      have hq12_140 := bl hb12 hge140
      have hq20_140 := bl hb20 hge140
      have hq120_140 := bl hb120 hge140
      have hq122_140 := bl hb122 hge140
      replace hB := keepB0 hg hB
      replace hb12 := keepO0 hg hb12
      replace hb20 := keepO0 hg hb20
      replace hb120 := keepO0 hg hb120
      replace hb122 := keepO0 hg hb122
      refine T.cc ha rfl rfl (r_call ha [.agg (((tiA (matT (ek.drop 1152)) (eaR fwd (smA r 0 3) 3) 3)).map ei).toArray, .func (.func 43) #[] #[]] rfl Tryz.call38) rfl rfl rfl (c_eachIr (tiA (matT (ek.drop 1152)) (eaR fwd (smA r 0 3) 3) 3) _ (by rw [tiA_len _ _ _ (by omega)]) (glob_keep hG hB) (globP_keep hP hB)) ?_
      rintro e w141 ⟨rfl, hBc⟩
      have hg := grown_call hBc
      replace hB := keepB0 hg hB
      replace hb12 := keepO0 hg hb12
      replace hb20 := keepO0 hg hb20
      replace hb120 := keepO0 hg hb120
      replace hb122 := keepO0 hg hb122
      replace hb140 := keepO0 hg hb140
      refine ⟨fun _ => ⟨hb122, hb120, hB, hb12, hb20, trivial⟩, _, rfl, ?_⟩; intro a ha
      refine T.cc ha rfl rfl (r_call ha [z, en 3] rfl Tryz.call37) rfl rfl rfl (c_smalls z r 3 _ (hsz.below hB) (by first | omega | (rw [List.length_drop]; omega)) (by omega) (glob_keep hG hB)) ?_
      rintro e w142 ⟨rfl, hBc⟩
      have hg := grown_call hBc
      replace hB := keepB0 hg hB
      replace hb12 := keepO0 hg hb12
      replace hb20 := keepO0 hg hb20
      replace hb120 := keepO0 hg hb120
      replace hb122 := keepO0 hg hb122
      replace hb140 := keepO0 hg hb140
      refine ⟨fun _ => ⟨hb122, hb120, hB, hb12, hb20, trivial⟩, _, rfl, ?_⟩; intro a ha
      refine T.cc ha rfl rfl (r_call ha [.agg (((eaR inv (tiA (matT (ek.drop 1152)) (eaR fwd (smA r 0 3) 3) 3) 3)).map ei).toArray, .agg (((smA r 3 3)).map ei).toArray] rfl Tryz.call44) rfl rfl rfl (c_plusR (eaR inv (tiA (matT (ek.drop 1152)) (eaR fwd (smA r 0 3) 3) 3) 3) (smA r 3 3) _ (by rw [eaR_len _ inv_len _ (by rw [tiA_len _ _ _ (by omega)]) _ (by omega)]) (by rw [smA_len _ _ _ (by omega)]) (glob_keep hG hB) (globP_keep hP hB)) ?_
      rintro e w143 ⟨rfl, hBc⟩
      have hg := grown_call hBc
      replace hB := keepB0 hg hB
      replace hb12 := keepO0 hg hb12
      replace hb20 := keepO0 hg hb20
      replace hb120 := keepO0 hg hb120
      replace hb122 := keepO0 hg hb122
      replace hb140 := keepO0 hg hb140
      refine ⟨fun _ => ⟨hb122, hb120, hB, hb12, hb20, trivial⟩, _, rfl, ?_⟩; intro a ha
      refine T.cstoreW ha rfl rfl rfl rfl (one_ei _) Tryz.sizeOf52 (by rw [List.length_map, plR_len _ _ (by rw [eaR_len _ inv_len _ (by rw [tiA_len _ _ _ (by omega)]) _ (by omega)]) _ (by omega)]) hb140 (by rw [List.length_map, List.length_replicate]) rfl ?_
      intro a w144 ha hg hb140'
      replace hb140 := hb140'
      replace hB := keepB1 hg (by omega) hB
      replace hb12 := keepO1 hg (by omega) hb12
      replace hb20 := keepO1 hg (by omega) hb20
      replace hb120 := keepO1 hg (by omega) hb120
      replace hb122 := keepO1 hg (by omega) hb122
      exact T.cfin (hJ36 _ _ b120 b122 b140 (ha.to [1, 2, 6, 7, 8, 10, 11] rfl) hB hb12 hb20 hb120 hb122 hb140 hz120 hz122 hz140 (by omega) (by omega) (by omega) (by omega) (by omega) (by omega) (by omega) (by omega) (by omega))
    ·skip
     refine T.calloc ha rfl rfl zero_52M4 rfl (fun w hg => ⟨keepO0 hg hb122, keepO0 hg hb120, keepB0 hg hB, keepO0 hg hb12, keepO0 hg hb20, trivial⟩) ?_
     intro a w145 b146 ha hg hb146 hge146 hlt146
     have hz146 := Nat.le_trans hB.size hge146
     have hq12_146 := bl hb12 hge146
     have hq20_146 := bl hb20 hge146
     have hq120_146 := bl hb120 hge146
     have hq122_146 := bl hb122 hge146
     replace hB := keepB0 hg hB
     replace hb12 := keepO0 hg hb12
     replace hb20 := keepO0 hg hb20
     replace hb120 := keepO0 hg hb120
     replace hb122 := keepO0 hg hb122
     refine T.cc ha rfl rfl (r_call ha [.func (.func 90) #[] #[.pointer (some ⟨b122, 0, none⟩)], .agg (((eaR fwd (smA r 0 3) 3)).map ei).toArray] rfl Tryz.call42) rfl rfl rfl (c_timesT b122 b120 (rsl v 1152 ek.length) (ek.drop 1152) (eaR fwd (smA r 0 3) 3) _ (Sl.castM (Sl.cutM (lo := 1152) (hi := ek.length) (hs.below hB) (by omega) (by omega)) (cutE _ _ _ rfl)) (by first | omega | (rw [List.length_drop]; omega)) (by rw [eaR_len _ fwd_len _ (by rw [smA_len _ _ _ (by omega)]) _ (by omega)]) hb122 hb120 (glob_keep hG hB) (globP_keep hP hB)) ?_
     rintro e w147 ⟨rfl, hBc⟩
     have hg := grown_call hBc
     replace hB := keepB0 hg hB
     replace hb12 := keepO0 hg hb12
     replace hb20 := keepO0 hg hb20
     replace hb120 := keepO0 hg hb120
     replace hb122 := keepO0 hg hb122
     replace hb146 := keepO0 hg hb146
     refine ⟨fun _ => ⟨hb122, hb120, hB, hb12, hb20, trivial⟩, _, rfl, ?_⟩; intro a ha
     refine T.cc ha rfl rfl (r_call ha [.agg (((tiA (matT (ek.drop 1152)) (eaR fwd (smA r 0 3) 3) 3)).map ei).toArray, .func (.func 43) #[] #[]] rfl Tryz.call38) rfl rfl rfl (c_eachIr (tiA (matT (ek.drop 1152)) (eaR fwd (smA r 0 3) 3) 3) _ (by rw [tiA_len _ _ _ (by omega)]) (glob_keep hG hB) (globP_keep hP hB)) ?_
     rintro e w148 ⟨rfl, hBc⟩
     have hg := grown_call hBc
     replace hB := keepB0 hg hB
     replace hb12 := keepO0 hg hb12
     replace hb20 := keepO0 hg hb20
     replace hb120 := keepO0 hg hb120
     replace hb122 := keepO0 hg hb122
     replace hb146 := keepO0 hg hb146
     refine ⟨fun _ => ⟨hb122, hb120, hB, hb12, hb20, trivial⟩, _, rfl, ?_⟩; intro a ha
     refine T.cc ha rfl rfl (r_call ha [z, en 3] rfl Tryz.call37) rfl rfl rfl (c_smalls z r 3 _ (hsz.below hB) (by first | omega | (rw [List.length_drop]; omega)) (by omega) (glob_keep hG hB)) ?_
     rintro e w149 ⟨rfl, hBc⟩
     have hg := grown_call hBc
     replace hB := keepB0 hg hB
     replace hb12 := keepO0 hg hb12
     replace hb20 := keepO0 hg hb20
     replace hb120 := keepO0 hg hb120
     replace hb122 := keepO0 hg hb122
     replace hb146 := keepO0 hg hb146
     refine ⟨fun _ => ⟨hb122, hb120, hB, hb12, hb20, trivial⟩, _, rfl, ?_⟩; intro a ha
     refine T.cc ha rfl rfl (r_call ha [.agg (((eaR inv (tiA (matT (ek.drop 1152)) (eaR fwd (smA r 0 3) 3) 3) 3)).map ei).toArray, .agg (((smA r 3 3)).map ei).toArray] rfl Tryz.call44) rfl rfl rfl (c_plusR (eaR inv (tiA (matT (ek.drop 1152)) (eaR fwd (smA r 0 3) 3) 3) 3) (smA r 3 3) _ (by rw [eaR_len _ inv_len _ (by rw [tiA_len _ _ _ (by omega)]) _ (by omega)]) (by rw [smA_len _ _ _ (by omega)]) (glob_keep hG hB) (globP_keep hP hB)) ?_
     rintro e w150 ⟨rfl, hBc⟩
     have hg := grown_call hBc
     replace hB := keepB0 hg hB
     replace hb12 := keepO0 hg hb12
     replace hb20 := keepO0 hg hb20
     replace hb120 := keepO0 hg hb120
     replace hb122 := keepO0 hg hb122
     replace hb146 := keepO0 hg hb146
     refine ⟨fun _ => ⟨hb122, hb120, hB, hb12, hb20, trivial⟩, _, rfl, ?_⟩; intro a ha
     refine T.cstoreW ha rfl rfl rfl rfl (one_ei _) Tryz.sizeOf52 (by rw [List.length_map, plR_len _ _ (by rw [eaR_len _ inv_len _ (by rw [tiA_len _ _ _ (by omega)]) _ (by omega)]) _ (by omega)]) hb146 (by rw [List.length_map, List.length_replicate]) rfl ?_
     intro a w151 ha hg hb146'
     replace hb146 := hb146'
     replace hB := keepB1 hg (by omega) hB
     replace hb12 := keepO1 hg (by omega) hb12
     replace hb20 := keepO1 hg (by omega) hb20
     replace hb120 := keepO1 hg (by omega) hb120
     replace hb122 := keepO1 hg (by omega) hb122
     exact T.cfin (hJ36 _ _ b120 b122 b146 (ha.to [1, 2, 6, 7, 8, 10, 11] rfl) hB hb12 hb20 hb120 hb122 hb146 hz120 hz122 hz146 (by omega) (by omega) (by omega) (by omega) (by omega) (by omega) (by omega) (by omega) (by omega))
   ·skip
    refine T.calloc ha rfl rfl zero_52M4 rfl (fun w hg => ⟨keepO0 hg hb120, keepB0 hg hB, keepO0 hg hb12, keepO0 hg hb20, trivial⟩) ?_
    intro a w152 b153 ha hg hb153 hge153 hlt153
    have hz153 := Nat.le_trans hB.size hge153
    have hq12_153 := bl hb12 hge153
    have hq20_153 := bl hb20 hge153
    have hq120_153 := bl hb120 hge153
    replace hB := keepB0 hg hB
    replace hb12 := keepO0 hg hb12
    replace hb20 := keepO0 hg hb20
    replace hb120 := keepO0 hg hb120
    refine T.ccx ha rfl rfl (r_call ha [.func (.func 88) #[] #[.pointer (some ⟨b120, 0, none⟩)]] rfl Tryz.call41) rfl rfl rfl (c_turn b120 (rsl v 1152 ek.length) (ek.drop 1152) _ (Sl.castM (Sl.cutM (lo := 1152) (hi := ek.length) (hs.below hB) (by omega) (by omega)) (cutE _ _ _ rfl)) hb120) ?_
    rintro e w154 ⟨b155, rfl, hBc, hb155, hge155⟩
    have hg := grown_call hBc
    have hz155 := Nat.le_trans hB.size hge155
    have hq12_155 := bl hb12 hge155
    have hq20_155 := bl hb20 hge155
    have hq120_155 := bl hb120 hge155
    have hq153_155 := bl hb153 hge155
    replace hB := keepB0 hg hB
    replace hb12 := keepO0 hg hb12
    replace hb20 := keepO0 hg hb20
    replace hb120 := keepO0 hg hb120
    replace hb153 := keepO0 hg hb153
    refine ⟨fun w => (w.heap[b155]? = some (.cells (([.func (.func 88) #[] #[.pointer (some ⟨b120, 0, none⟩)]] : List Value)).toArray 58 (0, 0))) ∧ (w.heap[b120]? = some (.cells ([rsl v 1152 ek.length]).toArray 22 (0, 0))) ∧ Below w0.heap.size w0 w ∧ w.heap[b12]? = some (.cells ((unR 12 (ek.take 1152) 3).map ei).toArray 52 (0, 0)) ∧ w.heap[b20]? = some (.cells ((eaR fwd (smA r 0 3) 3).map ei).toArray 52 (0, 0)) ∧ True, fun w h => h.2, fun _ => ⟨hb155, hb120, hB, hb12, hb20, trivial⟩, _, rfl, ?_⟩; intro a ha
    refine T.cc ha rfl rfl (r_call ha [.func (.func 90) #[] #[.pointer (some ⟨b155, 0, none⟩)], .agg (((eaR fwd (smA r 0 3) 3)).map ei).toArray] rfl Tryz.call42) rfl rfl rfl (c_timesT b155 b120 (rsl v 1152 ek.length) (ek.drop 1152) (eaR fwd (smA r 0 3) 3) _ (Sl.castM (Sl.cutM (lo := 1152) (hi := ek.length) (hs.below hB) (by omega) (by omega)) (cutE _ _ _ rfl)) (by first | omega | (rw [List.length_drop]; omega)) (by rw [eaR_len _ fwd_len _ (by rw [smA_len _ _ _ (by omega)]) _ (by omega)]) hb155 hb120 (glob_keep hG hB) (globP_keep hP hB)) ?_
    rintro e w156 ⟨rfl, hBc⟩
    have hg := grown_call hBc
    replace hB := keepB0 hg hB
    replace hb12 := keepO0 hg hb12
    replace hb20 := keepO0 hg hb20
    replace hb120 := keepO0 hg hb120
    replace hb153 := keepO0 hg hb153
    replace hb155 := keepO0 hg hb155
    refine ⟨fun _ => ⟨hb155, hb120, hB, hb12, hb20, trivial⟩, _, rfl, ?_⟩; intro a ha
    refine T.cc ha rfl rfl (r_call ha [.agg (((tiA (matT (ek.drop 1152)) (eaR fwd (smA r 0 3) 3) 3)).map ei).toArray, .func (.func 43) #[] #[]] rfl Tryz.call38) rfl rfl rfl (c_eachIr (tiA (matT (ek.drop 1152)) (eaR fwd (smA r 0 3) 3) 3) _ (by rw [tiA_len _ _ _ (by omega)]) (glob_keep hG hB) (globP_keep hP hB)) ?_
    rintro e w157 ⟨rfl, hBc⟩
    have hg := grown_call hBc
    replace hB := keepB0 hg hB
    replace hb12 := keepO0 hg hb12
    replace hb20 := keepO0 hg hb20
    replace hb120 := keepO0 hg hb120
    replace hb153 := keepO0 hg hb153
    replace hb155 := keepO0 hg hb155
    refine ⟨fun _ => ⟨hb155, hb120, hB, hb12, hb20, trivial⟩, _, rfl, ?_⟩; intro a ha
    refine T.cc ha rfl rfl (r_call ha [z, en 3] rfl Tryz.call37) rfl rfl rfl (c_smalls z r 3 _ (hsz.below hB) (by first | omega | (rw [List.length_drop]; omega)) (by omega) (glob_keep hG hB)) ?_
    rintro e w158 ⟨rfl, hBc⟩
    have hg := grown_call hBc
    replace hB := keepB0 hg hB
    replace hb12 := keepO0 hg hb12
    replace hb20 := keepO0 hg hb20
    replace hb120 := keepO0 hg hb120
    replace hb153 := keepO0 hg hb153
    replace hb155 := keepO0 hg hb155
    refine ⟨fun _ => ⟨hb155, hb120, hB, hb12, hb20, trivial⟩, _, rfl, ?_⟩; intro a ha
    refine T.cc ha rfl rfl (r_call ha [.agg (((eaR inv (tiA (matT (ek.drop 1152)) (eaR fwd (smA r 0 3) 3) 3) 3)).map ei).toArray, .agg (((smA r 3 3)).map ei).toArray] rfl Tryz.call44) rfl rfl rfl (c_plusR (eaR inv (tiA (matT (ek.drop 1152)) (eaR fwd (smA r 0 3) 3) 3) 3) (smA r 3 3) _ (by rw [eaR_len _ inv_len _ (by rw [tiA_len _ _ _ (by omega)]) _ (by omega)]) (by rw [smA_len _ _ _ (by omega)]) (glob_keep hG hB) (globP_keep hP hB)) ?_
    rintro e w159 ⟨rfl, hBc⟩
    have hg := grown_call hBc
    replace hB := keepB0 hg hB
    replace hb12 := keepO0 hg hb12
    replace hb20 := keepO0 hg hb20
    replace hb120 := keepO0 hg hb120
    replace hb153 := keepO0 hg hb153
    replace hb155 := keepO0 hg hb155
    refine ⟨fun _ => ⟨hb155, hb120, hB, hb12, hb20, trivial⟩, _, rfl, ?_⟩; intro a ha
    refine T.cstoreW ha rfl rfl rfl rfl (one_ei _) Tryz.sizeOf52 (by rw [List.length_map, plR_len _ _ (by rw [eaR_len _ inv_len _ (by rw [tiA_len _ _ _ (by omega)]) _ (by omega)]) _ (by omega)]) hb153 (by rw [List.length_map, List.length_replicate]) rfl ?_
    intro a w160 ha hg hb153'
    replace hb153 := hb153'
    replace hB := keepB1 hg (by omega) hB
    replace hb12 := keepO1 hg (by omega) hb12
    replace hb20 := keepO1 hg (by omega) hb20
    replace hb120 := keepO1 hg (by omega) hb120
    replace hb155 := keepO1 hg (by omega) hb155
    exact T.cfin (hJ36 _ _ b120 b155 b153 (ha.to [1, 2, 6, 7, 8, 10, 11] rfl) hB hb12 hb20 hb120 hb155 hb153 hz120 hz155 hz153 (by omega) (by omega) (by omega) (by omega) (by omega) (by omega) (by omega) (by omega) (by omega))
  ·skip
   refine T.calloc ha rfl rfl zero_52M4 rfl (fun w hg => ⟨keepB0 hg hB, keepO0 hg hb12, keepO0 hg hb20, trivial⟩) ?_
   intro a w161 b162 ha hg hb162 hge162 hlt162
   have hz162 := Nat.le_trans hB.size hge162
   have hq12_162 := bl hb12 hge162
   have hq20_162 := bl hb20 hge162
   replace hB := keepB0 hg hB
   replace hb12 := keepO0 hg hb12
   replace hb20 := keepO0 hg hb20
   refine T.ccx ha rfl rfl (r_call ha [(rsl v 1152 ek.length)] rfl Tryz.call40) rfl rfl rfl (c_matrix (rsl v 1152 ek.length) (ek.drop 1152) _ (Sl.castM (Sl.cutM (lo := 1152) (hi := ek.length) (hs.below hB) (by omega) (by omega)) (cutE _ _ _ rfl))) ?_
   rintro e w163 ⟨b164, rfl, hBc, hb164, hge164⟩
   have hg := grown_call hBc
   have hz164 := Nat.le_trans hB.size hge164
   have hq12_164 := bl hb12 hge164
   have hq20_164 := bl hb20 hge164
   have hq162_164 := bl hb162 hge164
   replace hB := keepB0 hg hB
   replace hb12 := keepO0 hg hb12
   replace hb20 := keepO0 hg hb20
   replace hb162 := keepO0 hg hb162
   refine ⟨fun w => (w.heap[b164]? = some (.cells ([rsl v 1152 ek.length]).toArray 22 (0, 0))) ∧ Below w0.heap.size w0 w ∧ w.heap[b12]? = some (.cells ((unR 12 (ek.take 1152) 3).map ei).toArray 52 (0, 0)) ∧ w.heap[b20]? = some (.cells ((eaR fwd (smA r 0 3) 3).map ei).toArray 52 (0, 0)) ∧ True, fun w h => h.2, fun _ => ⟨hb164, hB, hb12, hb20, trivial⟩, _, rfl, ?_⟩; intro a ha
   refine T.ccx ha rfl rfl (r_call ha [.func (.func 88) #[] #[.pointer (some ⟨b164, 0, none⟩)]] rfl Tryz.call41) rfl rfl rfl (c_turn b164 (rsl v 1152 ek.length) (ek.drop 1152) _ (Sl.castM (Sl.cutM (lo := 1152) (hi := ek.length) (hs.below hB) (by omega) (by omega)) (cutE _ _ _ rfl)) hb164) ?_
   rintro e w165 ⟨b166, rfl, hBc, hb166, hge166⟩
   have hg := grown_call hBc
   have hz166 := Nat.le_trans hB.size hge166
   have hq12_166 := bl hb12 hge166
   have hq20_166 := bl hb20 hge166
   have hq162_166 := bl hb162 hge166
   have hq164_166 := bl hb164 hge166
   replace hB := keepB0 hg hB
   replace hb12 := keepO0 hg hb12
   replace hb20 := keepO0 hg hb20
   replace hb162 := keepO0 hg hb162
   replace hb164 := keepO0 hg hb164
   refine ⟨fun w => (w.heap[b166]? = some (.cells (([.func (.func 88) #[] #[.pointer (some ⟨b164, 0, none⟩)]] : List Value)).toArray 58 (0, 0))) ∧ (w.heap[b164]? = some (.cells ([rsl v 1152 ek.length]).toArray 22 (0, 0))) ∧ Below w0.heap.size w0 w ∧ w.heap[b12]? = some (.cells ((unR 12 (ek.take 1152) 3).map ei).toArray 52 (0, 0)) ∧ w.heap[b20]? = some (.cells ((eaR fwd (smA r 0 3) 3).map ei).toArray 52 (0, 0)) ∧ True, fun w h => h.2, fun _ => ⟨hb166, hb164, hB, hb12, hb20, trivial⟩, _, rfl, ?_⟩; intro a ha
   refine T.cc ha rfl rfl (r_call ha [.func (.func 90) #[] #[.pointer (some ⟨b166, 0, none⟩)], .agg (((eaR fwd (smA r 0 3) 3)).map ei).toArray] rfl Tryz.call42) rfl rfl rfl (c_timesT b166 b164 (rsl v 1152 ek.length) (ek.drop 1152) (eaR fwd (smA r 0 3) 3) _ (Sl.castM (Sl.cutM (lo := 1152) (hi := ek.length) (hs.below hB) (by omega) (by omega)) (cutE _ _ _ rfl)) (by first | omega | (rw [List.length_drop]; omega)) (by rw [eaR_len _ fwd_len _ (by rw [smA_len _ _ _ (by omega)]) _ (by omega)]) hb166 hb164 (glob_keep hG hB) (globP_keep hP hB)) ?_
   rintro e w167 ⟨rfl, hBc⟩
   have hg := grown_call hBc
   replace hB := keepB0 hg hB
   replace hb12 := keepO0 hg hb12
   replace hb20 := keepO0 hg hb20
   replace hb162 := keepO0 hg hb162
   replace hb164 := keepO0 hg hb164
   replace hb166 := keepO0 hg hb166
   refine ⟨fun _ => ⟨hb166, hb164, hB, hb12, hb20, trivial⟩, _, rfl, ?_⟩; intro a ha
   refine T.cc ha rfl rfl (r_call ha [.agg (((tiA (matT (ek.drop 1152)) (eaR fwd (smA r 0 3) 3) 3)).map ei).toArray, .func (.func 43) #[] #[]] rfl Tryz.call38) rfl rfl rfl (c_eachIr (tiA (matT (ek.drop 1152)) (eaR fwd (smA r 0 3) 3) 3) _ (by rw [tiA_len _ _ _ (by omega)]) (glob_keep hG hB) (globP_keep hP hB)) ?_
   rintro e w168 ⟨rfl, hBc⟩
   have hg := grown_call hBc
   replace hB := keepB0 hg hB
   replace hb12 := keepO0 hg hb12
   replace hb20 := keepO0 hg hb20
   replace hb162 := keepO0 hg hb162
   replace hb164 := keepO0 hg hb164
   replace hb166 := keepO0 hg hb166
   refine ⟨fun _ => ⟨hb166, hb164, hB, hb12, hb20, trivial⟩, _, rfl, ?_⟩; intro a ha
   refine T.cc ha rfl rfl (r_call ha [z, en 3] rfl Tryz.call37) rfl rfl rfl (c_smalls z r 3 _ (hsz.below hB) (by first | omega | (rw [List.length_drop]; omega)) (by omega) (glob_keep hG hB)) ?_
   rintro e w169 ⟨rfl, hBc⟩
   have hg := grown_call hBc
   replace hB := keepB0 hg hB
   replace hb12 := keepO0 hg hb12
   replace hb20 := keepO0 hg hb20
   replace hb162 := keepO0 hg hb162
   replace hb164 := keepO0 hg hb164
   replace hb166 := keepO0 hg hb166
   refine ⟨fun _ => ⟨hb166, hb164, hB, hb12, hb20, trivial⟩, _, rfl, ?_⟩; intro a ha
   refine T.cc ha rfl rfl (r_call ha [.agg (((eaR inv (tiA (matT (ek.drop 1152)) (eaR fwd (smA r 0 3) 3) 3) 3)).map ei).toArray, .agg (((smA r 3 3)).map ei).toArray] rfl Tryz.call44) rfl rfl rfl (c_plusR (eaR inv (tiA (matT (ek.drop 1152)) (eaR fwd (smA r 0 3) 3) 3) 3) (smA r 3 3) _ (by rw [eaR_len _ inv_len _ (by rw [tiA_len _ _ _ (by omega)]) _ (by omega)]) (by rw [smA_len _ _ _ (by omega)]) (glob_keep hG hB) (globP_keep hP hB)) ?_
   rintro e w170 ⟨rfl, hBc⟩
   have hg := grown_call hBc
   replace hB := keepB0 hg hB
   replace hb12 := keepO0 hg hb12
   replace hb20 := keepO0 hg hb20
   replace hb162 := keepO0 hg hb162
   replace hb164 := keepO0 hg hb164
   replace hb166 := keepO0 hg hb166
   refine ⟨fun _ => ⟨hb166, hb164, hB, hb12, hb20, trivial⟩, _, rfl, ?_⟩; intro a ha
   refine T.cstoreW ha rfl rfl rfl rfl (one_ei _) Tryz.sizeOf52 (by rw [List.length_map, plR_len _ _ (by rw [eaR_len _ inv_len _ (by rw [tiA_len _ _ _ (by omega)]) _ (by omega)]) _ (by omega)]) hb162 (by rw [List.length_map, List.length_replicate]) rfl ?_
   intro a w171 ha hg hb162'
   replace hb162 := hb162'
   replace hB := keepB1 hg (by omega) hB
   replace hb12 := keepO1 hg (by omega) hb12
   replace hb20 := keepO1 hg (by omega) hb20
   replace hb164 := keepO1 hg (by omega) hb164
   replace hb166 := keepO1 hg (by omega) hb166
   exact T.cfin (hJ36 _ _ b164 b166 b162 (ha.to [1, 2, 6, 7, 8, 10, 11] rfl) hB hb12 hb20 hb164 hb166 hb162 hz164 hz166 hz162 (by omega) (by omega) (by omega) (by omega) (by omega) (by omega) (by omega) (by omega) (by omega))
 refine regionT (S := fun w => Below w0.heap.size w0 w ∧ True) [] [0, 1, 3, 4, 7] (.op 0 (.op 1 (.op 3 (.op 4 (.two 2 (.op 5 (.op 6 (.op 7 .fin))) 5 (.op 2 (.op 6 (.op 7 .fin)))))))) mixed (by kernel_rfl) (fun w hg => ⟨keepB0 hg hB, trivial⟩) ?_
 intro w9 hg
 replace hB := keepB0 hg hB
 refine T.c4 ha rfl (cmv rfl) (fun w ⟨hB, _⟩ _ ha => r_resl (C := (ek).map e8) ha 0 1152 Tryz.runUnderlying22 Tryz.sizeOf5 (hs.below hB) rfl rfl rfl (by omega) (by rw [List.length_map]; exact (by omega))) (cmv rfl) (fun w ⟨hB, _⟩ _ ha => r_resl (C := (ek).map e8) ha 1152 ek.length Tryz.runUnderlying22 Tryz.sizeOf5 (hs.below hB) rfl rfl (show ek.length = _ by rw [List.length_map]) (by omega) (by rw [List.length_map]; exact (by omega))) ?_; intro a ha
 refine T.two ?_ ?_
 ·skip
  refine T.cc ha rfl rfl (r_call ha [en 12, (rsl v 0 1152)] rfl Tryz.call36) rfl rfl rfl (c_unpackR 12 (rsl v 0 1152) (ek.take 1152) _ (by omega) (Sl.castM (Sl.cutM (lo := 0) (hi := 1152) (hs.below hB) (by omega) (by omega)) (cut0 _ _)) (by rw [List.length_take]; omega)) ?_
  rintro e w172 ⟨rfl, hBc⟩
  have hg := grown_call hBc
  replace hB := keepB0 hg hB
  refine ⟨fun _ => ⟨hB, trivial⟩, _, rfl, ?_⟩; intro a ha
  refine T.calloc ha rfl rfl zero_52M4 rfl (fun w hg => ⟨keepB0 hg hB, trivial⟩) ?_
  intro a w173 b174 ha hg hb174 hge174 hlt174
  have hz174 := Nat.le_trans hB.size hge174
  replace hB := keepB0 hg hB
  refine T.cstoreWS ha rfl rfl rfl rfl (one_ei _) Tryz.sizeOf52 (by rw [List.length_map, unR_len _ _ _ (by omega)]) hb174 (by rw [List.length_map, List.length_replicate]) (fun w hg => ⟨keepB1 hg (by omega) hB, trivial⟩) ?_
  intro a w175 ha hg hb174'
  replace hb174 := hb174'
  replace hB := keepB1 hg (by omega) hB
  refine T.c1 ha rfl (cav rfl) ?_; intro a ha
  exact T.cfin (hJ14 _ _ b174 (ha.to [1, 2, 6, 7, 8, 9] rfl) hB hb174 hz174)
 ·skip
  refine T.calloc ha rfl rfl zero_52M4 rfl (fun w hg => ⟨keepB0 hg hB, trivial⟩) ?_
  intro a w176 b177 ha hg hb177 hge177 hlt177
  have hz177 := Nat.le_trans hB.size hge177
  replace hB := keepB0 hg hB
  refine T.cc ha rfl rfl (r_call ha [en 12, (rsl v 0 1152)] rfl Tryz.call36) rfl rfl rfl (c_unpackR 12 (rsl v 0 1152) (ek.take 1152) _ (by omega) (Sl.castM (Sl.cutM (lo := 0) (hi := 1152) (hs.below hB) (by omega) (by omega)) (cut0 _ _)) (by rw [List.length_take]; omega)) ?_
  rintro e w178 ⟨rfl, hBc⟩
  have hg := grown_call hBc
  replace hB := keepB0 hg hB
  replace hb177 := keepO0 hg hb177
  refine ⟨fun _ => ⟨hB, trivial⟩, _, rfl, ?_⟩; intro a ha
  refine T.cstoreWS ha rfl rfl rfl rfl (one_ei _) Tryz.sizeOf52 (by rw [List.length_map, unR_len _ _ _ (by omega)]) hb177 (by rw [List.length_map, List.length_replicate]) (fun w hg => ⟨keepB1 hg (by omega) hB, trivial⟩) ?_
  intro a w179 ha hg hb177'
  replace hb177 := hb177'
  replace hB := keepB1 hg (by omega) hB
  refine T.c1 ha rfl (cav rfl) ?_; intro a ha
  exact T.cfin (hJ14 _ _ b177 (ha.to [1, 2, 6, 7, 8, 9] rfl) hB hb177 hz177)

theorem c_dec1 (v u : Value) (dk c : List UInt8) (w0 : World) (hs : Sl w0 v (dk.map e8)) (hsu : Sl w0 u (c.map e8)) (h1 : dk.length = 1152) (h2 : c.length = 1088) (hG : Glob w0) (hP : GlobP w0) :
    Calls Tryz.prog 15 #[v, u] w0 fun e w' => ∃ u0 : Value, e = .returned (.tuple #[u0, en 0]) ∧ Below w0.heap.size w0 w' ∧ Sl w' u0 ((dec1 dk c).map e8) ∧ (∀ j, u0.ownBlock = some j → w0.heap.size ≤ j) := by
 refine enter (args := [_, _]) Tryz.func15 rfl Tryz.ntmps15 rfl ?_
 intro a ha
 have hB := Below.refl w0.heap.size w0
 refine qr fun K1 k2 => ?_
 refine s2 ha rfl (av rfl) (av rfl) ?_; intro a ha
 refine k2 _ _ ?_
 refine wp_seq_k fun K3 k4 => ?_
 refine qr fun K5 k6 => ?_
 refine s4 ha rfl (mv rfl) (fun _ ha => r_lenS ha Tryz.runUnderlying22 (hs.below hB) rfl (by rw [List.length_map])) (fun _ ha => r_neq ha ((dk.length : Nat) : Int) 1152 false rfl rfl (decide_eq_false (by omega))) (mv rfl) ?_; intro a ha
 refine svg ha (r_move ha rfl) rfl rfl rfl rfl rfl ?_; intro a ha
 refine svg ha (r_lenS ha Tryz.runUnderlying22 (hsu.below hB) rfl (by rw [List.length_map])) rfl rfl rfl rfl rfl ?_; intro a ha
 refine svg ha (r_neq ha ((c.length : Nat) : Int) 1088 false rfl rfl (decide_eq_false (by omega))) rfl rfl rfl rfl rfl ?_; intro a ha
 refine s1 ha rfl (fun _ ha => r_pick ha false rfl rfl) ?_; intro a ha
 refine k6 _ _ ?_
 refine cond_f ha rfl ?_
 refine wp_skip ?_
 refine k4 _ _ ?_
 refine qr fun K7 k8 => ?_
 refine s1 ha rfl (av rfl) ?_; intro a ha
 refine k8 _ _ ?_
 refine qr fun K9 k10 => ?_
 refine s2 ha rfl (mv rfl) (fun _ ha => r_resl (C := (c).map e8) ha 0 960 Tryz.runUnderlying22 Tryz.sizeOf5 (hsu.below hB) rfl rfl rfl (by omega) (by rw [List.length_map]; exact (by omega))) ?_; intro a ha
 refine scp ha (r_call ha [en 10, (rsl u 0 960)] rfl Tryz.call36) rfl rfl rfl (c_unpackR 10 (rsl u 0 960) (c.take 960) _ (by omega) (Sl.castM (Sl.cutM (lo := 0) (hi := 960) (hsu.below hB) (by omega) (by omega)) (cut0 _ _)) (by rw [List.length_take]; omega)) ?_; intro w11 hg a ha
 replace hB := keepB0 hg hB
 refine s1 ha rfl (mv rfl) ?_; intro a ha
 refine scp ha (r_call ha [.agg (((unR 10 (c.take 960) 3)).map ei).toArray, .func (.func 60) #[] #[]] rfl Tryz.call38) rfl rfl rfl (c_eachDr (unR 10 (c.take 960) 3) _ (by rw [unR_len _ _ _ (by omega)]) (glob_keep hG hB) (globP_keep hP hB)) ?_; intro w12 hg a ha
 replace hB := keepB0 hg hB
 refine salloc ha zero_52M4 rfl ?_
 intro a w13 b14 ha hg hb14 hge14 hlt14
 have hz14 := Nat.le_trans hB.size hge14
 replace hB := keepB0 hg hB
 refine sstoreW ha rfl rfl (one_ei _) Tryz.sizeOf52 (by rw [List.length_map, eaR_len _ fsp_len _ (by rw [unR_len _ _ _ (by omega)]) _ (by omega)]) hb14 (by rw [List.length_map, List.length_replicate]) ?_
 intro a w15 ha hg hb14'
 replace hb14 := hb14'
 replace hB := keepB1 hg (by omega) hB
 refine k10 _ _ ?_
 refine qr fun K16 k17 => ?_
 refine s2 ha rfl (mv rfl) (fun _ ha => r_resl (C := (c).map e8) ha 960 c.length Tryz.runUnderlying22 Tryz.sizeOf5 (hsu.below hB) rfl rfl (show c.length = _ by rw [List.length_map]) (by omega) (by rw [List.length_map]; exact (by omega))) ?_; intro a ha
 refine scp ha (r_call ha [en 4, (rsl u 960 c.length)] rfl Tryz.call45) rfl rfl rfl (c_unpack1 4 (rsl u 960 c.length) (c.drop 960) _ (by omega) (Sl.castM (Sl.cutM (lo := 960) (hi := c.length) (hsu.below hB) (by omega) (by omega)) (cutE _ _ _ rfl)) (by rw [List.length_drop]; omega)) ?_; intro w18 hg a ha
 replace hB := keepB0 hg hB
 replace hb14 := keepO0 hg hb14
 refine s3 ha rfl (mv rfl) (fun _ ha => r_extract ha (vs := #[.agg ((unA 4 (c.drop 960) 256).map ei).toArray, en 0]) rfl rfl) (fun _ ha => r_extract ha (vs := #[.agg ((unA 4 (c.drop 960) 256).map ei).toArray, en 0]) rfl rfl) ?_; intro a ha
 refine salloc ha zero_50M4 rfl ?_
 intro a w19 b20 ha hg hb20 hge20 hlt20
 have hz20 := Nat.le_trans hB.size hge20
 have hq14_20 := bl hb14 hge20
 replace hB := keepB0 hg hB
 replace hb14 := keepO0 hg hb14
 refine sstoreW ha rfl rfl (one_ei _) Tryz.sizeOf50 (by rw [List.length_map, unA_len]) hb20 (by rw [List.length_map, List.length_replicate]) ?_
 intro a w21 ha hg hb20'
 replace hb20 := hb20'
 replace hB := keepB1 hg (by omega) hB
 replace hb14 := keepO1 hg (by omega) hb14
 refine s1 ha rfl (av rfl) ?_; intro a ha
 refine k17 _ _ ?_
 refine wp_seq_k fun K22 k23 => ?_
 have hJ33 : ∀ (a : Act) (w33 : World) (b31 : Nat), Has 41 [(10, .pointer (some ⟨b31, 0, none⟩))] a → (Below w0.heap.size w0 w33) → (w33.heap[b14]? = some (.cells ((eaR fsp (unR 10 (c.take 960) 3) 3).map ei).toArray 52 (0, 0))) → (w33.heap[b20]? = some (.cells ((unA 4 (c.drop 960) 256).map ei).toArray 50 (0, 0))) → (w33.heap[b31]? = some (.cells ((mi (spA 4 (unA 4 (c.drop 960) 256) 256) (inv (dotA (unR 12 dk 3) (eaR fsp (unR 10 (c.take 960) 3) 3) 3))).map ei).toArray 50 (0, 0))) → (w0.heap.size ≤ b31) → (b31 ≠ b14) → (b31 ≠ b20) → K22 a w33 := by
  intro a w33 b31 ha hB hb14 hb20 hb31 hzb31 hqb31_b14 hqb31_b20
  refine k23 _ _ ?_
  refine qr fun K34 k35 => ?_
  refine s1 ha rfl (fun _ ha => r_loadR ha rfl Tryz.isAgg50 Tryz.sizeOf50 (C := (mi (spA 4 (unA 4 (c.drop 960) 256) 256) (inv (dotA (unR 12 dk 3) (eaR fsp (unR 10 (c.take 960) 3) 3) 3))).map ei) (by rw [List.length_map, (mi_red _ _ (by rw [spA_len, unA_len])).len]) (cells_all hb31)) ?_; intro a ha
  refine scp ha (r_call ha [ei 1, .agg (((mi (spA 4 (unA 4 (c.drop 960) 256) 256) (inv (dotA (unR 12 dk 3) (eaR fsp (unR 10 (c.take 960) 3) 3) 3)))).map ei).toArray] rfl Tryz.call51) rfl rfl rfl (c_squeeze 1 (mi (spA 4 (unA 4 (c.drop 960) 256) 256) (inv (dotA (unR 12 dk 3) (eaR fsp (unR 10 (c.take 960) 3) 3) 3))) _ (by rw [(mi_red _ _ (by rw [spA_len, unA_len])).len])) ?_; intro w36 hg a ha
  replace hB := keepB0 hg hB
  refine sc ha (r_call ha [en 1, .agg (((sqA 1 (mi (spA 4 (unA 4 (c.drop 960) 256) 256) (inv (dotA (unR 12 dk 3) (eaR fsp (unR 10 (c.take 960) 3) 3) 3))) 256)).map ei).toArray] rfl Tryz.call54) rfl rfl rfl (c_pack1 1 (sqA 1 (mi (spA 4 (unA 4 (c.drop 960) 256) 256) (inv (dotA (unR 12 dk 3) (eaR fsp (unR 10 (c.take 960) 3) 3) 3))) 256) _ (by omega) (by rw [sqA_len, (mi_red _ _ (by rw [spA_len, unA_len])).len])) ?_
  rintro e w37 ⟨u38, rfl, hBc, hs38, hd38⟩
  have hg := grown_call hBc
  replace hd38 : ∀ j, u38.ownBlock = some j → w0.heap.size ≤ j := fun j hj => Nat.le_trans hB.size (hd38 j hj)
  replace hB := keepB0 hg hB
  refine ⟨_, rfl, ?_⟩; intro a ha
  refine s2 ha rfl (av rfl) (av rfl) ?_; intro a ha
  refine k35 _ _ ?_
  refine wp_ret ?_
  exact ret2 ha Tryz.results15 rfl rfl ⟨_, rfl, hB, (Sl.castM (l := paA 1 (sqA 1 (mi (spA 4 (unA 4 (c.drop 960) 256) 256) (inv (dotA (unR 12 dk 3) (eaR fsp (unR 10 (c.take 960) 3) 3) 3))) 256) 256) hs38 rfl), hd38⟩
 refine regionT (S := fun w => Below w0.heap.size w0 w ∧ w.heap[b14]? = some (.cells ((eaR fsp (unR 10 (c.take 960) 3) 3).map ei).toArray 52 (0, 0)) ∧ w.heap[b20]? = some (.cells ((unA 4 (c.drop 960) 256).map ei).toArray 50 (0, 0)) ∧ True) [9] [0, 2, 4] (.op 0 (.op 2 (.op 4 (.two 1 (.two 3 (.two 5 (.two 6 (.two 7 (.op 8 (.op 9 .fin)) 8 (.op 7 (.op 9 .fin))) 8 (.op 6 (.op 7 (.op 9 .fin)))) 8 (.op 5 (.op 6 (.op 7 (.op 9 .fin))))) 8 (.op 3 (.op 5 (.op 6 (.op 7 (.op 9 .fin)))))) 8 (.op 1 (.op 3 (.op 5 (.op 6 (.op 7 (.op 9 .fin)))))))))) mixed (by kernel_rfl) (fun w hg => ⟨keepB0 hg hB, keepO0 hg hb14, keepO0 hg hb20, trivial⟩) ?_
 intro w24 hg
 replace hB := keepB0 hg hB
 replace hb14 := keepO0 hg hb14
 replace hb20 := keepO0 hg hb20
 refine T.c3 ha rfl (fun w ⟨_, _, hb20, _⟩ _ ha => r_loadR ha rfl Tryz.isAgg50 Tryz.sizeOf50 (C := (unA 4 (c.drop 960) 256).map ei) (by rw [List.length_map, unA_len]) (cells_all hb20)) (cmv rfl) (fun w ⟨_, hb14, _⟩ _ ha => r_loadR ha rfl Tryz.isAgg52 Tryz.sizeOf52 (C := (eaR fsp (unR 10 (c.take 960) 3) 3).map ei) (by rw [List.length_map, eaR_len _ fsp_len _ (by rw [unR_len _ _ _ (by omega)]) _ (by omega)]) (cells_all hb14)) ?_; intro a ha
 refine T.two ?_ ?_
 ·skip
  refine T.cc ha rfl rfl (r_call ha [ei 4, .agg (((unA 4 (c.drop 960) 256)).map ei).toArray] rfl Tryz.call49) rfl rfl rfl (c_spread 4 (unA 4 (c.drop 960) 256) _ (by rw [unA_len])) ?_
  rintro e w39 ⟨rfl, hBc⟩
  have hg := grown_call hBc
  replace hB := keepB0 hg hB
  replace hb14 := keepO0 hg hb14
  replace hb20 := keepO0 hg hb20
  refine ⟨fun _ => ⟨hB, hb14, hb20, trivial⟩, _, rfl, ?_⟩; intro a ha
  refine T.two ?_ ?_
  ·skip
   refine T.cc ha rfl rfl (r_call ha [en 12, v] rfl Tryz.call36) rfl rfl rfl (c_unpackR 12 v dk _ (by omega) (hs.below hB) (by omega)) ?_
   rintro e w40 ⟨rfl, hBc⟩
   have hg := grown_call hBc
   replace hB := keepB0 hg hB
   replace hb14 := keepO0 hg hb14
   replace hb20 := keepO0 hg hb20
   refine ⟨fun _ => ⟨hB, hb14, hb20, trivial⟩, _, rfl, ?_⟩; intro a ha
   refine T.two ?_ ?_
   ·skip
    refine T.cc ha rfl rfl (r_call ha [.agg (((unR 12 dk 3)).map ei).toArray, .agg (((eaR fsp (unR 10 (c.take 960) 3) 3)).map ei).toArray] rfl Tryz.call47) rfl rfl rfl (c_dot (unR 12 dk 3) (eaR fsp (unR 10 (c.take 960) 3) 3) _ (by rw [unR_len _ _ _ (by omega)]) (by rw [eaR_len _ fsp_len _ (by rw [unR_len _ _ _ (by omega)]) _ (by omega)]) (glob_keep hG hB) (globP_keep hP hB)) ?_
    rintro e w41 ⟨rfl, hBc⟩
    have hg := grown_call hBc
    replace hB := keepB0 hg hB
    replace hb14 := keepO0 hg hb14
    replace hb20 := keepO0 hg hb20
    refine ⟨fun _ => ⟨hB, hb14, hb20, trivial⟩, _, rfl, ?_⟩; intro a ha
    refine T.two ?_ ?_
    ·skip
     refine T.cc ha rfl rfl (r_call ha [.agg (((dotA (unR 12 dk 3) (eaR fsp (unR 10 (c.take 960) 3) 3) 3)).map ei).toArray] rfl Tryz.call43) rfl rfl rfl (c_inv (dotA (unR 12 dk 3) (eaR fsp (unR 10 (c.take 960) 3) 3) 3) _ (by rw [dotA_len]) (globP_keep hP hB)) ?_
     rintro e w42 ⟨rfl, hBc⟩
     have hg := grown_call hBc
     replace hB := keepB0 hg hB
     replace hb14 := keepO0 hg hb14
     replace hb20 := keepO0 hg hb20
     refine ⟨fun _ => ⟨hB, hb14, hb20, trivial⟩, _, rfl, ?_⟩; intro a ha
     refine T.two ?_ ?_
     ·skip
      refine T.cc ha rfl rfl (r_call ha [.agg (((spA 4 (unA 4 (c.drop 960) 256) 256)).map ei).toArray, .agg (((inv (dotA (unR 12 dk 3) (eaR fsp (unR 10 (c.take 960) 3) 3) 3))).map ei).toArray] rfl Tryz.call61) rfl rfl rfl (c_minus (spA 4 (unA 4 (c.drop 960) 256) 256) (inv (dotA (unR 12 dk 3) (eaR fsp (unR 10 (c.take 960) 3) 3) 3)) _ (by rw [spA_len, unA_len]) (by rw [(inv_red _ (by rw [dotA_len])).len])) ?_
      rintro e w43 ⟨rfl, hBc⟩
      have hg := grown_call hBc
      replace hB := keepB0 hg hB
      replace hb14 := keepO0 hg hb14
      replace hb20 := keepO0 hg hb20
      refine ⟨fun _ => ⟨hB, hb14, hb20, trivial⟩, _, rfl, ?_⟩; intro a ha
      refine T.calloc ha rfl rfl zero_50M4 rfl (fun w hg => ⟨keepB0 hg hB, keepO0 hg hb14, keepO0 hg hb20, trivial⟩) ?_
      intro a w44 b45 ha hg hb45 hge45 hlt45
      have hz45 := Nat.le_trans hB.size hge45
      have hq14_45 := bl hb14 hge45
      have hq20_45 := bl hb20 hge45
      replace hB := keepB0 hg hB
      replace hb14 := keepO0 hg hb14
      replace hb20 := keepO0 hg hb20
      refine T.cstoreW ha rfl rfl rfl rfl (one_ei _) Tryz.sizeOf50 (by rw [List.length_map, (mi_red _ _ (by rw [spA_len, unA_len])).len]) hb45 (by rw [List.length_map, List.length_replicate]) rfl ?_
      intro a w46 ha hg hb45'
      replace hb45 := hb45'
      replace hB := keepB1 hg (by omega) hB
      replace hb14 := keepO1 hg (by omega) hb14
      replace hb20 := keepO1 hg (by omega) hb20
      exact T.cfin (hJ33 _ _ b45 (ha.to [10] rfl) hB hb14 hb20 hb45 hz45 (by omega) (by omega))
     ·skip
      refine T.calloc ha rfl rfl zero_50M4 rfl (fun w hg => ⟨keepB0 hg hB, keepO0 hg hb14, keepO0 hg hb20, trivial⟩) ?_
      intro a w47 b48 ha hg hb48 hge48 hlt48
      have hz48 := Nat.le_trans hB.size hge48
      have hq14_48 := bl hb14 hge48
      have hq20_48 := bl hb20 hge48
      replace hB := keepB0 hg hB
      replace hb14 := keepO0 hg hb14
      replace hb20 := keepO0 hg hb20
      refine T.cc ha rfl rfl (r_call ha [.agg (((spA 4 (unA 4 (c.drop 960) 256) 256)).map ei).toArray, .agg (((inv (dotA (unR 12 dk 3) (eaR fsp (unR 10 (c.take 960) 3) 3) 3))).map ei).toArray] rfl Tryz.call61) rfl rfl rfl (c_minus (spA 4 (unA 4 (c.drop 960) 256) 256) (inv (dotA (unR 12 dk 3) (eaR fsp (unR 10 (c.take 960) 3) 3) 3)) _ (by rw [spA_len, unA_len]) (by rw [(inv_red _ (by rw [dotA_len])).len])) ?_
      rintro e w49 ⟨rfl, hBc⟩
      have hg := grown_call hBc
      replace hB := keepB0 hg hB
      replace hb14 := keepO0 hg hb14
      replace hb20 := keepO0 hg hb20
      replace hb48 := keepO0 hg hb48
      refine ⟨fun _ => ⟨hB, hb14, hb20, trivial⟩, _, rfl, ?_⟩; intro a ha
      refine T.cstoreW ha rfl rfl rfl rfl (one_ei _) Tryz.sizeOf50 (by rw [List.length_map, (mi_red _ _ (by rw [spA_len, unA_len])).len]) hb48 (by rw [List.length_map, List.length_replicate]) rfl ?_
      intro a w50 ha hg hb48'
      replace hb48 := hb48'
      replace hB := keepB1 hg (by omega) hB
      replace hb14 := keepO1 hg (by omega) hb14
      replace hb20 := keepO1 hg (by omega) hb20
      exact T.cfin (hJ33 _ _ b48 (ha.to [10] rfl) hB hb14 hb20 hb48 hz48 (by omega) (by omega))
    ·skip
     refine T.calloc ha rfl rfl zero_50M4 rfl (fun w hg => ⟨keepB0 hg hB, keepO0 hg hb14, keepO0 hg hb20, trivial⟩) ?_
     intro a w51 b52 ha hg hb52 hge52 hlt52
     have hz52 := Nat.le_trans hB.size hge52
     have hq14_52 := bl hb14 hge52
     have hq20_52 := bl hb20 hge52
     replace hB := keepB0 hg hB
     replace hb14 := keepO0 hg hb14
     replace hb20 := keepO0 hg hb20
     refine T.cc ha rfl rfl (r_call ha [.agg (((dotA (unR 12 dk 3) (eaR fsp (unR 10 (c.take 960) 3) 3) 3)).map ei).toArray] rfl Tryz.call43) rfl rfl rfl (c_inv (dotA (unR 12 dk 3) (eaR fsp (unR 10 (c.take 960) 3) 3) 3) _ (by rw [dotA_len]) (globP_keep hP hB)) ?_
     rintro e w53 ⟨rfl, hBc⟩
     have hg := grown_call hBc
     replace hB := keepB0 hg hB
     replace hb14 := keepO0 hg hb14
     replace hb20 := keepO0 hg hb20
     replace hb52 := keepO0 hg hb52
     refine ⟨fun _ => ⟨hB, hb14, hb20, trivial⟩, _, rfl, ?_⟩; intro a ha
     refine T.cc ha rfl rfl (r_call ha [.agg (((spA 4 (unA 4 (c.drop 960) 256) 256)).map ei).toArray, .agg (((inv (dotA (unR 12 dk 3) (eaR fsp (unR 10 (c.take 960) 3) 3) 3))).map ei).toArray] rfl Tryz.call61) rfl rfl rfl (c_minus (spA 4 (unA 4 (c.drop 960) 256) 256) (inv (dotA (unR 12 dk 3) (eaR fsp (unR 10 (c.take 960) 3) 3) 3)) _ (by rw [spA_len, unA_len]) (by rw [(inv_red _ (by rw [dotA_len])).len])) ?_
     rintro e w54 ⟨rfl, hBc⟩
     have hg := grown_call hBc
     replace hB := keepB0 hg hB
     replace hb14 := keepO0 hg hb14
     replace hb20 := keepO0 hg hb20
     replace hb52 := keepO0 hg hb52
     refine ⟨fun _ => ⟨hB, hb14, hb20, trivial⟩, _, rfl, ?_⟩; intro a ha
     refine T.cstoreW ha rfl rfl rfl rfl (one_ei _) Tryz.sizeOf50 (by rw [List.length_map, (mi_red _ _ (by rw [spA_len, unA_len])).len]) hb52 (by rw [List.length_map, List.length_replicate]) rfl ?_
     intro a w55 ha hg hb52'
     replace hb52 := hb52'
     replace hB := keepB1 hg (by omega) hB
     replace hb14 := keepO1 hg (by omega) hb14
     replace hb20 := keepO1 hg (by omega) hb20
     exact T.cfin (hJ33 _ _ b52 (ha.to [10] rfl) hB hb14 hb20 hb52 hz52 (by omega) (by omega))
   ·skip
    refine T.calloc ha rfl rfl zero_50M4 rfl (fun w hg => ⟨keepB0 hg hB, keepO0 hg hb14, keepO0 hg hb20, trivial⟩) ?_
    intro a w56 b57 ha hg hb57 hge57 hlt57
    have hz57 := Nat.le_trans hB.size hge57
    have hq14_57 := bl hb14 hge57
    have hq20_57 := bl hb20 hge57
    replace hB := keepB0 hg hB
    replace hb14 := keepO0 hg hb14
    replace hb20 := keepO0 hg hb20
    refine T.cc ha rfl rfl (r_call ha [.agg (((unR 12 dk 3)).map ei).toArray, .agg (((eaR fsp (unR 10 (c.take 960) 3) 3)).map ei).toArray] rfl Tryz.call47) rfl rfl rfl (c_dot (unR 12 dk 3) (eaR fsp (unR 10 (c.take 960) 3) 3) _ (by rw [unR_len _ _ _ (by omega)]) (by rw [eaR_len _ fsp_len _ (by rw [unR_len _ _ _ (by omega)]) _ (by omega)]) (glob_keep hG hB) (globP_keep hP hB)) ?_
    rintro e w58 ⟨rfl, hBc⟩
    have hg := grown_call hBc
    replace hB := keepB0 hg hB
    replace hb14 := keepO0 hg hb14
    replace hb20 := keepO0 hg hb20
    replace hb57 := keepO0 hg hb57
    refine ⟨fun _ => ⟨hB, hb14, hb20, trivial⟩, _, rfl, ?_⟩; intro a ha
    refine T.cc ha rfl rfl (r_call ha [.agg (((dotA (unR 12 dk 3) (eaR fsp (unR 10 (c.take 960) 3) 3) 3)).map ei).toArray] rfl Tryz.call43) rfl rfl rfl (c_inv (dotA (unR 12 dk 3) (eaR fsp (unR 10 (c.take 960) 3) 3) 3) _ (by rw [dotA_len]) (globP_keep hP hB)) ?_
    rintro e w59 ⟨rfl, hBc⟩
    have hg := grown_call hBc
    replace hB := keepB0 hg hB
    replace hb14 := keepO0 hg hb14
    replace hb20 := keepO0 hg hb20
    replace hb57 := keepO0 hg hb57
    refine ⟨fun _ => ⟨hB, hb14, hb20, trivial⟩, _, rfl, ?_⟩; intro a ha
    refine T.cc ha rfl rfl (r_call ha [.agg (((spA 4 (unA 4 (c.drop 960) 256) 256)).map ei).toArray, .agg (((inv (dotA (unR 12 dk 3) (eaR fsp (unR 10 (c.take 960) 3) 3) 3))).map ei).toArray] rfl Tryz.call61) rfl rfl rfl (c_minus (spA 4 (unA 4 (c.drop 960) 256) 256) (inv (dotA (unR 12 dk 3) (eaR fsp (unR 10 (c.take 960) 3) 3) 3)) _ (by rw [spA_len, unA_len]) (by rw [(inv_red _ (by rw [dotA_len])).len])) ?_
    rintro e w60 ⟨rfl, hBc⟩
    have hg := grown_call hBc
    replace hB := keepB0 hg hB
    replace hb14 := keepO0 hg hb14
    replace hb20 := keepO0 hg hb20
    replace hb57 := keepO0 hg hb57
    refine ⟨fun _ => ⟨hB, hb14, hb20, trivial⟩, _, rfl, ?_⟩; intro a ha
    refine T.cstoreW ha rfl rfl rfl rfl (one_ei _) Tryz.sizeOf50 (by rw [List.length_map, (mi_red _ _ (by rw [spA_len, unA_len])).len]) hb57 (by rw [List.length_map, List.length_replicate]) rfl ?_
    intro a w61 ha hg hb57'
    replace hb57 := hb57'
    replace hB := keepB1 hg (by omega) hB
    replace hb14 := keepO1 hg (by omega) hb14
    replace hb20 := keepO1 hg (by omega) hb20
    exact T.cfin (hJ33 _ _ b57 (ha.to [10] rfl) hB hb14 hb20 hb57 hz57 (by omega) (by omega))
  ·skip
   refine T.calloc ha rfl rfl zero_50M4 rfl (fun w hg => ⟨keepB0 hg hB, keepO0 hg hb14, keepO0 hg hb20, trivial⟩) ?_
   intro a w62 b63 ha hg hb63 hge63 hlt63
   have hz63 := Nat.le_trans hB.size hge63
   have hq14_63 := bl hb14 hge63
   have hq20_63 := bl hb20 hge63
   replace hB := keepB0 hg hB
   replace hb14 := keepO0 hg hb14
   replace hb20 := keepO0 hg hb20
   refine T.cc ha rfl rfl (r_call ha [en 12, v] rfl Tryz.call36) rfl rfl rfl (c_unpackR 12 v dk _ (by omega) (hs.below hB) (by omega)) ?_
   rintro e w64 ⟨rfl, hBc⟩
   have hg := grown_call hBc
   replace hB := keepB0 hg hB
   replace hb14 := keepO0 hg hb14
   replace hb20 := keepO0 hg hb20
   replace hb63 := keepO0 hg hb63
   refine ⟨fun _ => ⟨hB, hb14, hb20, trivial⟩, _, rfl, ?_⟩; intro a ha
   refine T.cc ha rfl rfl (r_call ha [.agg (((unR 12 dk 3)).map ei).toArray, .agg (((eaR fsp (unR 10 (c.take 960) 3) 3)).map ei).toArray] rfl Tryz.call47) rfl rfl rfl (c_dot (unR 12 dk 3) (eaR fsp (unR 10 (c.take 960) 3) 3) _ (by rw [unR_len _ _ _ (by omega)]) (by rw [eaR_len _ fsp_len _ (by rw [unR_len _ _ _ (by omega)]) _ (by omega)]) (glob_keep hG hB) (globP_keep hP hB)) ?_
   rintro e w65 ⟨rfl, hBc⟩
   have hg := grown_call hBc
   replace hB := keepB0 hg hB
   replace hb14 := keepO0 hg hb14
   replace hb20 := keepO0 hg hb20
   replace hb63 := keepO0 hg hb63
   refine ⟨fun _ => ⟨hB, hb14, hb20, trivial⟩, _, rfl, ?_⟩; intro a ha
   refine T.cc ha rfl rfl (r_call ha [.agg (((dotA (unR 12 dk 3) (eaR fsp (unR 10 (c.take 960) 3) 3) 3)).map ei).toArray] rfl Tryz.call43) rfl rfl rfl (c_inv (dotA (unR 12 dk 3) (eaR fsp (unR 10 (c.take 960) 3) 3) 3) _ (by rw [dotA_len]) (globP_keep hP hB)) ?_
   rintro e w66 ⟨rfl, hBc⟩
   have hg := grown_call hBc
   replace hB := keepB0 hg hB
   replace hb14 := keepO0 hg hb14
   replace hb20 := keepO0 hg hb20
   replace hb63 := keepO0 hg hb63
   refine ⟨fun _ => ⟨hB, hb14, hb20, trivial⟩, _, rfl, ?_⟩; intro a ha
   refine T.cc ha rfl rfl (r_call ha [.agg (((spA 4 (unA 4 (c.drop 960) 256) 256)).map ei).toArray, .agg (((inv (dotA (unR 12 dk 3) (eaR fsp (unR 10 (c.take 960) 3) 3) 3))).map ei).toArray] rfl Tryz.call61) rfl rfl rfl (c_minus (spA 4 (unA 4 (c.drop 960) 256) 256) (inv (dotA (unR 12 dk 3) (eaR fsp (unR 10 (c.take 960) 3) 3) 3)) _ (by rw [spA_len, unA_len]) (by rw [(inv_red _ (by rw [dotA_len])).len])) ?_
   rintro e w67 ⟨rfl, hBc⟩
   have hg := grown_call hBc
   replace hB := keepB0 hg hB
   replace hb14 := keepO0 hg hb14
   replace hb20 := keepO0 hg hb20
   replace hb63 := keepO0 hg hb63
   refine ⟨fun _ => ⟨hB, hb14, hb20, trivial⟩, _, rfl, ?_⟩; intro a ha
   refine T.cstoreW ha rfl rfl rfl rfl (one_ei _) Tryz.sizeOf50 (by rw [List.length_map, (mi_red _ _ (by rw [spA_len, unA_len])).len]) hb63 (by rw [List.length_map, List.length_replicate]) rfl ?_
   intro a w68 ha hg hb63'
   replace hb63 := hb63'
   replace hB := keepB1 hg (by omega) hB
   replace hb14 := keepO1 hg (by omega) hb14
   replace hb20 := keepO1 hg (by omega) hb20
   exact T.cfin (hJ33 _ _ b63 (ha.to [10] rfl) hB hb14 hb20 hb63 hz63 (by omega) (by omega))
 ·skip
  refine T.calloc ha rfl rfl zero_50M4 rfl (fun w hg => ⟨keepB0 hg hB, keepO0 hg hb14, keepO0 hg hb20, trivial⟩) ?_
  intro a w69 b70 ha hg hb70 hge70 hlt70
  have hz70 := Nat.le_trans hB.size hge70
  have hq14_70 := bl hb14 hge70
  have hq20_70 := bl hb20 hge70
  replace hB := keepB0 hg hB
  replace hb14 := keepO0 hg hb14
  replace hb20 := keepO0 hg hb20
  refine T.cc ha rfl rfl (r_call ha [ei 4, .agg (((unA 4 (c.drop 960) 256)).map ei).toArray] rfl Tryz.call49) rfl rfl rfl (c_spread 4 (unA 4 (c.drop 960) 256) _ (by rw [unA_len])) ?_
  rintro e w71 ⟨rfl, hBc⟩
  have hg := grown_call hBc
  replace hB := keepB0 hg hB
  replace hb14 := keepO0 hg hb14
  replace hb20 := keepO0 hg hb20
  replace hb70 := keepO0 hg hb70
  refine ⟨fun _ => ⟨hB, hb14, hb20, trivial⟩, _, rfl, ?_⟩; intro a ha
  refine T.cc ha rfl rfl (r_call ha [en 12, v] rfl Tryz.call36) rfl rfl rfl (c_unpackR 12 v dk _ (by omega) (hs.below hB) (by omega)) ?_
  rintro e w72 ⟨rfl, hBc⟩
  have hg := grown_call hBc
  replace hB := keepB0 hg hB
  replace hb14 := keepO0 hg hb14
  replace hb20 := keepO0 hg hb20
  replace hb70 := keepO0 hg hb70
  refine ⟨fun _ => ⟨hB, hb14, hb20, trivial⟩, _, rfl, ?_⟩; intro a ha
  refine T.cc ha rfl rfl (r_call ha [.agg (((unR 12 dk 3)).map ei).toArray, .agg (((eaR fsp (unR 10 (c.take 960) 3) 3)).map ei).toArray] rfl Tryz.call47) rfl rfl rfl (c_dot (unR 12 dk 3) (eaR fsp (unR 10 (c.take 960) 3) 3) _ (by rw [unR_len _ _ _ (by omega)]) (by rw [eaR_len _ fsp_len _ (by rw [unR_len _ _ _ (by omega)]) _ (by omega)]) (glob_keep hG hB) (globP_keep hP hB)) ?_
  rintro e w73 ⟨rfl, hBc⟩
  have hg := grown_call hBc
  replace hB := keepB0 hg hB
  replace hb14 := keepO0 hg hb14
  replace hb20 := keepO0 hg hb20
  replace hb70 := keepO0 hg hb70
  refine ⟨fun _ => ⟨hB, hb14, hb20, trivial⟩, _, rfl, ?_⟩; intro a ha
  refine T.cc ha rfl rfl (r_call ha [.agg (((dotA (unR 12 dk 3) (eaR fsp (unR 10 (c.take 960) 3) 3) 3)).map ei).toArray] rfl Tryz.call43) rfl rfl rfl (c_inv (dotA (unR 12 dk 3) (eaR fsp (unR 10 (c.take 960) 3) 3) 3) _ (by rw [dotA_len]) (globP_keep hP hB)) ?_
  rintro e w74 ⟨rfl, hBc⟩
  have hg := grown_call hBc
  replace hB := keepB0 hg hB
  replace hb14 := keepO0 hg hb14
  replace hb20 := keepO0 hg hb20
  replace hb70 := keepO0 hg hb70
  refine ⟨fun _ => ⟨hB, hb14, hb20, trivial⟩, _, rfl, ?_⟩; intro a ha
  refine T.cc ha rfl rfl (r_call ha [.agg (((spA 4 (unA 4 (c.drop 960) 256) 256)).map ei).toArray, .agg (((inv (dotA (unR 12 dk 3) (eaR fsp (unR 10 (c.take 960) 3) 3) 3))).map ei).toArray] rfl Tryz.call61) rfl rfl rfl (c_minus (spA 4 (unA 4 (c.drop 960) 256) 256) (inv (dotA (unR 12 dk 3) (eaR fsp (unR 10 (c.take 960) 3) 3) 3)) _ (by rw [spA_len, unA_len]) (by rw [(inv_red _ (by rw [dotA_len])).len])) ?_
  rintro e w75 ⟨rfl, hBc⟩
  have hg := grown_call hBc
  replace hB := keepB0 hg hB
  replace hb14 := keepO0 hg hb14
  replace hb20 := keepO0 hg hb20
  replace hb70 := keepO0 hg hb70
  refine ⟨fun _ => ⟨hB, hb14, hb20, trivial⟩, _, rfl, ?_⟩; intro a ha
  refine T.cstoreW ha rfl rfl rfl rfl (one_ei _) Tryz.sizeOf50 (by rw [List.length_map, (mi_red _ _ (by rw [spA_len, unA_len])).len]) hb70 (by rw [List.length_map, List.length_replicate]) rfl ?_
  intro a w76 ha hg hb70'
  replace hb70 := hb70'
  replace hB := keepB1 hg (by omega) hB
  replace hb14 := keepO1 hg (by omega) hb14
  replace hb20 := keepO1 hg (by omega) hb20
  exact T.cfin (hJ33 _ _ b70 (ha.to [10] rfl) hB hb14 hb20 hb70 hz70 (by omega) (by omega))

end Go.Proofs.YtaignhikdfpbbaaGreatDoor

/- WALKS written by gen.py (own program) out of specs. -/
namespace Go.Proofs.YtaignhikdfpbbaaGreatDoor
open Go.RowKit Go.Rx
set_option maxRecDepth 100000
set_option maxHeartbeats 4000000
set_option linter.unusedVariables false
set_option linter.unusedSimpArgs false

theorem zero_44T2 : ∀ w, (zeroValue 44).run Tryz.prog w = .ok (.agg ((List.replicate 256 (0 : Int)).map ei).toArray) w := fun _ => by kernel_rfl
theorem c_rclean (p : List Int) (w0 : World) (hp : p.length = 256) :
    Calls Tryz.prog 78 #[.agg ((p).map ei).toArray] w0 fun e w' => e = .returned (.agg ((cl p).map ei).toArray) ∧ Below w0.heap.size w0 w' := by
 refine enter (args := [_]) Tryz.func78 rfl Tryz.ntmps78 rfl ?_
 intro a ha
 have hB := Below.refl w0.heap.size w0
 refine qr fun K1 k2 => ?_
 refine sbox ha rfl rfl ?_
 intro a w3 b4 ha hg hb4 hge4 hlt4
 have hz4 := Nat.le_trans hB.size hge4
 replace hB := keepB0 hg hB
 refine salloc ha zero_44T2 rfl ?_
 intro a w5 b6 ha hg hb6 hge6 hlt6
 have hz6 := Nat.le_trans hB.size hge6
 have hq4_6 := bl hb4 hge6
 replace hB := keepB0 hg hB
 replace hb4 := keepO0 hg hb4
 refine k2 _ _ ?_
 refine wp_seq_k fun K7 k8 => ?_
 refine qr fun K9 k10 => ?_
 refine s1 ha rfl (av rfl) ?_; intro a ha
 refine k10 _ _ ?_
 refine wp_block ?_
 refine loopG (fun (k : Nat) a w => (k ≤ 256) ∧ Has 15 [(1, .pointer (some ⟨b4, 0, none⟩)), (2, .pointer (some ⟨b6, 0, none⟩)), (3, en k)] a ∧ Below w0.heap.size w0 w ∧ w.heap[b4]? = some (.cells ((eaA (fun x _ => zmod x) p p k).map ei).toArray 44 (0, 0)) ∧ w.heap[b6]? = some (.cells ((List.replicate 256 (0 : Int)).map ei).toArray 44 (0, 0))) (fun k => 256 - k) 0 ⟨(by omega), ha.to [1, 2, 3] rfl, hB, hb4, hb6⟩ ?_
 clear ha a hB hb4 hb6
 intro k a w11 ⟨hkk, ha, hB, hb4, hb6⟩
 refine wp_seq_k fun K12 k13 => ?_
 refine qr fun K14 k15 => ?_
 refine s2 ha rfl (mv rfl) (fun _ ha => r_lss ha ((k : Nat) : Int) 256 (decide (k < 256)) rfl rfl (decide_eq_decide.2 (by omega))) ?_; intro a ha
 refine k15 _ _ ?_
 refine cond_if ha rfl (fun hc16 => ?_) (fun hc16 => ?_)
 ·skip
  replace hc16 := of_decide_eq_true hc16
  refine wp_skip ?_
  refine k13 _ _ ?_
  refine wp_seq_k fun K17 k18 => ?_
  refine wp_block ?_
  refine region ?_
  refine s4 ha rfl (mv rfl) (mv rfl) (fun _ ha => r_indexArr (i := k) ha k Tryz.runUnderlying44 Tryz.sizeOf3 rfl rfl (by omega) (by omega)) (fun _ ha => r_load ha rfl Tryz.isAgg3 (cell_of hb4 (get_map ei (eaA (fun x _ => zmod x) p p k) 0 k (by rw [eaA_len, hp]; omega)))) ?_; intro a ha
  refine scp ha (r_call ha [ei ((eaA (fun x _ => zmod x) p p k).getD k 0)] rfl Tryz.call81) rfl rfl rfl (c_rmod ((eaA (fun x _ => zmod x) p p k).getD k 0) _ ) ?_; intro w19 hg a ha
  replace hB := keepB0 hg hB
  replace hb4 := keepO0 hg hb4
  replace hb6 := keepO0 hg hb6
  refine s1 ha rfl (fun _ ha => r_indexArr (i := k) ha k Tryz.runUnderlying44 Tryz.sizeOf3 rfl rfl (by omega) (by omega)) ?_; intro a ha
  refine sstore ha (v := ei ((zmod ((eaA (fun x _ => zmod x) p p k).getD k 0) : Nat) : Int)) rfl rfl rfl rfl Tryz.sizeOf3 hb4 (by rw [List.length_map, eaA_len, hp]; omega) ?_
  intro a w20 ha hg hb4'
  rw [set_map] at hb4'
  replace hb4 := hb4'
  replace hB := keepB1 hg (by omega) hB
  replace hb6 := keepO1 hg (by omega) hb6
  refine k18 _ _ ?_
  refine region ?_
  refine s3 ha rfl (mv rfl) (fun _ ha => rn_add ha k 1 rfl rfl (by omega)) (av rfl) ?_; intro a ha
  exact ⟨k + 1, by omega, (by omega), ha.to [1, 2, 3] rfl, hB, hb4, hb6⟩
 ·skip
  replace hc16 := of_decide_eq_false hc16
  refine wp_exit ?_
  obtain rfl : k = 256 := by omega
  refine k8 _ _ ?_
  refine qr fun K21 k22 => ?_
  refine s1 ha rfl (fun _ ha => r_loadR ha rfl Tryz.isAgg44 Tryz.sizeOf44 (C := (eaA (fun x _ => zmod x) p p 256).map ei) (by rw [List.length_map, eaA_len, hp]) (cells_all hb4)) ?_; intro a ha
  refine sstoreW ha rfl rfl (one_ei _) Tryz.sizeOf44 (by rw [List.length_map, eaA_len, hp]) hb6 (by rw [List.length_map, List.length_replicate]) ?_
  intro a w23 ha hg hb6'
  replace hb6 := hb6'
  replace hB := keepB1 hg (by omega) hB
  replace hb4 := keepO1 hg (by omega) hb4
  refine k22 _ _ ?_
  refine wp_ret ?_
  exact retC _ ha Tryz.results78 rfl hb6 Tryz.underlying44 rfl (by rw [List.length_map, eaA_len, hp]; kernel_rfl) ⟨rfl, hB⟩

theorem c_rplus (p q : List Int) (w0 : World) (hp : p.length = 256) (hq : q.length = 256) :
    Calls Tryz.prog 33 #[.agg ((p).map ei).toArray, .agg ((q).map ei).toArray] w0 fun e w' => e = .returned (.agg ((pl p q).map ei).toArray) ∧ Below w0.heap.size w0 w' := by
 refine enter (args := [_, _]) Tryz.func33 rfl Tryz.ntmps33 rfl ?_
 intro a ha
 have hB := Below.refl w0.heap.size w0
 refine qr fun K1 k2 => ?_
 refine sbox ha rfl rfl ?_
 intro a w3 b4 ha hg hb4 hge4 hlt4
 have hz4 := Nat.le_trans hB.size hge4
 replace hB := keepB0 hg hB
 refine sbox ha rfl rfl ?_
 intro a w5 b6 ha hg hb6 hge6 hlt6
 have hz6 := Nat.le_trans hB.size hge6
 have hq4_6 := bl hb4 hge6
 replace hB := keepB0 hg hB
 replace hb4 := keepO0 hg hb4
 refine salloc ha zero_44T2 rfl ?_
 intro a w7 b8 ha hg hb8 hge8 hlt8
 have hz8 := Nat.le_trans hB.size hge8
 have hq4_8 := bl hb4 hge8
 have hq6_8 := bl hb6 hge8
 replace hB := keepB0 hg hB
 replace hb4 := keepO0 hg hb4
 replace hb6 := keepO0 hg hb6
 refine k2 _ _ ?_
 refine qr fun K9 k10 => ?_
 refine s1 ha rfl (fun _ ha => r_loadR ha rfl Tryz.isAgg44 Tryz.sizeOf44 (C := (p).map ei) (by rw [List.length_map, hp]) (cells_all hb4)) ?_; intro a ha
 refine scp ha (r_call ha [.agg ((p).map ei).toArray] rfl Tryz.call78) rfl rfl rfl (c_rclean p _ (by rw [hp])) ?_; intro w11 hg a ha
 replace hB := keepB0 hg hB
 replace hb4 := keepO0 hg hb4
 replace hb6 := keepO0 hg hb6
 replace hb8 := keepO0 hg hb8
 refine sstoreW ha rfl rfl (one_ei _) Tryz.sizeOf44 (by rw [List.length_map, (cl_red _ (by rw [hp])).len]) hb4 (by rw [List.length_map, hp]) ?_
 intro a w12 ha hg hb4'
 replace hb4 := hb4'
 replace hB := keepB1 hg (by omega) hB
 replace hb6 := keepO1 hg (by omega) hb6
 replace hb8 := keepO1 hg (by omega) hb8
 refine k10 _ _ ?_
 refine qr fun K13 k14 => ?_
 refine s1 ha rfl (fun _ ha => r_loadR ha rfl Tryz.isAgg44 Tryz.sizeOf44 (C := (q).map ei) (by rw [List.length_map, hq]) (cells_all hb6)) ?_; intro a ha
 refine scp ha (r_call ha [.agg ((q).map ei).toArray] rfl Tryz.call78) rfl rfl rfl (c_rclean q _ (by rw [hq])) ?_; intro w15 hg a ha
 replace hB := keepB0 hg hB
 replace hb4 := keepO0 hg hb4
 replace hb6 := keepO0 hg hb6
 replace hb8 := keepO0 hg hb8
 refine sstoreW ha rfl rfl (one_ei _) Tryz.sizeOf44 (by rw [List.length_map, (cl_red _ (by rw [hq])).len]) hb6 (by rw [List.length_map, hq]) ?_
 intro a w16 ha hg hb6'
 replace hb6 := hb6'
 replace hB := keepB1 hg (by omega) hB
 replace hb4 := keepO1 hg (by omega) hb4
 replace hb8 := keepO1 hg (by omega) hb8
 refine k14 _ _ ?_
 refine wp_seq_k fun K17 k18 => ?_
 refine qr fun K19 k20 => ?_
 refine s1 ha rfl (av rfl) ?_; intro a ha
 refine k20 _ _ ?_
 refine wp_block ?_
 refine loopG (fun (k : Nat) a w => (k ≤ 256) ∧ Has 25 [(2, .pointer (some ⟨b4, 0, none⟩)), (3, .pointer (some ⟨b6, 0, none⟩)), (4, .pointer (some ⟨b8, 0, none⟩)), (5, en k)] a ∧ Below w0.heap.size w0 w ∧ w.heap[b4]? = some (.cells ((rplA (cl p) (cl q) k).map ei).toArray 44 (0, 0)) ∧ w.heap[b6]? = some (.cells ((cl q).map ei).toArray 44 (0, 0)) ∧ w.heap[b8]? = some (.cells ((List.replicate 256 (0 : Int)).map ei).toArray 44 (0, 0))) (fun k => 256 - k) 0 ⟨(by omega), ha.to [2, 3, 4, 5] rfl, hB, hb4, hb6, hb8⟩ ?_
 clear ha a hB hb4 hb6 hb8
 intro k a w21 ⟨hkk, ha, hB, hb4, hb6, hb8⟩
 refine wp_seq_k fun K22 k23 => ?_
 refine qr fun K24 k25 => ?_
 refine s2 ha rfl (mv rfl) (fun _ ha => r_lss ha ((k : Nat) : Int) 256 (decide (k < 256)) rfl rfl (decide_eq_decide.2 (by omega))) ?_; intro a ha
 refine k25 _ _ ?_
 refine cond_if ha rfl (fun hc26 => ?_) (fun hc26 => ?_)
 ·skip
  replace hc26 := of_decide_eq_true hc26
  refine wp_skip ?_
  refine k23 _ _ ?_
  refine wp_seq_k fun K27 k28 => ?_
  refine wp_block ?_
  refine regionD (S := fun w => Below w0.heap.size w0 w ∧ w.heap[b4]? = some (.cells ((rplA (cl p) (cl q) k).map ei).toArray 44 (0, 0)) ∧ w.heap[b6]? = some (.cells ((cl q).map ei).toArray 44 (0, 0)) ∧ w.heap[b8]? = some (.cells ((List.replicate 256 (0 : Int)).map ei).toArray 44 (0, 0)) ∧ True) [10] [0, 1, 2, 3, 4, 5, 6, 7, 8, 9] [0, 1, 2, 3, 4, 5, 6, 7, 8, 9, 10] mixed (by kernel_rfl) (fun w hg => ⟨keepB0 hg hB, keepO0 hg hb4, keepO0 hg hb6, keepO0 hg hb8, trivial⟩) ?_
  intro w29 hg
  replace hB := keepB0 hg hB
  replace hb4 := keepO0 hg hb4
  replace hb6 := keepO0 hg hb6
  replace hb8 := keepO0 hg hb8
  refine c3 ha rfl (cmv rfl) (cmv rfl) (fun w _ _ ha => r_indexArr (i := k) ha k Tryz.runUnderlying44 Tryz.sizeOf3 rfl rfl (by omega) (by omega)) ?_; intro a ha
  have hlt30 := ((show Red (rplA (cl p) (cl q) k) from (rpl_red (cl_red p hp) k))).lt k
  refine c3 ha rfl (fun w ⟨_, hb4, _⟩ _ ha => n_of (r_load ha rfl Tryz.isAgg3 (cell_of hb4 (get_map ei (rplA (cl p) (cl q) k) 0 k (by rw [(rpl_red (cl_red p hp) _).len]; omega)))) (k := tn (rplA (cl p) (cl q) k) k) ((show Red (rplA (cl p) (cl q) k) from (rpl_red (cl_red p hp) k)).tn _)) (cmv rfl) (fun w _ _ ha => r_indexArr (i := k) ha k Tryz.runUnderlying44 Tryz.sizeOf3 rfl rfl (by omega) (by omega)) ?_; intro a ha
  have hlt31 := ((show Red (cl q) from (cl_red q hq))).lt k
  refine c4 ha rfl (fun w ⟨_, _, hb6, _⟩ _ ha => n_of (r_load ha rfl Tryz.isAgg3 (cell_of hb6 (get_map ei (cl q) 0 k (by rw [(cl_red _ (by rw [hq])).len]; omega)))) (k := tn (cl q) k) ((show Red (cl q) from (cl_red q hq)).tn _)) (fun w _ _ ha => rn_add ha (tn (rplA (cl p) (cl q) k) k) (tn (cl q) k) rfl rfl (by omega)) (fun w _ _ ha => rn_rem ha ((tn (rplA (cl p) (cl q) k) k) + (tn (cl q) k)) 3329 rfl rfl (by omega)) (fun w _ _ ha => r_indexArr (i := k) ha k Tryz.runUnderlying44 Tryz.sizeOf3 rfl rfl (by omega) (by omega)) ?_; intro a ha
  refine cstore ha rfl rfl (v := ei ((((tn (rplA (cl p) (cl q) k) k) + (tn (cl q) k)) % 3329 : Nat) : Int)) rfl rfl rfl rfl Tryz.sizeOf3 hb4 (by rw [List.length_map, (rpl_red (cl_red p hp) _).len]; omega) rfl ?_
  intro a w32 ha hg hb4'
  rw [set_map] at hb4'
  replace hb4 := hb4'
  replace hB := keepB1 hg (by omega) hB
  replace hb6 := keepO1 hg (by omega) hb6
  replace hb8 := keepO1 hg (by omega) hb8
  refine cfin (k28 _ _ ?_)
  refine region ?_
  refine s3 ha rfl (mv rfl) (fun _ ha => rn_add ha k 1 rfl rfl (by omega)) (av rfl) ?_; intro a ha
  exact ⟨k + 1, by omega, (by omega), ha.to [2, 3, 4, 5] rfl, hB, hb4, hb6, hb8⟩
 ·skip
  replace hc26 := of_decide_eq_false hc26
  refine wp_exit ?_
  obtain rfl : k = 256 := by omega
  refine k18 _ _ ?_
  refine qr fun K33 k34 => ?_
  refine s1 ha rfl (fun _ ha => r_loadR ha rfl Tryz.isAgg44 Tryz.sizeOf44 (C := (rplA (cl p) (cl q) 256).map ei) (by rw [List.length_map, (rpl_red (cl_red p hp) _).len]) (cells_all hb4)) ?_; intro a ha
  refine sstoreW ha rfl rfl (one_ei _) Tryz.sizeOf44 (by rw [List.length_map, (rpl_red (cl_red p hp) _).len]) hb8 (by rw [List.length_map, List.length_replicate]) ?_
  intro a w35 ha hg hb8'
  replace hb8 := hb8'
  replace hB := keepB1 hg (by omega) hB
  replace hb4 := keepO1 hg (by omega) hb4
  refine k34 _ _ ?_
  refine wp_ret ?_
  exact retC _ ha Tryz.results33 rfl hb8 Tryz.underlying44 rfl (by rw [List.length_map, (rpl_red (cl_red p hp) _).len]; kernel_rfl) ⟨(by rw [pl_eq p q hp hq]), hB⟩

theorem c_rminus (p q : List Int) (w0 : World) (hp : p.length = 256) (hq : q.length = 256) :
    Calls Tryz.prog 63 #[.agg ((p).map ei).toArray, .agg ((q).map ei).toArray] w0 fun e w' => e = .returned (.agg ((mi p q).map ei).toArray) ∧ Below w0.heap.size w0 w' := by
 refine enter (args := [_, _]) Tryz.func63 rfl Tryz.ntmps63 rfl ?_
 intro a ha
 have hB := Below.refl w0.heap.size w0
 refine qr fun K1 k2 => ?_
 refine sbox ha rfl rfl ?_
 intro a w3 b4 ha hg hb4 hge4 hlt4
 have hz4 := Nat.le_trans hB.size hge4
 replace hB := keepB0 hg hB
 refine sbox ha rfl rfl ?_
 intro a w5 b6 ha hg hb6 hge6 hlt6
 have hz6 := Nat.le_trans hB.size hge6
 have hq4_6 := bl hb4 hge6
 replace hB := keepB0 hg hB
 replace hb4 := keepO0 hg hb4
 refine salloc ha zero_44T2 rfl ?_
 intro a w7 b8 ha hg hb8 hge8 hlt8
 have hz8 := Nat.le_trans hB.size hge8
 have hq4_8 := bl hb4 hge8
 have hq6_8 := bl hb6 hge8
 replace hB := keepB0 hg hB
 replace hb4 := keepO0 hg hb4
 replace hb6 := keepO0 hg hb6
 refine k2 _ _ ?_
 refine qr fun K9 k10 => ?_
 refine s1 ha rfl (fun _ ha => r_loadR ha rfl Tryz.isAgg44 Tryz.sizeOf44 (C := (p).map ei) (by rw [List.length_map, hp]) (cells_all hb4)) ?_; intro a ha
 refine scp ha (r_call ha [.agg ((p).map ei).toArray] rfl Tryz.call78) rfl rfl rfl (c_rclean p _ (by rw [hp])) ?_; intro w11 hg a ha
 replace hB := keepB0 hg hB
 replace hb4 := keepO0 hg hb4
 replace hb6 := keepO0 hg hb6
 replace hb8 := keepO0 hg hb8
 refine sstoreW ha rfl rfl (one_ei _) Tryz.sizeOf44 (by rw [List.length_map, (cl_red _ (by rw [hp])).len]) hb4 (by rw [List.length_map, hp]) ?_
 intro a w12 ha hg hb4'
 replace hb4 := hb4'
 replace hB := keepB1 hg (by omega) hB
 replace hb6 := keepO1 hg (by omega) hb6
 replace hb8 := keepO1 hg (by omega) hb8
 refine k10 _ _ ?_
 refine qr fun K13 k14 => ?_
 refine s1 ha rfl (fun _ ha => r_loadR ha rfl Tryz.isAgg44 Tryz.sizeOf44 (C := (q).map ei) (by rw [List.length_map, hq]) (cells_all hb6)) ?_; intro a ha
 refine scp ha (r_call ha [.agg ((q).map ei).toArray] rfl Tryz.call78) rfl rfl rfl (c_rclean q _ (by rw [hq])) ?_; intro w15 hg a ha
 replace hB := keepB0 hg hB
 replace hb4 := keepO0 hg hb4
 replace hb6 := keepO0 hg hb6
 replace hb8 := keepO0 hg hb8
 refine sstoreW ha rfl rfl (one_ei _) Tryz.sizeOf44 (by rw [List.length_map, (cl_red _ (by rw [hq])).len]) hb6 (by rw [List.length_map, hq]) ?_
 intro a w16 ha hg hb6'
 replace hb6 := hb6'
 replace hB := keepB1 hg (by omega) hB
 replace hb4 := keepO1 hg (by omega) hb4
 replace hb8 := keepO1 hg (by omega) hb8
 refine k14 _ _ ?_
 refine wp_seq_k fun K17 k18 => ?_
 refine qr fun K19 k20 => ?_
 refine s1 ha rfl (av rfl) ?_; intro a ha
 refine k20 _ _ ?_
 refine wp_block ?_
 refine loopG (fun (k : Nat) a w => (k ≤ 256) ∧ Has 26 [(2, .pointer (some ⟨b4, 0, none⟩)), (3, .pointer (some ⟨b6, 0, none⟩)), (4, .pointer (some ⟨b8, 0, none⟩)), (5, en k)] a ∧ Below w0.heap.size w0 w ∧ w.heap[b4]? = some (.cells ((rmiA (cl p) (cl q) k).map ei).toArray 44 (0, 0)) ∧ w.heap[b6]? = some (.cells ((cl q).map ei).toArray 44 (0, 0)) ∧ w.heap[b8]? = some (.cells ((List.replicate 256 (0 : Int)).map ei).toArray 44 (0, 0))) (fun k => 256 - k) 0 ⟨(by omega), ha.to [2, 3, 4, 5] rfl, hB, hb4, hb6, hb8⟩ ?_
 clear ha a hB hb4 hb6 hb8
 intro k a w21 ⟨hkk, ha, hB, hb4, hb6, hb8⟩
 refine wp_seq_k fun K22 k23 => ?_
 refine qr fun K24 k25 => ?_
 refine s2 ha rfl (mv rfl) (fun _ ha => r_lss ha ((k : Nat) : Int) 256 (decide (k < 256)) rfl rfl (decide_eq_decide.2 (by omega))) ?_; intro a ha
 refine k25 _ _ ?_
 refine cond_if ha rfl (fun hc26 => ?_) (fun hc26 => ?_)
 ·skip
  replace hc26 := of_decide_eq_true hc26
  refine wp_skip ?_
  refine k23 _ _ ?_
  refine wp_seq_k fun K27 k28 => ?_
  refine wp_block ?_
  refine regionD (S := fun w => Below w0.heap.size w0 w ∧ w.heap[b4]? = some (.cells ((rmiA (cl p) (cl q) k).map ei).toArray 44 (0, 0)) ∧ w.heap[b6]? = some (.cells ((cl q).map ei).toArray 44 (0, 0)) ∧ w.heap[b8]? = some (.cells ((List.replicate 256 (0 : Int)).map ei).toArray 44 (0, 0)) ∧ True) [11] [0, 1, 2, 3, 4, 5, 6, 7, 8, 9, 10] [0, 1, 2, 3, 4, 5, 6, 7, 8, 9, 10, 11] mixed (by kernel_rfl) (fun w hg => ⟨keepB0 hg hB, keepO0 hg hb4, keepO0 hg hb6, keepO0 hg hb8, trivial⟩) ?_
  intro w29 hg
  replace hB := keepB0 hg hB
  replace hb4 := keepO0 hg hb4
  replace hb6 := keepO0 hg hb6
  replace hb8 := keepO0 hg hb8
  refine c3 ha rfl (cmv rfl) (cmv rfl) (fun w _ _ ha => r_indexArr (i := k) ha k Tryz.runUnderlying44 Tryz.sizeOf3 rfl rfl (by omega) (by omega)) ?_; intro a ha
  have hlt30 := ((show Red (rmiA (cl p) (cl q) k) from (rmi_red (cl_red p hp) k))).lt k
  refine c4 ha rfl (fun w ⟨_, hb4, _⟩ _ ha => n_of (r_load ha rfl Tryz.isAgg3 (cell_of hb4 (get_map ei (rmiA (cl p) (cl q) k) 0 k (by rw [(rmi_red (cl_red p hp) _).len]; omega)))) (k := tn (rmiA (cl p) (cl q) k) k) ((show Red (rmiA (cl p) (cl q) k) from (rmi_red (cl_red p hp) k)).tn _)) (fun w _ _ ha => rn_add ha (tn (rmiA (cl p) (cl q) k) k) 3329 rfl rfl (by omega)) (cmv rfl) (fun w _ _ ha => r_indexArr (i := k) ha k Tryz.runUnderlying44 Tryz.sizeOf3 rfl rfl (by omega) (by omega)) ?_; intro a ha
  have hlt31 := ((show Red (cl q) from (cl_red q hq))).lt k
  refine c4 ha rfl (fun w ⟨_, _, hb6, _⟩ _ ha => n_of (r_load ha rfl Tryz.isAgg3 (cell_of hb6 (get_map ei (cl q) 0 k (by rw [(cl_red _ (by rw [hq])).len]; omega)))) (k := tn (cl q) k) ((show Red (cl q) from (cl_red q hq)).tn _)) (fun w _ _ ha => rn_sub ha ((tn (rmiA (cl p) (cl q) k) k) + 3329) (tn (cl q) k) rfl rfl (by omega) (by omega)) (fun w _ _ ha => rn_rem ha (((tn (rmiA (cl p) (cl q) k) k) + 3329) - (tn (cl q) k)) 3329 rfl rfl (by omega)) (fun w _ _ ha => r_indexArr (i := k) ha k Tryz.runUnderlying44 Tryz.sizeOf3 rfl rfl (by omega) (by omega)) ?_; intro a ha
  refine cstore ha rfl rfl (v := ei (((((tn (rmiA (cl p) (cl q) k) k) + 3329) - (tn (cl q) k)) % 3329 : Nat) : Int)) rfl rfl rfl rfl Tryz.sizeOf3 hb4 (by rw [List.length_map, (rmi_red (cl_red p hp) _).len]; omega) rfl ?_
  intro a w32 ha hg hb4'
  rw [set_map] at hb4'
  replace hb4 := hb4'
  replace hB := keepB1 hg (by omega) hB
  replace hb6 := keepO1 hg (by omega) hb6
  replace hb8 := keepO1 hg (by omega) hb8
  refine cfin (k28 _ _ ?_)
  refine region ?_
  refine s3 ha rfl (mv rfl) (fun _ ha => rn_add ha k 1 rfl rfl (by omega)) (av rfl) ?_; intro a ha
  exact ⟨k + 1, by omega, (by omega), ha.to [2, 3, 4, 5] rfl, hB, hb4, hb6, hb8⟩
 ·skip
  replace hc26 := of_decide_eq_false hc26
  refine wp_exit ?_
  obtain rfl : k = 256 := by omega
  refine k18 _ _ ?_
  refine qr fun K33 k34 => ?_
  refine s1 ha rfl (fun _ ha => r_loadR ha rfl Tryz.isAgg44 Tryz.sizeOf44 (C := (rmiA (cl p) (cl q) 256).map ei) (by rw [List.length_map, (rmi_red (cl_red p hp) _).len]) (cells_all hb4)) ?_; intro a ha
  refine sstoreW ha rfl rfl (one_ei _) Tryz.sizeOf44 (by rw [List.length_map, (rmi_red (cl_red p hp) _).len]) hb8 (by rw [List.length_map, List.length_replicate]) ?_
  intro a w35 ha hg hb8'
  replace hb8 := hb8'
  replace hB := keepB1 hg (by omega) hB
  replace hb4 := keepO1 hg (by omega) hb4
  refine k34 _ _ ?_
  refine wp_ret ?_
  exact retC _ ha Tryz.results63 rfl hb8 Tryz.underlying44 rfl (by rw [List.length_map, (rmi_red (cl_red p hp) _).len]; kernel_rfl) ⟨(by rw [mi_eq p q hp hq]), hB⟩

theorem c_root (i : Nat) (w0 : World) (hi : i < 128) :
    Calls Tryz.prog 79 #[en i] w0 fun e w' => e = .returned (en (rootN i)) ∧ Below w0.heap.size w0 w' := by
 refine enter (args := [_]) Tryz.func79 rfl Tryz.ntmps79 rfl ?_
 intro a ha
 have hB := Below.refl w0.heap.size w0
 have htl : turned ((i : Nat) : Int) < 2 ^ 7 := tuN_le _ 7
 refine qr fun K1 k2 => ?_
 refine s1 ha rfl (av rfl) ?_; intro a ha
 refine k2 _ _ ?_
 refine qr fun K3 k4 => ?_
 refine s1 ha rfl (mv rfl) ?_; intro a ha
 refine scp ha (r_call ha [ei ((i : Nat) : Int)] rfl Tryz.call113) rfl rfl rfl (c_turned ((i : Nat) : Int) _ ) ?_; intro w5 hg a ha
 replace hB := keepB0 hg hB
 refine s2 ha rfl (fun _ ha => rn_mul ha 2 (turned ((i : Nat) : Int)) rfl rfl (by omega)) (fun _ ha => rn_add ha (2 * (turned ((i : Nat) : Int))) 1 rfl rfl (by omega)) ?_; intro a ha
 refine scp ha (r_call ha [ei 17, en ((2 * (turned ((i : Nat) : Int))) + 1)] rfl Tryz.call100) rfl rfl rfl (c_rpow 17 ((2 * (turned ((i : Nat) : Int))) + 1) _ ) ?_; intro w6 hg a ha
 replace hB := keepB0 hg hB
 refine s1 ha rfl (av rfl) ?_; intro a ha
 refine k4 _ _ ?_
 refine wp_ret ?_
 exact ret1 ha Tryz.results79 rfl ⟨rfl, hB⟩

theorem c_rfwd (p : List Int) (w0 : World) (hp : p.length = 256) :
    Calls Tryz.prog 30 #[.agg ((p).map ei).toArray] w0 fun e w' => e = .returned (.agg ((fwd p).map ei).toArray) ∧ Below w0.heap.size w0 w' := by
 refine enter (args := [_]) Tryz.func30 rfl Tryz.ntmps30 rfl ?_
 intro a ha
 have hB := Below.refl w0.heap.size w0
 refine qr fun K1 k2 => ?_
 refine sbox ha rfl rfl ?_
 intro a w3 b4 ha hg hb4 hge4 hlt4
 have hz4 := Nat.le_trans hB.size hge4
 replace hB := keepB0 hg hB
 refine salloc ha zero_44T2 rfl ?_
 intro a w5 b6 ha hg hb6 hge6 hlt6
 have hz6 := Nat.le_trans hB.size hge6
 have hq4_6 := bl hb4 hge6
 replace hB := keepB0 hg hB
 replace hb4 := keepO0 hg hb4
 refine k2 _ _ ?_
 refine qr fun K7 k8 => ?_
 refine s1 ha rfl (fun _ ha => r_loadR ha rfl Tryz.isAgg44 Tryz.sizeOf44 (C := (p).map ei) (by rw [List.length_map, hp]) (cells_all hb4)) ?_; intro a ha
 refine scp ha (r_call ha [.agg ((p).map ei).toArray] rfl Tryz.call78) rfl rfl rfl (c_rclean p _ (by rw [hp])) ?_; intro w9 hg a ha
 replace hB := keepB0 hg hB
 replace hb4 := keepO0 hg hb4
 replace hb6 := keepO0 hg hb6
 refine sstoreW ha rfl rfl (one_ei _) Tryz.sizeOf44 (by rw [List.length_map, (cl_red _ (by rw [hp])).len]) hb4 (by rw [List.length_map, hp]) ?_
 intro a w10 ha hg hb4'
 replace hb4 := hb4'
 replace hB := keepB1 hg (by omega) hB
 replace hb6 := keepO1 hg (by omega) hb6
 refine k8 _ _ ?_
 refine qr fun K11 k12 => ?_
 refine salloc ha zero_44T2 rfl ?_
 intro a w13 b14 ha hg hb14 hge14 hlt14
 have hz14 := Nat.le_trans hB.size hge14
 have hq4_14 := bl hb4 hge14
 have hq6_14 := bl hb6 hge14
 replace hB := keepB0 hg hB
 replace hb4 := keepO0 hg hb4
 replace hb6 := keepO0 hg hb6
 refine k12 _ _ ?_
 refine wp_seq_k fun K15 k16 => ?_
 refine qr fun K17 k18 => ?_
 refine s1 ha rfl (av rfl) ?_; intro a ha
 refine k18 _ _ ?_
 refine wp_block ?_
 refine loopG (fun (i : Nat) a w => (i ≤ 128) ∧ Has 50 [(1, .pointer (some ⟨b4, 0, none⟩)), (2, .pointer (some ⟨b6, 0, none⟩)), (3, .pointer (some ⟨b14, 0, none⟩)), (4, en i)] a ∧ Below w0.heap.size w0 w ∧ w.heap[b4]? = some (.cells ((cl p).map ei).toArray 44 (0, 0)) ∧ w.heap[b6]? = some (.cells ((List.replicate 256 (0 : Int)).map ei).toArray 44 (0, 0)) ∧ w.heap[b14]? = some (.cells ((rfwA (cl p) i).map ei).toArray 44 (0, 0))) (fun i => 128 - i) 0 ⟨(by omega), ha.to [1, 2, 3, 4] rfl, hB, hb4, hb6, hb14⟩ ?_
 clear ha a hB hb4 hb6 hb14
 intro i a w19 ⟨hki, ha, hB, hb4, hb6, hb14⟩
 refine wp_seq_k fun K20 k21 => ?_
 refine qr fun K22 k23 => ?_
 refine s2 ha rfl (mv rfl) (fun _ ha => r_lss ha ((i : Nat) : Int) 128 (decide (i < 128)) rfl rfl (decide_eq_decide.2 (by omega))) ?_; intro a ha
 refine k23 _ _ ?_
 refine cond_if ha rfl (fun hc24 => ?_) (fun hc24 => ?_)
 ·skip
  replace hc24 := of_decide_eq_true hc24
  refine wp_skip ?_
  refine k21 _ _ ?_
  refine wp_seq_k fun K25 k26 => ?_
  refine wp_block ?_
  refine qr fun K27 k28 => ?_
  refine s1 ha rfl (mv rfl) ?_; intro a ha
  refine scp ha (r_call ha [en i] rfl Tryz.call79) rfl rfl rfl (c_root i _ (by omega)) ?_; intro w29 hg a ha
  replace hB := keepB0 hg hB
  replace hb4 := keepO0 hg hb4
  replace hb6 := keepO0 hg hb6
  replace hb14 := keepO0 hg hb14
  refine s1 ha rfl (av rfl) ?_; intro a ha
  refine k28 _ _ ?_
  refine qr fun K30 k31 => ?_
  refine s1 ha rfl (av rfl) ?_; intro a ha
  refine k31 _ _ ?_
  refine qr fun K32 k33 => ?_
  refine s1 ha rfl (av rfl) ?_; intro a ha
  refine k33 _ _ ?_
  refine wp_seq_k fun K34 k35 => ?_
  refine qr fun K36 k37 => ?_
  refine s1 ha rfl (av rfl) ?_; intro a ha
  refine k37 _ _ ?_
  refine wp_block ?_
  refine loopG (fun (t : Nat) a w => (t ≤ 128) ∧ Has 50 [(1, .pointer (some ⟨b4, 0, none⟩)), (2, .pointer (some ⟨b6, 0, none⟩)), (3, .pointer (some ⟨b14, 0, none⟩)), (4, en i), (5, en (rootN i)), (8, ei (127 - ((t : Nat) : Int))), (6, en (hzA (cl p) (rootN i) 0 t)), (7, en (hzA (cl p) (rootN i) 1 t))] a ∧ Below w0.heap.size w0 w ∧ w.heap[b4]? = some (.cells ((cl p).map ei).toArray 44 (0, 0)) ∧ w.heap[b6]? = some (.cells ((List.replicate 256 (0 : Int)).map ei).toArray 44 (0, 0)) ∧ w.heap[b14]? = some (.cells ((rfwA (cl p) i).map ei).toArray 44 (0, 0))) (fun t => 128 - t) 0 ⟨(by omega), ha.to [1, 2, 3, 4, 5, 8, 6, 7] rfl, hB, hb4, hb6, hb14⟩ ?_
  clear ha a hB hb4 hb6 hb14
  intro t a w38 ⟨hkt, ha, hB, hb4, hb6, hb14⟩
  have hz0 := hzA_lt (cl p) (rootN i) 0 t
  have hz1 := hzA_lt (cl p) (rootN i) 1 t
  have hrt := rootN_lt i
  refine wp_seq_k fun K39 k40 => ?_
  refine qr fun K41 k42 => ?_
  refine s2 ha rfl (mv rfl) (fun _ ha => r_geq ha (127 - ((t : Nat) : Int)) 0 (decide (127 - ((t : Nat) : Int) ≥ 0)) rfl rfl (decide_eq_decide.2 (by omega))) ?_; intro a ha
  refine k42 _ _ ?_
  refine cond_if ha rfl (fun hc43 => ?_) (fun hc43 => ?_)
  ·skip
   replace hc43 := of_decide_eq_true hc43
   refine wp_skip ?_
   refine k40 _ _ ?_
   refine wp_seq_k fun K44 k45 => ?_
   refine wp_block ?_
   refine qr fun K46 k47 => ?_
   refine s2 ha rfl (mv rfl) (mv rfl) ?_; intro a ha
   have hmm48 := Nat.mul_le_mul (show hzA (cl p) (rootN i) 0 t ≤ 3328 by omega) (show rootN i ≤ 3328 by omega)
   refine s4 ha rfl (fun _ ha => rn_mul ha (hzA (cl p) (rootN i) 0 t) (rootN i) rfl rfl (by omega)) (mv rfl) (fun _ ha => n_of (r_mul ha 2 (127 - ((t : Nat) : Int)) rfl rfl (by omega)) (k := 2 * (127 - t)) (by omega)) (fun _ ha => r_indexArr (i := 2 * (127 - t)) ha (2 * (127 - t)) Tryz.runUnderlying44 Tryz.sizeOf3 rfl rfl (by omega) (by omega)) ?_; intro a ha
   have hlt49 := ((show Red (cl p) from (cl_red p hp))).lt (2 * (127 - t))
   refine s4 ha rfl (fun _ ha => n_of (r_load ha rfl Tryz.isAgg3 (cell_of hb4 (get_map ei (cl p) 0 (2 * (127 - t)) (by rw [(cl_red _ (by rw [hp])).len]; omega)))) (k := tn (cl p) (2 * (127 - t))) ((show Red (cl p) from (cl_red p hp)).tn _)) (fun _ ha => rn_add ha ((hzA (cl p) (rootN i) 0 t) * (rootN i)) (tn (cl p) (2 * (127 - t))) rfl rfl (by omega)) (fun _ ha => rn_rem ha (((hzA (cl p) (rootN i) 0 t) * (rootN i)) + (tn (cl p) (2 * (127 - t)))) 3329 rfl rfl (by omega)) (av rfl) ?_; intro a ha
   refine k47 _ _ ?_
   refine region ?_
   refine s2 ha rfl (mv rfl) (mv rfl) ?_; intro a ha
   have hmm50 := Nat.mul_le_mul (show hzA (cl p) (rootN i) 1 t ≤ 3328 by omega) (show rootN i ≤ 3328 by omega)
   refine s5 ha rfl (fun _ ha => rn_mul ha (hzA (cl p) (rootN i) 1 t) (rootN i) rfl rfl (by omega)) (mv rfl) (fun _ ha => n_of (r_mul ha 2 (127 - ((t : Nat) : Int)) rfl rfl (by omega)) (k := 2 * (127 - t)) (by omega)) (fun _ ha => rn_add ha (2 * (127 - t)) 1 rfl rfl (by omega)) (fun _ ha => r_indexArr (i := (2 * (127 - t)) + 1) ha ((2 * (127 - t)) + 1) Tryz.runUnderlying44 Tryz.sizeOf3 rfl rfl (by omega) (by omega)) ?_; intro a ha
   have hlt51 := ((show Red (cl p) from (cl_red p hp))).lt ((2 * (127 - t)) + 1)
   refine s4 ha rfl (fun _ ha => n_of (r_load ha rfl Tryz.isAgg3 (cell_of hb4 (get_map ei (cl p) 0 ((2 * (127 - t)) + 1) (by rw [(cl_red _ (by rw [hp])).len]; omega)))) (k := tn (cl p) ((2 * (127 - t)) + 1)) ((show Red (cl p) from (cl_red p hp)).tn _)) (fun _ ha => rn_add ha ((hzA (cl p) (rootN i) 1 t) * (rootN i)) (tn (cl p) ((2 * (127 - t)) + 1)) rfl rfl (by omega)) (fun _ ha => rn_rem ha (((hzA (cl p) (rootN i) 1 t) * (rootN i)) + (tn (cl p) ((2 * (127 - t)) + 1))) 3329 rfl rfl (by omega)) (av rfl) ?_; intro a ha
   refine k45 _ _ ?_
   refine region ?_
   refine s3 ha rfl (mv rfl) (fun _ ha => z_of (r_sub ha (127 - ((t : Nat) : Int)) 1 rfl rfl (by omega)) (k := 127 - ((t + 1 : Nat) : Int)) (by omega)) (av rfl) ?_; intro a ha
   exact ⟨t + 1, by omega, (by omega), ha.to [1, 2, 3, 4, 5, 8, 6, 7] rfl, hB, hb4, hb6, hb14⟩
  ·skip
   replace hc43 := of_decide_eq_false hc43
   refine wp_exit ?_
   obtain rfl : t = 128 := by omega
   refine k35 _ _ ?_
   refine qr fun K52 k53 => ?_
   refine s4 ha rfl (mv rfl) (fun _ ha => rn_mul ha 2 i rfl rfl (by omega)) (mv rfl) (fun _ ha => r_indexArr (i := 2 * i) ha (2 * i) Tryz.runUnderlying44 Tryz.sizeOf3 rfl rfl (by omega) (by omega)) ?_; intro a ha
   refine sstore ha (v := ei ((hzA (cl p) (rootN i) 0 128 : Nat) : Int)) rfl rfl rfl rfl Tryz.sizeOf3 hb14 (by rw [List.length_map, (rfw_red _ _).len]; omega) ?_
   intro a w54 ha hg hb14'
   rw [set_map] at hb14'
   replace hb14 := hb14'
   replace hB := keepB1 hg (by omega) hB
   replace hb4 := keepO1 hg (by omega) hb4
   replace hb6 := keepO1 hg (by omega) hb6
   refine k53 _ _ ?_
   refine region ?_
   refine s5 ha rfl (mv rfl) (fun _ ha => rn_mul ha 2 i rfl rfl (by omega)) (fun _ ha => rn_add ha (2 * i) 1 rfl rfl (by omega)) (mv rfl) (fun _ ha => r_indexArr (i := (2 * i) + 1) ha ((2 * i) + 1) Tryz.runUnderlying44 Tryz.sizeOf3 rfl rfl (by omega) (by omega)) ?_; intro a ha
   refine sstore ha (v := ei ((hzA (cl p) (rootN i) 1 128 : Nat) : Int)) rfl rfl rfl rfl Tryz.sizeOf3 hb14 (by rw [List.length_map, List.length_set, (rfw_red _ _).len]; omega) ?_
   intro a w55 ha hg hb14'
   rw [set_map] at hb14'
   replace hb14 := hb14'
   replace hB := keepB1 hg (by omega) hB
   replace hb4 := keepO1 hg (by omega) hb4
   replace hb6 := keepO1 hg (by omega) hb6
   refine k26 _ _ ?_
   refine region ?_
   refine s3 ha rfl (mv rfl) (fun _ ha => rn_add ha i 1 rfl rfl (by omega)) (av rfl) ?_; intro a ha
   exact ⟨i + 1, by omega, (by omega), ha.to [1, 2, 3, 4] rfl, hB, hb4, hb6, hb14⟩
 ·skip
  replace hc24 := of_decide_eq_false hc24
  refine wp_exit ?_
  obtain rfl : i = 128 := by omega
  refine k16 _ _ ?_
  refine qr fun K56 k57 => ?_
  refine s1 ha rfl (fun _ ha => r_loadR ha rfl Tryz.isAgg44 Tryz.sizeOf44 (C := (rfwA (cl p) 128).map ei) (by rw [List.length_map, (rfw_red _ _).len]) (cells_all hb14)) ?_; intro a ha
  refine sstoreW ha rfl rfl (one_ei _) Tryz.sizeOf44 (by rw [List.length_map, (rfw_red _ _).len]) hb6 (by rw [List.length_map, List.length_replicate]) ?_
  intro a w58 ha hg hb6'
  replace hb6 := hb6'
  replace hB := keepB1 hg (by omega) hB
  replace hb14 := keepO1 hg (by omega) hb14
  refine k57 _ _ ?_
  refine wp_ret ?_
  exact retC _ ha Tryz.results30 rfl hb6 Tryz.underlying44 rfl (by rw [List.length_map, (rfw_red _ _).len]; kernel_rfl) ⟨(by rw [fwd_eq p hp]), hB⟩

theorem c_rinv (p : List Int) (w0 : World) (hp : p.length = 256) :
    Calls Tryz.prog 55 #[.agg ((p).map ei).toArray] w0 fun e w' => e = .returned (.agg ((inv p).map ei).toArray) ∧ Below w0.heap.size w0 w' := by
 refine enter (args := [_]) Tryz.func55 rfl Tryz.ntmps55 rfl ?_
 intro a ha
 have hB := Below.refl w0.heap.size w0
 refine qr fun K1 k2 => ?_
 refine sbox ha rfl rfl ?_
 intro a w3 b4 ha hg hb4 hge4 hlt4
 have hz4 := Nat.le_trans hB.size hge4
 replace hB := keepB0 hg hB
 refine salloc ha zero_44T2 rfl ?_
 intro a w5 b6 ha hg hb6 hge6 hlt6
 have hz6 := Nat.le_trans hB.size hge6
 have hq4_6 := bl hb4 hge6
 replace hB := keepB0 hg hB
 replace hb4 := keepO0 hg hb4
 refine k2 _ _ ?_
 refine qr fun K7 k8 => ?_
 refine s1 ha rfl (fun _ ha => r_loadR ha rfl Tryz.isAgg44 Tryz.sizeOf44 (C := (p).map ei) (by rw [List.length_map, hp]) (cells_all hb4)) ?_; intro a ha
 refine scp ha (r_call ha [.agg ((p).map ei).toArray] rfl Tryz.call78) rfl rfl rfl (c_rclean p _ (by rw [hp])) ?_; intro w9 hg a ha
 replace hB := keepB0 hg hB
 replace hb4 := keepO0 hg hb4
 replace hb6 := keepO0 hg hb6
 refine sstoreW ha rfl rfl (one_ei _) Tryz.sizeOf44 (by rw [List.length_map, (cl_red _ (by rw [hp])).len]) hb4 (by rw [List.length_map, hp]) ?_
 intro a w10 ha hg hb4'
 replace hb4 := hb4'
 replace hB := keepB1 hg (by omega) hB
 replace hb6 := keepO1 hg (by omega) hb6
 refine k8 _ _ ?_
 refine qr fun K11 k12 => ?_
 refine salloc ha zero_44T2 rfl ?_
 intro a w13 b14 ha hg hb14 hge14 hlt14
 have hz14 := Nat.le_trans hB.size hge14
 have hq4_14 := bl hb4 hge14
 have hq6_14 := bl hb6 hge14
 replace hB := keepB0 hg hB
 replace hb4 := keepO0 hg hb4
 replace hb6 := keepO0 hg hb6
 refine k12 _ _ ?_
 refine wp_seq_k fun K15 k16 => ?_
 refine qr fun K17 k18 => ?_
 refine s1 ha rfl (av rfl) ?_; intro a ha
 refine k18 _ _ ?_
 refine wp_block ?_
 refine loopG (fun (i : Nat) a w => (i ≤ 128) ∧ Has 59 [(1, .pointer (some ⟨b4, 0, none⟩)), (2, .pointer (some ⟨b6, 0, none⟩)), (3, .pointer (some ⟨b14, 0, none⟩)), (4, en i)] a ∧ Below w0.heap.size w0 w ∧ w.heap[b4]? = some (.cells ((cl p).map ei).toArray 44 (0, 0)) ∧ w.heap[b6]? = some (.cells ((List.replicate 256 (0 : Int)).map ei).toArray 44 (0, 0)) ∧ w.heap[b14]? = some (.cells ((rivA (cl p) i).map ei).toArray 44 (0, 0))) (fun i => 128 - i) 0 ⟨(by omega), ha.to [1, 2, 3, 4] rfl, hB, hb4, hb6, hb14⟩ ?_
 clear ha a hB hb4 hb6 hb14
 intro i a w19 ⟨hki, ha, hB, hb4, hb6, hb14⟩
 refine wp_seq_k fun K20 k21 => ?_
 refine qr fun K22 k23 => ?_
 refine s2 ha rfl (mv rfl) (fun _ ha => r_lss ha ((i : Nat) : Int) 128 (decide (i < 128)) rfl rfl (decide_eq_decide.2 (by omega))) ?_; intro a ha
 refine k23 _ _ ?_
 refine cond_if ha rfl (fun hc24 => ?_) (fun hc24 => ?_)
 ·skip
  replace hc24 := of_decide_eq_true hc24
  refine wp_skip ?_
  refine k21 _ _ ?_
  refine wp_seq_k fun K25 k26 => ?_
  refine wp_block ?_
  refine qr fun K27 k28 => ?_
  refine s1 ha rfl (mv rfl) ?_; intro a ha
  refine scp ha (r_call ha [en i] rfl Tryz.call79) rfl rfl rfl (c_root i _ (by omega)) ?_; intro w29 hg a ha
  replace hB := keepB0 hg hB
  replace hb4 := keepO0 hg hb4
  replace hb6 := keepO0 hg hb6
  replace hb14 := keepO0 hg hb14
  refine scp ha (r_call ha [ei ((rootN i : Nat) : Int), en 255] rfl Tryz.call100) rfl rfl rfl (c_rpow ((rootN i : Nat) : Int) 255 _ ) ?_; intro w30 hg a ha
  replace hB := keepB0 hg hB
  replace hb4 := keepO0 hg hb4
  replace hb6 := keepO0 hg hb6
  replace hb14 := keepO0 hg hb14
  refine s1 ha rfl (av rfl) ?_; intro a ha
  refine k28 _ _ ?_
  refine qr fun K31 k32 => ?_
  refine s1 ha rfl (av rfl) ?_; intro a ha
  refine k32 _ _ ?_
  refine qr fun K33 k34 => ?_
  refine s1 ha rfl (av rfl) ?_; intro a ha
  refine k34 _ _ ?_
  refine wp_block ?_
  refine loopG (fun (j : Nat) a w => (j ≤ 128) ∧ Has 59 [(1, .pointer (some ⟨b4, 0, none⟩)), (2, .pointer (some ⟨b6, 0, none⟩)), (3, .pointer (some ⟨b14, 0, none⟩)), (4, en i), (5, en (rpow ((rootN i : Nat) : Int) 255)), (7, en j), (6, en (riK (wN i) j))] a ∧ Below w0.heap.size w0 w ∧ w.heap[b4]? = some (.cells ((cl p).map ei).toArray 44 (0, 0)) ∧ w.heap[b6]? = some (.cells ((List.replicate 256 (0 : Int)).map ei).toArray 44 (0, 0)) ∧ w.heap[b14]? = some (.cells ((riJ (cl p) i (rivA (cl p) i) j).map ei).toArray 44 (0, 0))) (fun j => 128 - j) 0 ⟨(by omega), ha.to [1, 2, 3, 4, 5, 7, 6] rfl, hB, hb4, hb6, hb14⟩ ?_
  clear ha a hB hb4 hb6 hb14
  intro j a w35 ⟨hkj, ha, hB, hb4, hb6, hb14⟩
  have hk := riK_lt (wN i) j
  have hw := wN_lt i
  have hw2 : rpow ((rootN i : Nat) : Int) 255 < 3329 := wN_lt i
  refine wp_seq_k fun K36 k37 => ?_
  refine qr fun K38 k39 => ?_
  refine s2 ha rfl (mv rfl) (fun _ ha => r_lss ha ((j : Nat) : Int) 128 (decide (j < 128)) rfl rfl (decide_eq_decide.2 (by omega))) ?_; intro a ha
  refine k39 _ _ ?_
  refine cond_if ha rfl (fun hc40 => ?_) (fun hc40 => ?_)
  ·skip
   replace hc40 := of_decide_eq_true hc40
   refine wp_skip ?_
   refine k37 _ _ ?_
   refine wp_seq_k fun K41 k42 => ?_
   refine wp_block ?_
   refine wp_seq_k fun K43 k44 => ?_
   refine regionD (S := fun w => Below w0.heap.size w0 w ∧ w.heap[b4]? = some (.cells ((cl p).map ei).toArray 44 (0, 0)) ∧ w.heap[b6]? = some (.cells ((List.replicate 256 (0 : Int)).map ei).toArray 44 (0, 0)) ∧ w.heap[b14]? = some (.cells ((riJ (cl p) i (rivA (cl p) i) j).map ei).toArray 44 (0, 0)) ∧ True) [15] [0, 1, 2, 3, 4, 5, 6, 7, 8, 9, 10, 11, 12, 13, 14] [0, 1, 2, 3, 4, 5, 6, 7, 8, 9, 10, 11, 12, 13, 14, 15] mixed (by kernel_rfl) (fun w hg => ⟨keepB0 hg hB, keepO0 hg hb4, keepO0 hg hb6, keepO0 hg hb14, trivial⟩) ?_
   intro w45 hg
   replace hB := keepB0 hg hB
   replace hb4 := keepO0 hg hb4
   replace hb6 := keepO0 hg hb6
   replace hb14 := keepO0 hg hb14
   refine c5 ha rfl (cmv rfl) (fun w _ _ ha => rn_mul ha 2 j rfl rfl (by omega)) (cmv rfl) (fun w _ _ ha => rn_mul ha 2 j rfl rfl (by omega)) (fun w _ _ ha => r_indexArr (i := 2 * j) ha (2 * j) Tryz.runUnderlying44 Tryz.sizeOf3 rfl rfl (by omega) (by omega)) ?_; intro a ha
   have hlt46 := ((show Red (riJ (cl p) i (rivA (cl p) i) j) from (riJ_red (cl p) i (riv_red (cl p) i) j))).lt (2 * j)
   refine c4 ha rfl (fun w ⟨_, _, _, hb14, _⟩ _ ha => n_of (r_load ha rfl Tryz.isAgg3 (cell_of hb14 (get_map ei (riJ (cl p) i (rivA (cl p) i) j) 0 (2 * j) (by rw [(riJ_red _ _ (riv_red _ _) _).len]; omega)))) (k := tn (riJ (cl p) i (rivA (cl p) i) j) (2 * j)) ((show Red (riJ (cl p) i (rivA (cl p) i) j) from (riJ_red (cl p) i (riv_red (cl p) i) j)).tn _)) (cmv rfl) (fun w _ _ ha => rn_mul ha 2 i rfl rfl (by omega)) (fun w _ _ ha => r_indexArr (i := 2 * i) ha (2 * i) Tryz.runUnderlying44 Tryz.sizeOf3 rfl rfl (by omega) (by omega)) ?_; intro a ha
   have hlt47 := ((show Red (cl p) from (cl_red p hp))).lt (2 * i)
   refine c2 ha rfl (fun w ⟨_, hb4, _⟩ _ ha => n_of (r_load ha rfl Tryz.isAgg3 (cell_of hb4 (get_map ei (cl p) 0 (2 * i) (by rw [(cl_red _ (by rw [hp])).len]; omega)))) (k := tn (cl p) (2 * i)) ((show Red (cl p) from (cl_red p hp)).tn _)) (cmv rfl) ?_; intro a ha
   have hmm48 := Nat.mul_le_mul (show tn (cl p) (2 * i) ≤ 3328 by omega) (show riK (wN i) j ≤ 3328 by omega)
   refine c4 ha rfl (fun w _ _ ha => rn_mul ha (tn (cl p) (2 * i)) (riK (wN i) j) rfl rfl (by omega)) (fun w _ _ ha => rn_add ha (tn (riJ (cl p) i (rivA (cl p) i) j) (2 * j)) ((tn (cl p) (2 * i)) * (riK (wN i) j)) rfl rfl (by omega)) (fun w _ _ ha => rn_rem ha ((tn (riJ (cl p) i (rivA (cl p) i) j) (2 * j)) + ((tn (cl p) (2 * i)) * (riK (wN i) j))) 3329 rfl rfl (by omega)) (fun w _ _ ha => r_indexArr (i := 2 * j) ha (2 * j) Tryz.runUnderlying44 Tryz.sizeOf3 rfl rfl (by omega) (by omega)) ?_; intro a ha
   refine cstore ha rfl rfl (v := ei ((((tn (riJ (cl p) i (rivA (cl p) i) j) (2 * j)) + ((tn (cl p) (2 * i)) * (riK (wN i) j))) % 3329 : Nat) : Int)) rfl rfl rfl rfl Tryz.sizeOf3 hb14 (by rw [List.length_map, (riJ_red _ _ (riv_red _ _) _).len]; omega) rfl ?_
   intro a w49 ha hg hb14'
   rw [set_map] at hb14'
   replace hb14 := hb14'
   replace hB := keepB1 hg (by omega) hB
   replace hb4 := keepO1 hg (by omega) hb4
   replace hb6 := keepO1 hg (by omega) hb6
   refine cfin (k44 _ _ ?_)
   refine wp_seq_k fun K50 k51 => ?_
   refine regionD (S := fun w => Below w0.heap.size w0 w ∧ w.heap[b4]? = some (.cells ((cl p).map ei).toArray 44 (0, 0)) ∧ w.heap[b6]? = some (.cells ((List.replicate 256 (0 : Int)).map ei).toArray 44 (0, 0)) ∧ w.heap[b14]? = some (.cells (((riJ (cl p) i (rivA (cl p) i) j).set (2 * j) ((((tn (riJ (cl p) i (rivA (cl p) i) j) (2 * j)) + ((tn (cl p) (2 * i)) * (riK (wN i) j))) % 3329 : Nat) : Int)).map ei).toArray 44 (0, 0)) ∧ True) [18] [0, 1, 2, 3, 4, 5, 6, 7, 8, 9, 10, 11, 12, 13, 14, 15, 16, 17] [0, 1, 2, 3, 4, 5, 6, 7, 8, 9, 10, 11, 12, 13, 14, 15, 16, 17, 18] mixed (by kernel_rfl) (fun w hg => ⟨keepB0 hg hB, keepO0 hg hb4, keepO0 hg hb6, keepO0 hg hb14, trivial⟩) ?_
   intro w52 hg
   replace hB := keepB0 hg hB
   replace hb4 := keepO0 hg hb4
   replace hb6 := keepO0 hg hb6
   replace hb14 := keepO0 hg hb14
   refine c6 ha rfl (cmv rfl) (fun w _ _ ha => rn_mul ha 2 j rfl rfl (by omega)) (fun w _ _ ha => rn_add ha (2 * j) 1 rfl rfl (by omega)) (cmv rfl) (fun w _ _ ha => rn_mul ha 2 j rfl rfl (by omega)) (fun w _ _ ha => rn_add ha (2 * j) 1 rfl rfl (by omega)) ?_; intro a ha
   refine c1 ha rfl (fun w _ _ ha => r_indexArr (i := (2 * j) + 1) ha ((2 * j) + 1) Tryz.runUnderlying44 Tryz.sizeOf3 rfl rfl (by omega) (by omega)) ?_; intro a ha
   have hlt53 := ((show Red ((riJ (cl p) i (rivA (cl p) i) j).set (2 * j) ((((tn (riJ (cl p) i (rivA (cl p) i) j) (2 * j)) + ((tn (cl p) (2 * i)) * (riK (wN i) j))) % 3329 : Nat) : Int)) from (((riJ_red (cl p) i (riv_red (cl p) i) j)).set _ (Nat.mod_lt _ (by decide))))).lt ((2 * j) + 1)
   refine c5 ha rfl (fun w ⟨_, _, _, hb14, _⟩ _ ha => n_of (r_load ha rfl Tryz.isAgg3 (cell_of hb14 (get_map ei ((riJ (cl p) i (rivA (cl p) i) j).set (2 * j) ((((tn (riJ (cl p) i (rivA (cl p) i) j) (2 * j)) + ((tn (cl p) (2 * i)) * (riK (wN i) j))) % 3329 : Nat) : Int)) 0 ((2 * j) + 1) (by rw [List.length_set, (riJ_red _ _ (riv_red _ _) _).len]; omega)))) (k := tn ((riJ (cl p) i (rivA (cl p) i) j).set (2 * j) ((((tn (riJ (cl p) i (rivA (cl p) i) j) (2 * j)) + ((tn (cl p) (2 * i)) * (riK (wN i) j))) % 3329 : Nat) : Int)) ((2 * j) + 1)) ((show Red ((riJ (cl p) i (rivA (cl p) i) j).set (2 * j) ((((tn (riJ (cl p) i (rivA (cl p) i) j) (2 * j)) + ((tn (cl p) (2 * i)) * (riK (wN i) j))) % 3329 : Nat) : Int)) from (((riJ_red (cl p) i (riv_red (cl p) i) j)).set _ (Nat.mod_lt _ (by decide)))).tn _)) (cmv rfl) (fun w _ _ ha => rn_mul ha 2 i rfl rfl (by omega)) (fun w _ _ ha => rn_add ha (2 * i) 1 rfl rfl (by omega)) (fun w _ _ ha => r_indexArr (i := (2 * i) + 1) ha ((2 * i) + 1) Tryz.runUnderlying44 Tryz.sizeOf3 rfl rfl (by omega) (by omega)) ?_; intro a ha
   have hlt54 := ((show Red (cl p) from (cl_red p hp))).lt ((2 * i) + 1)
   refine c2 ha rfl (fun w ⟨_, hb4, _⟩ _ ha => n_of (r_load ha rfl Tryz.isAgg3 (cell_of hb4 (get_map ei (cl p) 0 ((2 * i) + 1) (by rw [(cl_red _ (by rw [hp])).len]; omega)))) (k := tn (cl p) ((2 * i) + 1)) ((show Red (cl p) from (cl_red p hp)).tn _)) (cmv rfl) ?_; intro a ha
   have hmm55 := Nat.mul_le_mul (show tn (cl p) ((2 * i) + 1) ≤ 3328 by omega) (show riK (wN i) j ≤ 3328 by omega)
   refine c4 ha rfl (fun w _ _ ha => rn_mul ha (tn (cl p) ((2 * i) + 1)) (riK (wN i) j) rfl rfl (by omega)) (fun w _ _ ha => rn_add ha (tn ((riJ (cl p) i (rivA (cl p) i) j).set (2 * j) ((((tn (riJ (cl p) i (rivA (cl p) i) j) (2 * j)) + ((tn (cl p) (2 * i)) * (riK (wN i) j))) % 3329 : Nat) : Int)) ((2 * j) + 1)) ((tn (cl p) ((2 * i) + 1)) * (riK (wN i) j)) rfl rfl (by omega)) (fun w _ _ ha => rn_rem ha ((tn ((riJ (cl p) i (rivA (cl p) i) j).set (2 * j) ((((tn (riJ (cl p) i (rivA (cl p) i) j) (2 * j)) + ((tn (cl p) (2 * i)) * (riK (wN i) j))) % 3329 : Nat) : Int)) ((2 * j) + 1)) + ((tn (cl p) ((2 * i) + 1)) * (riK (wN i) j))) 3329 rfl rfl (by omega)) (fun w _ _ ha => r_indexArr (i := (2 * j) + 1) ha ((2 * j) + 1) Tryz.runUnderlying44 Tryz.sizeOf3 rfl rfl (by omega) (by omega)) ?_; intro a ha
   refine cstore ha rfl rfl (v := ei ((((tn ((riJ (cl p) i (rivA (cl p) i) j).set (2 * j) ((((tn (riJ (cl p) i (rivA (cl p) i) j) (2 * j)) + ((tn (cl p) (2 * i)) * (riK (wN i) j))) % 3329 : Nat) : Int)) ((2 * j) + 1)) + ((tn (cl p) ((2 * i) + 1)) * (riK (wN i) j))) % 3329 : Nat) : Int)) rfl rfl rfl rfl Tryz.sizeOf3 hb14 (by rw [List.length_map, List.length_set, (riJ_red _ _ (riv_red _ _) _).len]; omega) rfl ?_
   intro a w56 ha hg hb14'
   rw [set_map] at hb14'
   replace hb14 := hb14'
   replace hB := keepB1 hg (by omega) hB
   replace hb4 := keepO1 hg (by omega) hb4
   replace hb6 := keepO1 hg (by omega) hb6
   refine cfin (k51 _ _ ?_)
   refine region ?_
   refine s2 ha rfl (mv rfl) (mv rfl) ?_; intro a ha
   have hmm57 := Nat.mul_le_mul (show riK (wN i) j ≤ 3328 by omega) (show rpow ((rootN i : Nat) : Int) 255 ≤ 3328 by omega)
   refine s3 ha rfl (fun _ ha => rn_mul ha (riK (wN i) j) (rpow ((rootN i : Nat) : Int) 255) rfl rfl (by omega)) (fun _ ha => rn_rem ha ((riK (wN i) j) * (rpow ((rootN i : Nat) : Int) 255)) 3329 rfl rfl (by omega)) (av rfl) ?_; intro a ha
   refine k42 _ _ ?_
   refine region ?_
   refine s3 ha rfl (mv rfl) (fun _ ha => rn_add ha j 1 rfl rfl (by omega)) (av rfl) ?_; intro a ha
   exact ⟨j + 1, by omega, (by omega), ha.to [1, 2, 3, 4, 5, 7, 6] rfl, hB, hb4, hb6, hb14⟩
  ·skip
   replace hc40 := of_decide_eq_false hc40
   refine wp_exit ?_
   obtain rfl : j = 128 := by omega
   refine k26 _ _ ?_
   refine region ?_
   refine s3 ha rfl (mv rfl) (fun _ ha => rn_add ha i 1 rfl rfl (by omega)) (av rfl) ?_; intro a ha
   exact ⟨i + 1, by omega, (by omega), ha.to [1, 2, 3, 4] rfl, hB, hb4, hb6, hb14⟩
 ·skip
  replace hc24 := of_decide_eq_false hc24
  refine wp_exit ?_
  obtain rfl : i = 128 := by omega
  refine k16 _ _ ?_
  refine qr fun K58 k59 => ?_
  refine s1 ha rfl (fun _ ha => r_loadR ha rfl Tryz.isAgg44 Tryz.sizeOf44 (C := (rivA (cl p) 128).map ei) (by rw [List.length_map, (riv_red _ _).len]) (cells_all hb14)) ?_; intro a ha
  refine sstoreW ha rfl rfl (one_ei _) Tryz.sizeOf44 (by rw [List.length_map, (riv_red _ _).len]) hb6 (by rw [List.length_map, List.length_replicate]) ?_
  intro a w60 ha hg hb6'
  replace hb6 := hb6'
  replace hB := keepB1 hg (by omega) hB
  replace hb14 := keepO1 hg (by omega) hb14
  refine k59 _ _ ?_
  refine wp_ret ?_
  exact retC _ ha Tryz.results55 rfl hb6 Tryz.underlying44 rfl (by rw [List.length_map, (riv_red _ _).len]; kernel_rfl) ⟨(by rw [inv_eq p hp]), hB⟩

theorem c_rtimes (p q : List Int) (w0 : World) (hp : p.length = 256) (hq : q.length = 256) :
    Calls Tryz.prog 34 #[.agg ((p).map ei).toArray, .agg ((q).map ei).toArray] w0 fun e w' => e = .returned (.agg ((tms p q).map ei).toArray) ∧ Below w0.heap.size w0 w' := by
 refine enter (args := [_, _]) Tryz.func34 rfl Tryz.ntmps34 rfl ?_
 intro a ha
 have hB := Below.refl w0.heap.size w0
 refine qr fun K1 k2 => ?_
 refine sbox ha rfl rfl ?_
 intro a w3 b4 ha hg hb4 hge4 hlt4
 have hz4 := Nat.le_trans hB.size hge4
 replace hB := keepB0 hg hB
 refine sbox ha rfl rfl ?_
 intro a w5 b6 ha hg hb6 hge6 hlt6
 have hz6 := Nat.le_trans hB.size hge6
 have hq4_6 := bl hb4 hge6
 replace hB := keepB0 hg hB
 replace hb4 := keepO0 hg hb4
 refine salloc ha zero_44T2 rfl ?_
 intro a w7 b8 ha hg hb8 hge8 hlt8
 have hz8 := Nat.le_trans hB.size hge8
 have hq4_8 := bl hb4 hge8
 have hq6_8 := bl hb6 hge8
 replace hB := keepB0 hg hB
 replace hb4 := keepO0 hg hb4
 replace hb6 := keepO0 hg hb6
 refine k2 _ _ ?_
 refine qr fun K9 k10 => ?_
 refine s1 ha rfl (fun _ ha => r_loadR ha rfl Tryz.isAgg44 Tryz.sizeOf44 (C := (p).map ei) (by rw [List.length_map, hp]) (cells_all hb4)) ?_; intro a ha
 refine scp ha (r_call ha [.agg ((p).map ei).toArray] rfl Tryz.call78) rfl rfl rfl (c_rclean p _ (by rw [hp])) ?_; intro w11 hg a ha
 replace hB := keepB0 hg hB
 replace hb4 := keepO0 hg hb4
 replace hb6 := keepO0 hg hb6
 replace hb8 := keepO0 hg hb8
 refine sstoreW ha rfl rfl (one_ei _) Tryz.sizeOf44 (by rw [List.length_map, (cl_red _ (by rw [hp])).len]) hb4 (by rw [List.length_map, hp]) ?_
 intro a w12 ha hg hb4'
 replace hb4 := hb4'
 replace hB := keepB1 hg (by omega) hB
 replace hb6 := keepO1 hg (by omega) hb6
 replace hb8 := keepO1 hg (by omega) hb8
 refine k10 _ _ ?_
 refine qr fun K13 k14 => ?_
 refine s1 ha rfl (fun _ ha => r_loadR ha rfl Tryz.isAgg44 Tryz.sizeOf44 (C := (q).map ei) (by rw [List.length_map, hq]) (cells_all hb6)) ?_; intro a ha
 refine scp ha (r_call ha [.agg ((q).map ei).toArray] rfl Tryz.call78) rfl rfl rfl (c_rclean q _ (by rw [hq])) ?_; intro w15 hg a ha
 replace hB := keepB0 hg hB
 replace hb4 := keepO0 hg hb4
 replace hb6 := keepO0 hg hb6
 replace hb8 := keepO0 hg hb8
 refine sstoreW ha rfl rfl (one_ei _) Tryz.sizeOf44 (by rw [List.length_map, (cl_red _ (by rw [hq])).len]) hb6 (by rw [List.length_map, hq]) ?_
 intro a w16 ha hg hb6'
 replace hb6 := hb6'
 replace hB := keepB1 hg (by omega) hB
 replace hb4 := keepO1 hg (by omega) hb4
 replace hb8 := keepO1 hg (by omega) hb8
 refine k14 _ _ ?_
 refine qr fun K17 k18 => ?_
 refine salloc ha zero_44T2 rfl ?_
 intro a w19 b20 ha hg hb20 hge20 hlt20
 have hz20 := Nat.le_trans hB.size hge20
 have hq4_20 := bl hb4 hge20
 have hq6_20 := bl hb6 hge20
 have hq8_20 := bl hb8 hge20
 replace hB := keepB0 hg hB
 replace hb4 := keepO0 hg hb4
 replace hb6 := keepO0 hg hb6
 replace hb8 := keepO0 hg hb8
 refine k18 _ _ ?_
 refine wp_seq_k fun K21 k22 => ?_
 refine qr fun K23 k24 => ?_
 refine s1 ha rfl (av rfl) ?_; intro a ha
 refine k24 _ _ ?_
 refine wp_block ?_
 refine loopG (fun (i : Nat) a w => (i ≤ 128) ∧ Has 71 [(2, .pointer (some ⟨b4, 0, none⟩)), (3, .pointer (some ⟨b6, 0, none⟩)), (4, .pointer (some ⟨b8, 0, none⟩)), (5, .pointer (some ⟨b20, 0, none⟩)), (6, en i)] a ∧ Below w0.heap.size w0 w ∧ w.heap[b4]? = some (.cells ((cl p).map ei).toArray 44 (0, 0)) ∧ w.heap[b6]? = some (.cells ((cl q).map ei).toArray 44 (0, 0)) ∧ w.heap[b8]? = some (.cells ((List.replicate 256 (0 : Int)).map ei).toArray 44 (0, 0)) ∧ w.heap[b20]? = some (.cells ((rtmA (cl p) (cl q) i).map ei).toArray 44 (0, 0))) (fun i => 128 - i) 0 ⟨(by omega), ha.to [2, 3, 4, 5, 6] rfl, hB, hb4, hb6, hb8, hb20⟩ ?_
 clear ha a hB hb4 hb6 hb8 hb20
 intro i a w25 ⟨hki, ha, hB, hb4, hb6, hb8, hb20⟩
 have hrt := rootN_lt i
 refine wp_seq_k fun K26 k27 => ?_
 refine qr fun K28 k29 => ?_
 refine s2 ha rfl (mv rfl) (fun _ ha => r_lss ha ((i : Nat) : Int) 128 (decide (i < 128)) rfl rfl (decide_eq_decide.2 (by omega))) ?_; intro a ha
 refine k29 _ _ ?_
 refine cond_if ha rfl (fun hc30 => ?_) (fun hc30 => ?_)
 ·skip
  replace hc30 := of_decide_eq_true hc30
  refine wp_skip ?_
  refine k27 _ _ ?_
  refine wp_seq_k fun K31 k32 => ?_
  refine wp_block ?_
  refine wp_seq_k fun K33 k34 => ?_
  refine regionD (S := fun w => Below w0.heap.size w0 w ∧ w.heap[b4]? = some (.cells ((cl p).map ei).toArray 44 (0, 0)) ∧ w.heap[b6]? = some (.cells ((cl q).map ei).toArray 44 (0, 0)) ∧ w.heap[b8]? = some (.cells ((List.replicate 256 (0 : Int)).map ei).toArray 44 (0, 0)) ∧ w.heap[b20]? = some (.cells ((rtmA (cl p) (cl q) i).map ei).toArray 44 (0, 0)) ∧ True) [29] [0, 1, 2, 3, 4, 5, 6, 7, 8, 9, 10, 11, 12, 13, 14, 15, 16, 17, 18, 19, 20, 21, 22, 23, 25, 26, 27, 28] [0, 1, 2, 3, 4, 5, 6, 7, 8, 9, 10, 11, 12, 13, 14, 15, 16, 17, 18, 19, 20, 21, 22, 23, 24, 25, 26, 27, 28, 29] mixed (by kernel_rfl) (fun w hg => ⟨keepB0 hg hB, keepO0 hg hb4, keepO0 hg hb6, keepO0 hg hb8, keepO0 hg hb20, trivial⟩) ?_
  intro w35 hg
  replace hB := keepB0 hg hB
  replace hb4 := keepO0 hg hb4
  replace hb6 := keepO0 hg hb6
  replace hb8 := keepO0 hg hb8
  replace hb20 := keepO0 hg hb20
  refine c5 ha rfl (cmv rfl) (fun w _ _ ha => rn_mul ha 2 i rfl rfl (by omega)) (cmv rfl) (fun w _ _ ha => rn_mul ha 2 i rfl rfl (by omega)) (fun w _ _ ha => r_indexArr (i := 2 * i) ha (2 * i) Tryz.runUnderlying44 Tryz.sizeOf3 rfl rfl (by omega) (by omega)) ?_; intro a ha
  have hlt36 := ((show Red (cl p) from (cl_red p hp))).lt (2 * i)
  refine c4 ha rfl (fun w ⟨_, hb4, _⟩ _ ha => n_of (r_load ha rfl Tryz.isAgg3 (cell_of hb4 (get_map ei (cl p) 0 (2 * i) (by rw [(cl_red _ (by rw [hp])).len]; omega)))) (k := tn (cl p) (2 * i)) ((show Red (cl p) from (cl_red p hp)).tn _)) (cmv rfl) (fun w _ _ ha => rn_mul ha 2 i rfl rfl (by omega)) (fun w _ _ ha => r_indexArr (i := 2 * i) ha (2 * i) Tryz.runUnderlying44 Tryz.sizeOf3 rfl rfl (by omega) (by omega)) ?_; intro a ha
  have hlt37 := ((show Red (cl q) from (cl_red q hq))).lt (2 * i)
  refine c1 ha rfl (fun w ⟨_, _, hb6, _⟩ _ ha => n_of (r_load ha rfl Tryz.isAgg3 (cell_of hb6 (get_map ei (cl q) 0 (2 * i) (by rw [(cl_red _ (by rw [hq])).len]; omega)))) (k := tn (cl q) (2 * i)) ((show Red (cl q) from (cl_red q hq)).tn _)) ?_; intro a ha
  have hmm38 := Nat.mul_le_mul (show tn (cl p) (2 * i) ≤ 3328 by omega) (show tn (cl q) (2 * i) ≤ 3328 by omega)
  refine c5 ha rfl (fun w _ _ ha => rn_mul ha (tn (cl p) (2 * i)) (tn (cl q) (2 * i)) rfl rfl (by omega)) (cmv rfl) (fun w _ _ ha => rn_mul ha 2 i rfl rfl (by omega)) (fun w _ _ ha => rn_add ha (2 * i) 1 rfl rfl (by omega)) (fun w _ _ ha => r_indexArr (i := (2 * i) + 1) ha ((2 * i) + 1) Tryz.runUnderlying44 Tryz.sizeOf3 rfl rfl (by omega) (by omega)) ?_; intro a ha
  have hlt39 := ((show Red (cl p) from (cl_red p hp))).lt ((2 * i) + 1)
  refine c5 ha rfl (fun w ⟨_, hb4, _⟩ _ ha => n_of (r_load ha rfl Tryz.isAgg3 (cell_of hb4 (get_map ei (cl p) 0 ((2 * i) + 1) (by rw [(cl_red _ (by rw [hp])).len]; omega)))) (k := tn (cl p) ((2 * i) + 1)) ((show Red (cl p) from (cl_red p hp)).tn _)) (cmv rfl) (fun w _ _ ha => rn_mul ha 2 i rfl rfl (by omega)) (fun w _ _ ha => rn_add ha (2 * i) 1 rfl rfl (by omega)) (fun w _ _ ha => r_indexArr (i := (2 * i) + 1) ha ((2 * i) + 1) Tryz.runUnderlying44 Tryz.sizeOf3 rfl rfl (by omega) (by omega)) ?_; intro a ha
  have hlt40 := ((show Red (cl q) from (cl_red q hq))).lt ((2 * i) + 1)
  refine c1 ha rfl (fun w ⟨_, _, hb6, _⟩ _ ha => n_of (r_load ha rfl Tryz.isAgg3 (cell_of hb6 (get_map ei (cl q) 0 ((2 * i) + 1) (by rw [(cl_red _ (by rw [hq])).len]; omega)))) (k := tn (cl q) ((2 * i) + 1)) ((show Red (cl q) from (cl_red q hq)).tn _)) ?_; intro a ha
  have hmm41 := Nat.mul_le_mul (show tn (cl p) ((2 * i) + 1) ≤ 3328 by omega) (show tn (cl q) ((2 * i) + 1) ≤ 3328 by omega)
  refine c3 ha rfl (fun w _ _ ha => rn_mul ha (tn (cl p) ((2 * i) + 1)) (tn (cl q) ((2 * i) + 1)) rfl rfl (by omega)) (fun w _ _ ha => rn_rem ha ((tn (cl p) ((2 * i) + 1)) * (tn (cl q) ((2 * i) + 1))) 3329 rfl rfl (by omega)) (cmv rfl) ?_; intro a ha
  refine cc ha rfl rfl (r_call ha [en i] rfl Tryz.call79) rfl rfl rfl (c_root i _ (by omega)) ?_
  rintro e w42 ⟨rfl, hBc⟩
  have hg := grown_call hBc
  replace hB := keepB0 hg hB
  replace hb4 := keepO0 hg hb4
  replace hb6 := keepO0 hg hb6
  replace hb8 := keepO0 hg hb8
  replace hb20 := keepO0 hg hb20
  refine ⟨fun _ => ⟨hB, hb4, hb6, hb8, hb20, trivial⟩, _, rfl, ?_⟩; intro a ha
  have hmm43 := Nat.mul_le_mul (show ((tn (cl p) ((2 * i) + 1)) * (tn (cl q) ((2 * i) + 1))) % 3329 ≤ 3328 by omega) (show rootN i ≤ 3328 by omega)
  refine c4 ha rfl (fun w _ _ ha => rn_mul ha (((tn (cl p) ((2 * i) + 1)) * (tn (cl q) ((2 * i) + 1))) % 3329) (rootN i) rfl rfl (by omega)) (fun w _ _ ha => rn_add ha ((tn (cl p) (2 * i)) * (tn (cl q) (2 * i))) ((((tn (cl p) ((2 * i) + 1)) * (tn (cl q) ((2 * i) + 1))) % 3329) * (rootN i)) rfl rfl (by omega)) (fun w _ _ ha => rn_rem ha (((tn (cl p) (2 * i)) * (tn (cl q) (2 * i))) + ((((tn (cl p) ((2 * i) + 1)) * (tn (cl q) ((2 * i) + 1))) % 3329) * (rootN i))) 3329 rfl rfl (by omega)) (fun w _ _ ha => r_indexArr (i := 2 * i) ha (2 * i) Tryz.runUnderlying44 Tryz.sizeOf3 rfl rfl (by omega) (by omega)) ?_; intro a ha
  refine cstore ha rfl rfl (v := ei (((((tn (cl p) (2 * i)) * (tn (cl q) (2 * i))) + ((((tn (cl p) ((2 * i) + 1)) * (tn (cl q) ((2 * i) + 1))) % 3329) * (rootN i))) % 3329 : Nat) : Int)) rfl rfl rfl rfl Tryz.sizeOf3 hb20 (by rw [List.length_map, (rtm_red _ _ _).len]; omega) rfl ?_
  intro a w44 ha hg hb20'
  rw [set_map] at hb20'
  replace hb20 := hb20'
  replace hB := keepB1 hg (by omega) hB
  replace hb4 := keepO1 hg (by omega) hb4
  replace hb6 := keepO1 hg (by omega) hb6
  replace hb8 := keepO1 hg (by omega) hb8
  refine cfin (k34 _ _ ?_)
  refine regionD (S := fun w => Below w0.heap.size w0 w ∧ w.heap[b4]? = some (.cells ((cl p).map ei).toArray 44 (0, 0)) ∧ w.heap[b6]? = some (.cells ((cl q).map ei).toArray 44 (0, 0)) ∧ w.heap[b8]? = some (.cells ((List.replicate 256 (0 : Int)).map ei).toArray 44 (0, 0)) ∧ w.heap[b20]? = some (.cells (((rtmA (cl p) (cl q) i).set (2 * i) (((((tn (cl p) (2 * i)) * (tn (cl q) (2 * i))) + ((((tn (cl p) ((2 * i) + 1)) * (tn (cl q) ((2 * i) + 1))) % 3329) * (rootN i))) % 3329 : Nat) : Int)).map ei).toArray 44 (0, 0)) ∧ True) [26] [0, 1, 2, 3, 4, 5, 6, 7, 8, 9, 10, 11, 12, 13, 14, 15, 16, 17, 18, 19, 20, 21, 22, 23, 24, 25] [0, 1, 2, 3, 4, 5, 6, 7, 8, 9, 10, 11, 12, 13, 14, 15, 16, 17, 18, 19, 20, 21, 22, 23, 24, 25, 26] mixed (by kernel_rfl) (fun w hg => ⟨keepB0 hg hB, keepO0 hg hb4, keepO0 hg hb6, keepO0 hg hb8, keepO0 hg hb20, trivial⟩) ?_
  intro w45 hg
  replace hB := keepB0 hg hB
  replace hb4 := keepO0 hg hb4
  replace hb6 := keepO0 hg hb6
  replace hb8 := keepO0 hg hb8
  replace hb20 := keepO0 hg hb20
  refine c6 ha rfl (cmv rfl) (fun w _ _ ha => rn_mul ha 2 i rfl rfl (by omega)) (fun w _ _ ha => rn_add ha (2 * i) 1 rfl rfl (by omega)) (cmv rfl) (fun w _ _ ha => rn_mul ha 2 i rfl rfl (by omega)) (fun w _ _ ha => r_indexArr (i := 2 * i) ha (2 * i) Tryz.runUnderlying44 Tryz.sizeOf3 rfl rfl (by omega) (by omega)) ?_; intro a ha
  have hlt46 := ((show Red (cl p) from (cl_red p hp))).lt (2 * i)
  refine c5 ha rfl (fun w ⟨_, hb4, _⟩ _ ha => n_of (r_load ha rfl Tryz.isAgg3 (cell_of hb4 (get_map ei (cl p) 0 (2 * i) (by rw [(cl_red _ (by rw [hp])).len]; omega)))) (k := tn (cl p) (2 * i)) ((show Red (cl p) from (cl_red p hp)).tn _)) (cmv rfl) (fun w _ _ ha => rn_mul ha 2 i rfl rfl (by omega)) (fun w _ _ ha => rn_add ha (2 * i) 1 rfl rfl (by omega)) (fun w _ _ ha => r_indexArr (i := (2 * i) + 1) ha ((2 * i) + 1) Tryz.runUnderlying44 Tryz.sizeOf3 rfl rfl (by omega) (by omega)) ?_; intro a ha
  have hlt47 := ((show Red (cl q) from (cl_red q hq))).lt ((2 * i) + 1)
  refine c1 ha rfl (fun w ⟨_, _, hb6, _⟩ _ ha => n_of (r_load ha rfl Tryz.isAgg3 (cell_of hb6 (get_map ei (cl q) 0 ((2 * i) + 1) (by rw [(cl_red _ (by rw [hq])).len]; omega)))) (k := tn (cl q) ((2 * i) + 1)) ((show Red (cl q) from (cl_red q hq)).tn _)) ?_; intro a ha
  have hmm48 := Nat.mul_le_mul (show tn (cl p) (2 * i) ≤ 3328 by omega) (show tn (cl q) ((2 * i) + 1) ≤ 3328 by omega)
  refine c5 ha rfl (fun w _ _ ha => rn_mul ha (tn (cl p) (2 * i)) (tn (cl q) ((2 * i) + 1)) rfl rfl (by omega)) (cmv rfl) (fun w _ _ ha => rn_mul ha 2 i rfl rfl (by omega)) (fun w _ _ ha => rn_add ha (2 * i) 1 rfl rfl (by omega)) (fun w _ _ ha => r_indexArr (i := (2 * i) + 1) ha ((2 * i) + 1) Tryz.runUnderlying44 Tryz.sizeOf3 rfl rfl (by omega) (by omega)) ?_; intro a ha
  have hlt49 := ((show Red (cl p) from (cl_red p hp))).lt ((2 * i) + 1)
  refine c4 ha rfl (fun w ⟨_, hb4, _⟩ _ ha => n_of (r_load ha rfl Tryz.isAgg3 (cell_of hb4 (get_map ei (cl p) 0 ((2 * i) + 1) (by rw [(cl_red _ (by rw [hp])).len]; omega)))) (k := tn (cl p) ((2 * i) + 1)) ((show Red (cl p) from (cl_red p hp)).tn _)) (cmv rfl) (fun w _ _ ha => rn_mul ha 2 i rfl rfl (by omega)) (fun w _ _ ha => r_indexArr (i := 2 * i) ha (2 * i) Tryz.runUnderlying44 Tryz.sizeOf3 rfl rfl (by omega) (by omega)) ?_; intro a ha
  have hlt50 := ((show Red (cl q) from (cl_red q hq))).lt (2 * i)
  refine c1 ha rfl (fun w ⟨_, _, hb6, _⟩ _ ha => n_of (r_load ha rfl Tryz.isAgg3 (cell_of hb6 (get_map ei (cl q) 0 (2 * i) (by rw [(cl_red _ (by rw [hq])).len]; omega)))) (k := tn (cl q) (2 * i)) ((show Red (cl q) from (cl_red q hq)).tn _)) ?_; intro a ha
  have hmm51 := Nat.mul_le_mul (show tn (cl p) ((2 * i) + 1) ≤ 3328 by omega) (show tn (cl q) (2 * i) ≤ 3328 by omega)
  refine c4 ha rfl (fun w _ _ ha => rn_mul ha (tn (cl p) ((2 * i) + 1)) (tn (cl q) (2 * i)) rfl rfl (by omega)) (fun w _ _ ha => rn_add ha ((tn (cl p) (2 * i)) * (tn (cl q) ((2 * i) + 1))) ((tn (cl p) ((2 * i) + 1)) * (tn (cl q) (2 * i))) rfl rfl (by omega)) (fun w _ _ ha => rn_rem ha (((tn (cl p) (2 * i)) * (tn (cl q) ((2 * i) + 1))) + ((tn (cl p) ((2 * i) + 1)) * (tn (cl q) (2 * i)))) 3329 rfl rfl (by omega)) (fun w _ _ ha => r_indexArr (i := (2 * i) + 1) ha ((2 * i) + 1) Tryz.runUnderlying44 Tryz.sizeOf3 rfl rfl (by omega) (by omega)) ?_; intro a ha
  refine cstore ha rfl rfl (v := ei (((((tn (cl p) (2 * i)) * (tn (cl q) ((2 * i) + 1))) + ((tn (cl p) ((2 * i) + 1)) * (tn (cl q) (2 * i)))) % 3329 : Nat) : Int)) rfl rfl rfl rfl Tryz.sizeOf3 hb20 (by rw [List.length_map, List.length_set, (rtm_red _ _ _).len]; omega) rfl ?_
  intro a w52 ha hg hb20'
  rw [set_map] at hb20'
  replace hb20 := hb20'
  replace hB := keepB1 hg (by omega) hB
  replace hb4 := keepO1 hg (by omega) hb4
  replace hb6 := keepO1 hg (by omega) hb6
  replace hb8 := keepO1 hg (by omega) hb8
  refine cfin (k32 _ _ ?_)
  refine region ?_
  refine s3 ha rfl (mv rfl) (fun _ ha => rn_add ha i 1 rfl rfl (by omega)) (av rfl) ?_; intro a ha
  exact ⟨i + 1, by omega, (by omega), ha.to [2, 3, 4, 5, 6] rfl, hB, hb4, hb6, hb8, hb20⟩
 ·skip
  replace hc30 := of_decide_eq_false hc30
  refine wp_exit ?_
  obtain rfl : i = 128 := by omega
  refine k22 _ _ ?_
  refine qr fun K53 k54 => ?_
  refine s1 ha rfl (fun _ ha => r_loadR ha rfl Tryz.isAgg44 Tryz.sizeOf44 (C := (rtmA (cl p) (cl q) 128).map ei) (by rw [List.length_map, (rtm_red _ _ _).len]) (cells_all hb20)) ?_; intro a ha
  refine sstoreW ha rfl rfl (one_ei _) Tryz.sizeOf44 (by rw [List.length_map, (rtm_red _ _ _).len]) hb8 (by rw [List.length_map, List.length_replicate]) ?_
  intro a w55 ha hg hb8'
  replace hb8 := hb8'
  replace hB := keepB1 hg (by omega) hB
  replace hb20 := keepO1 hg (by omega) hb20
  refine k54 _ _ ?_
  refine wp_ret ?_
  exact retC _ ha Tryz.results34 rfl hb8 Tryz.underlying44 rfl (by rw [List.length_map, (rtm_red _ _ _).len]; kernel_rfl) ⟨(by rw [tms_eq p q hp hq]), hB⟩

theorem c_rprod (p q : List Int) (w0 : World) (hp : p.length = 256) (hq : q.length = 256) :
    Calls Tryz.prog 62 #[.agg ((p).map ei).toArray, .agg ((q).map ei).toArray] w0 fun e w' => e = .returned (.agg ((prd p q).map ei).toArray) ∧ Below w0.heap.size w0 w' := by
 refine enter (args := [_, _]) Tryz.func62 rfl Tryz.ntmps62 rfl ?_
 intro a ha
 have hB := Below.refl w0.heap.size w0
 refine qr fun K1 k2 => ?_
 refine sbox ha rfl rfl ?_
 intro a w3 b4 ha hg hb4 hge4 hlt4
 have hz4 := Nat.le_trans hB.size hge4
 replace hB := keepB0 hg hB
 refine sbox ha rfl rfl ?_
 intro a w5 b6 ha hg hb6 hge6 hlt6
 have hz6 := Nat.le_trans hB.size hge6
 have hq4_6 := bl hb4 hge6
 replace hB := keepB0 hg hB
 replace hb4 := keepO0 hg hb4
 refine salloc ha zero_44T2 rfl ?_
 intro a w7 b8 ha hg hb8 hge8 hlt8
 have hz8 := Nat.le_trans hB.size hge8
 have hq4_8 := bl hb4 hge8
 have hq6_8 := bl hb6 hge8
 replace hB := keepB0 hg hB
 replace hb4 := keepO0 hg hb4
 replace hb6 := keepO0 hg hb6
 refine k2 _ _ ?_
 refine qr fun K9 k10 => ?_
 refine s1 ha rfl (fun _ ha => r_loadR ha rfl Tryz.isAgg44 Tryz.sizeOf44 (C := (p).map ei) (by rw [List.length_map, hp]) (cells_all hb4)) ?_; intro a ha
 refine scp ha (r_call ha [.agg ((p).map ei).toArray] rfl Tryz.call78) rfl rfl rfl (c_rclean p _ (by rw [hp])) ?_; intro w11 hg a ha
 replace hB := keepB0 hg hB
 replace hb4 := keepO0 hg hb4
 replace hb6 := keepO0 hg hb6
 replace hb8 := keepO0 hg hb8
 refine sstoreW ha rfl rfl (one_ei _) Tryz.sizeOf44 (by rw [List.length_map, (cl_red _ (by rw [hp])).len]) hb4 (by rw [List.length_map, hp]) ?_
 intro a w12 ha hg hb4'
 replace hb4 := hb4'
 replace hB := keepB1 hg (by omega) hB
 replace hb6 := keepO1 hg (by omega) hb6
 replace hb8 := keepO1 hg (by omega) hb8
 refine k10 _ _ ?_
 refine qr fun K13 k14 => ?_
 refine s1 ha rfl (fun _ ha => r_loadR ha rfl Tryz.isAgg44 Tryz.sizeOf44 (C := (q).map ei) (by rw [List.length_map, hq]) (cells_all hb6)) ?_; intro a ha
 refine scp ha (r_call ha [.agg ((q).map ei).toArray] rfl Tryz.call78) rfl rfl rfl (c_rclean q _ (by rw [hq])) ?_; intro w15 hg a ha
 replace hB := keepB0 hg hB
 replace hb4 := keepO0 hg hb4
 replace hb6 := keepO0 hg hb6
 replace hb8 := keepO0 hg hb8
 refine sstoreW ha rfl rfl (one_ei _) Tryz.sizeOf44 (by rw [List.length_map, (cl_red _ (by rw [hq])).len]) hb6 (by rw [List.length_map, hq]) ?_
 intro a w16 ha hg hb6'
 replace hb6 := hb6'
 replace hB := keepB1 hg (by omega) hB
 replace hb4 := keepO1 hg (by omega) hb4
 replace hb8 := keepO1 hg (by omega) hb8
 refine k14 _ _ ?_
 refine qr fun K17 k18 => ?_
 refine salloc ha zero_44T2 rfl ?_
 intro a w19 b20 ha hg hb20 hge20 hlt20
 have hz20 := Nat.le_trans hB.size hge20
 have hq4_20 := bl hb4 hge20
 have hq6_20 := bl hb6 hge20
 have hq8_20 := bl hb8 hge20
 replace hB := keepB0 hg hB
 replace hb4 := keepO0 hg hb4
 replace hb6 := keepO0 hg hb6
 replace hb8 := keepO0 hg hb8
 refine k18 _ _ ?_
 refine wp_seq_k fun K21 k22 => ?_
 refine qr fun K23 k24 => ?_
 refine s1 ha rfl (av rfl) ?_; intro a ha
 refine k24 _ _ ?_
 refine wp_block ?_
 refine loopG (fun (i : Nat) a w => (i ≤ 256) ∧ Has 61 [(2, .pointer (some ⟨b4, 0, none⟩)), (3, .pointer (some ⟨b6, 0, none⟩)), (4, .pointer (some ⟨b8, 0, none⟩)), (5, .pointer (some ⟨b20, 0, none⟩)), (6, en i)] a ∧ Below w0.heap.size w0 w ∧ w.heap[b4]? = some (.cells ((cl p).map ei).toArray 44 (0, 0)) ∧ w.heap[b6]? = some (.cells ((cl q).map ei).toArray 44 (0, 0)) ∧ w.heap[b8]? = some (.cells ((List.replicate 256 (0 : Int)).map ei).toArray 44 (0, 0)) ∧ w.heap[b20]? = some (.cells ((rprA (cl p) (cl q) i).map ei).toArray 44 (0, 0))) (fun i => 256 - i) 0 ⟨(by omega), ha.to [2, 3, 4, 5, 6] rfl, hB, hb4, hb6, hb8, hb20⟩ ?_
 clear ha a hB hb4 hb6 hb8 hb20
 intro i a w25 ⟨hki, ha, hB, hb4, hb6, hb8, hb20⟩
 refine wp_seq_k fun K26 k27 => ?_
 refine qr fun K28 k29 => ?_
 refine s2 ha rfl (mv rfl) (fun _ ha => r_lss ha ((i : Nat) : Int) 256 (decide (i < 256)) rfl rfl (decide_eq_decide.2 (by omega))) ?_; intro a ha
 refine k29 _ _ ?_
 refine cond_if ha rfl (fun hc30 => ?_) (fun hc30 => ?_)
 ·skip
  replace hc30 := of_decide_eq_true hc30
  refine wp_skip ?_
  refine k27 _ _ ?_
  refine wp_seq_k fun K31 k32 => ?_
  refine wp_block ?_
  refine qr fun K33 k34 => ?_
  refine s1 ha rfl (av rfl) ?_; intro a ha
  refine k34 _ _ ?_
  refine wp_block ?_
  refine loopG (fun (j : Nat) a w => (j ≤ 256) ∧ Has 61 [(2, .pointer (some ⟨b4, 0, none⟩)), (3, .pointer (some ⟨b6, 0, none⟩)), (4, .pointer (some ⟨b8, 0, none⟩)), (5, .pointer (some ⟨b20, 0, none⟩)), (6, en i), (7, en j)] a ∧ Below w0.heap.size w0 w ∧ w.heap[b4]? = some (.cells ((cl p).map ei).toArray 44 (0, 0)) ∧ w.heap[b6]? = some (.cells ((cl q).map ei).toArray 44 (0, 0)) ∧ w.heap[b8]? = some (.cells ((List.replicate 256 (0 : Int)).map ei).toArray 44 (0, 0)) ∧ w.heap[b20]? = some (.cells ((rprJ (cl p) (cl q) i (rprA (cl p) (cl q) i) j).map ei).toArray 44 (0, 0))) (fun j => 256 - j) 0 ⟨(by omega), ha.to [2, 3, 4, 5, 6, 7] rfl, hB, hb4, hb6, hb8, hb20⟩ ?_
  clear ha a hB hb4 hb6 hb8 hb20
  intro j a w35 ⟨hkj, ha, hB, hb4, hb6, hb8, hb20⟩
  refine wp_seq_k fun K36 k37 => ?_
  refine qr fun K38 k39 => ?_
  refine s2 ha rfl (mv rfl) (fun _ ha => r_lss ha ((j : Nat) : Int) 256 (decide (j < 256)) rfl rfl (decide_eq_decide.2 (by omega))) ?_; intro a ha
  refine k39 _ _ ?_
  refine cond_if ha rfl (fun hc40 => ?_) (fun hc40 => ?_)
  ·skip
   replace hc40 := of_decide_eq_true hc40
   refine wp_skip ?_
   refine k37 _ _ ?_
   refine wp_seq_k fun K41 k42 => ?_
   refine wp_block ?_
   refine wp_seq_k fun K43 k44 => ?_
   refine regionD (S := fun w => Below w0.heap.size w0 w ∧ w.heap[b4]? = some (.cells ((cl p).map ei).toArray 44 (0, 0)) ∧ w.heap[b6]? = some (.cells ((cl q).map ei).toArray 44 (0, 0)) ∧ w.heap[b8]? = some (.cells ((List.replicate 256 (0 : Int)).map ei).toArray 44 (0, 0)) ∧ w.heap[b20]? = some (.cells ((rprJ (cl p) (cl q) i (rprA (cl p) (cl q) i) j).map ei).toArray 44 (0, 0)) ∧ True) [] [0, 1, 2, 3, 4, 5, 6, 7, 8] [0, 1, 2, 3, 4, 5, 6, 7, 8] mixed (by kernel_rfl) (fun w hg => ⟨keepB0 hg hB, keepO0 hg hb4, keepO0 hg hb6, keepO0 hg hb8, keepO0 hg hb20, trivial⟩) ?_
   intro w45 hg
   replace hB := keepB0 hg hB
   replace hb4 := keepO0 hg hb4
   replace hb6 := keepO0 hg hb6
   replace hb8 := keepO0 hg hb8
   replace hb20 := keepO0 hg hb20
   refine c2 ha rfl (cmv rfl) (fun w _ _ ha => r_indexArr (i := i) ha i Tryz.runUnderlying44 Tryz.sizeOf3 rfl rfl (by omega) (by omega)) ?_; intro a ha
   have hlt46 := ((show Red (cl p) from (cl_red p hp))).lt i
   refine c3 ha rfl (fun w ⟨_, hb4, _⟩ _ ha => n_of (r_load ha rfl Tryz.isAgg3 (cell_of hb4 (get_map ei (cl p) 0 i (by rw [(cl_red _ (by rw [hp])).len]; omega)))) (k := tn (cl p) i) ((show Red (cl p) from (cl_red p hp)).tn _)) (cmv rfl) (fun w _ _ ha => r_indexArr (i := j) ha j Tryz.runUnderlying44 Tryz.sizeOf3 rfl rfl (by omega) (by omega)) ?_; intro a ha
   have hlt47 := ((show Red (cl q) from (cl_red q hq))).lt j
   refine c1 ha rfl (fun w ⟨_, _, hb6, _⟩ _ ha => n_of (r_load ha rfl Tryz.isAgg3 (cell_of hb6 (get_map ei (cl q) 0 j (by rw [(cl_red _ (by rw [hq])).len]; omega)))) (k := tn (cl q) j) ((show Red (cl q) from (cl_red q hq)).tn _)) ?_; intro a ha
   have hmm48 := Nat.mul_le_mul (show tn (cl p) i ≤ 3328 by omega) (show tn (cl q) j ≤ 3328 by omega)
   refine c3 ha rfl (fun w _ _ ha => rn_mul ha (tn (cl p) i) (tn (cl q) j) rfl rfl (by omega)) (fun w _ _ ha => rn_rem ha ((tn (cl p) i) * (tn (cl q) j)) 3329 rfl rfl (by omega)) (cav rfl) ?_; intro a ha
   refine cfin (k44 _ _ ?_)
   refine qr fun K49 k50 => ?_
   refine s4 ha rfl (mv rfl) (mv rfl) (fun _ ha => rn_add ha i j rfl rfl (by omega)) (fun _ ha => r_lss ha ((i + j : Nat) : Int) 256 (decide (i + j < 256)) rfl rfl (decide_eq_decide.2 (by omega))) ?_; intro a ha
   refine k50 _ _ ?_
   refine cond_if ha rfl (fun hc51 => ?_) (fun hc51 => ?_)
   ·skip
    replace hc51 := of_decide_eq_true hc51
    refine region ?_
    refine s6 ha rfl (mv rfl) (mv rfl) (fun _ ha => rn_add ha i j rfl rfl (by omega)) (mv rfl) (mv rfl) (fun _ ha => rn_add ha i j rfl rfl (by omega)) ?_; intro a ha
    refine s1 ha rfl (fun _ ha => r_indexArr (i := i + j) ha (i + j) Tryz.runUnderlying44 Tryz.sizeOf3 rfl rfl (by omega) (by omega)) ?_; intro a ha
    have hlt52 := ((show Red (rprJ (cl p) (cl q) i (rprA (cl p) (cl q) i) j) from (rprJ_red (cl p) (cl q) i (rpr_red (cl p) (cl q) i) j))).lt (i + j)
    refine s5 ha rfl (fun _ ha => n_of (r_load ha rfl Tryz.isAgg3 (cell_of hb20 (get_map ei (rprJ (cl p) (cl q) i (rprA (cl p) (cl q) i) j) 0 (i + j) (by rw [(rprJ_red _ _ _ (rpr_red _ _ _) _).len]; omega)))) (k := tn (rprJ (cl p) (cl q) i (rprA (cl p) (cl q) i) j) (i + j)) ((show Red (rprJ (cl p) (cl q) i (rprA (cl p) (cl q) i) j) from (rprJ_red (cl p) (cl q) i (rpr_red (cl p) (cl q) i) j)).tn _)) (mv rfl) (fun _ ha => rn_add ha (tn (rprJ (cl p) (cl q) i (rprA (cl p) (cl q) i) j) (i + j)) (((tn (cl p) i) * (tn (cl q) j)) % 3329) rfl rfl (by omega)) (fun _ ha => rn_rem ha ((tn (rprJ (cl p) (cl q) i (rprA (cl p) (cl q) i) j) (i + j)) + (((tn (cl p) i) * (tn (cl q) j)) % 3329)) 3329 rfl rfl (by omega)) (fun _ ha => r_indexArr (i := i + j) ha (i + j) Tryz.runUnderlying44 Tryz.sizeOf3 rfl rfl (by omega) (by omega)) ?_; intro a ha
    refine sstore ha (v := ei ((((tn (rprJ (cl p) (cl q) i (rprA (cl p) (cl q) i) j) (i + j)) + (((tn (cl p) i) * (tn (cl q) j)) % 3329)) % 3329 : Nat) : Int)) rfl rfl rfl rfl Tryz.sizeOf3 hb20 (by rw [List.length_map, (rprJ_red _ _ _ (rpr_red _ _ _) _).len]; omega) ?_
    intro a w53 ha hg hb20'
    rw [set_map] at hb20'
    replace hb20 := hb20'
    replace hB := keepB1 hg (by omega) hB
    replace hb4 := keepO1 hg (by omega) hb4
    replace hb6 := keepO1 hg (by omega) hb6
    replace hb8 := keepO1 hg (by omega) hb8
    refine k42 _ _ ?_
    refine region ?_
    refine s3 ha rfl (mv rfl) (fun _ ha => rn_add ha j 1 rfl rfl (by omega)) (av rfl) ?_; intro a ha
    exact ⟨j + 1, by omega, (by omega), ha.to [2, 3, 4, 5, 6, 7] rfl, hB, hb4, hb6, hb8, (by first | (rw [rprJ_lt (cl p) (cl q) i (rprA (cl p) (cl q) i) j (by omega)]; exact hb20) | (rw [rprJ_ge (cl p) (cl q) i (rprA (cl p) (cl q) i) j (by omega)]; exact hb20))⟩
   ·skip
    replace hc51 := of_decide_eq_false hc51
    refine region ?_
    refine s6 ha rfl (mv rfl) (mv rfl) (fun _ ha => rn_add ha i j rfl rfl (by omega)) (fun _ ha => rn_sub ha (i + j) 256 rfl rfl (by omega) (by omega)) (mv rfl) (mv rfl) ?_; intro a ha
    refine s3 ha rfl (fun _ ha => rn_add ha i j rfl rfl (by omega)) (fun _ ha => rn_sub ha (i + j) 256 rfl rfl (by omega) (by omega)) (fun _ ha => r_indexArr (i := (i + j) - 256) ha ((i + j) - 256) Tryz.runUnderlying44 Tryz.sizeOf3 rfl rfl (by omega) (by omega)) ?_; intro a ha
    have hlt54 := ((show Red (rprJ (cl p) (cl q) i (rprA (cl p) (cl q) i) j) from (rprJ_red (cl p) (cl q) i (rpr_red (cl p) (cl q) i) j))).lt ((i + j) - 256)
    refine s6 ha rfl (fun _ ha => n_of (r_load ha rfl Tryz.isAgg3 (cell_of hb20 (get_map ei (rprJ (cl p) (cl q) i (rprA (cl p) (cl q) i) j) 0 ((i + j) - 256) (by rw [(rprJ_red _ _ _ (rpr_red _ _ _) _).len]; omega)))) (k := tn (rprJ (cl p) (cl q) i (rprA (cl p) (cl q) i) j) ((i + j) - 256)) ((show Red (rprJ (cl p) (cl q) i (rprA (cl p) (cl q) i) j) from (rprJ_red (cl p) (cl q) i (rpr_red (cl p) (cl q) i) j)).tn _)) (fun _ ha => rn_add ha (tn (rprJ (cl p) (cl q) i (rprA (cl p) (cl q) i) j) ((i + j) - 256)) 3329 rfl rfl (by omega)) (mv rfl) (fun _ ha => rn_sub ha ((tn (rprJ (cl p) (cl q) i (rprA (cl p) (cl q) i) j) ((i + j) - 256)) + 3329) (((tn (cl p) i) * (tn (cl q) j)) % 3329) rfl rfl (by omega) (by omega)) (fun _ ha => rn_rem ha (((tn (rprJ (cl p) (cl q) i (rprA (cl p) (cl q) i) j) ((i + j) - 256)) + 3329) - (((tn (cl p) i) * (tn (cl q) j)) % 3329)) 3329 rfl rfl (by omega)) (fun _ ha => r_indexArr (i := (i + j) - 256) ha ((i + j) - 256) Tryz.runUnderlying44 Tryz.sizeOf3 rfl rfl (by omega) (by omega)) ?_; intro a ha
    refine sstore ha (v := ei (((((tn (rprJ (cl p) (cl q) i (rprA (cl p) (cl q) i) j) ((i + j) - 256)) + 3329) - (((tn (cl p) i) * (tn (cl q) j)) % 3329)) % 3329 : Nat) : Int)) rfl rfl rfl rfl Tryz.sizeOf3 hb20 (by rw [List.length_map, (rprJ_red _ _ _ (rpr_red _ _ _) _).len]; omega) ?_
    intro a w55 ha hg hb20'
    rw [set_map] at hb20'
    replace hb20 := hb20'
    replace hB := keepB1 hg (by omega) hB
    replace hb4 := keepO1 hg (by omega) hb4
    replace hb6 := keepO1 hg (by omega) hb6
    replace hb8 := keepO1 hg (by omega) hb8
    refine k42 _ _ ?_
    refine region ?_
    refine s3 ha rfl (mv rfl) (fun _ ha => rn_add ha j 1 rfl rfl (by omega)) (av rfl) ?_; intro a ha
    exact ⟨j + 1, by omega, (by omega), ha.to [2, 3, 4, 5, 6, 7] rfl, hB, hb4, hb6, hb8, (by first | (rw [rprJ_lt (cl p) (cl q) i (rprA (cl p) (cl q) i) j (by omega)]; exact hb20) | (rw [rprJ_ge (cl p) (cl q) i (rprA (cl p) (cl q) i) j (by omega)]; exact hb20))⟩
  ·skip
   replace hc40 := of_decide_eq_false hc40
   refine wp_exit ?_
   obtain rfl : j = 256 := by omega
   refine k32 _ _ ?_
   refine region ?_
   refine s3 ha rfl (mv rfl) (fun _ ha => rn_add ha i 1 rfl rfl (by omega)) (av rfl) ?_; intro a ha
   exact ⟨i + 1, by omega, (by omega), ha.to [2, 3, 4, 5, 6] rfl, hB, hb4, hb6, hb8, hb20⟩
 ·skip
  replace hc30 := of_decide_eq_false hc30
  refine wp_exit ?_
  obtain rfl : i = 256 := by omega
  refine k22 _ _ ?_
  refine qr fun K56 k57 => ?_
  refine s1 ha rfl (fun _ ha => r_loadR ha rfl Tryz.isAgg44 Tryz.sizeOf44 (C := (rprA (cl p) (cl q) 256).map ei) (by rw [List.length_map, (rpr_red _ _ _).len]) (cells_all hb20)) ?_; intro a ha
  refine sstoreW ha rfl rfl (one_ei _) Tryz.sizeOf44 (by rw [List.length_map, (rpr_red _ _ _).len]) hb8 (by rw [List.length_map, List.length_replicate]) ?_
  intro a w58 ha hg hb8'
  replace hb8 := hb8'
  replace hB := keepB1 hg (by omega) hB
  replace hb20 := keepO1 hg (by omega) hb20
  refine k57 _ _ ?_
  refine wp_ret ?_
  exact retC _ ha Tryz.results62 rfl hb8 Tryz.underlying44 rfl (by rw [List.length_map, (rpr_red _ _ _).len]; kernel_rfl) ⟨(by rw [prd_eq p q hp hq]), hB⟩
end Go.Proofs.YtaignhikdfpbbaaGreatDoor
