/- WALKS written by gen.py (own program) out of specs. -/
import Derived.Test.YtdiddkcoihpnhaaDoorZ4
namespace Go.Proofs.YtdiddkcoihpnhaaDoor
open Go.RowKit Go.Rx
set_option maxRecDepth 100000
set_option maxHeartbeats 4000000
set_option linter.unusedVariables false

theorem zero_33Z5 : ∀ w, (zeroValue 33).run Tryd.prog w = .ok (.agg ((List.replicate 256 (0 : Int)).map ei).toArray) w := fun _ => by kernel_rfl
theorem zero_34Z5 : ∀ w, (zeroValue 34).run Tryd.prog w = .ok (.agg ((List.replicate 256 (0 : Int)).map ei).toArray) w := fun _ => by kernel_rfl
theorem c_awake11  (w0 : World) (hG : Glob w0) :
    Calls Tryd.prog 35 #[] w0 fun e w' => e = .returned (.bool true) ∧ Below w0.heap.size w0 w' := by
  refine enter (args := []) Tryd.func35 rfl Tryd.ntmps35 rfl ?_
  intro a ha
  have hB := Below.refl w0.heap.size w0
  refine wp_seq_k fun K1 hK2 => ?_
  refine region ?_
  refine sv ha (r_assign ha rfl) rfl rfl rfl ?_; clear ha a; intro a ha
  refine hK2 _ _ ?_; clear hK2 K1
  refine wp_seq_k fun K3 hK4 => ?_
  refine region ?_
  refine salloc ha zero_33Z5 rfl ?_
  clear ha a; intro a w5 b6 ha hg hb6 hge6 hlt6
  have hz6 : w0.heap.size ≤ b6 := Nat.le_trans hB.size hge6
  replace hB := keepB0 hg hB
  clear hg hge6 hlt6
  refine hK4 _ _ ?_; clear hK4 K3
  refine wp_seq_k fun K7 hK8 => ?_
  refine region ?_
  refine salloc ha zero_33Z5 rfl ?_
  clear ha a; intro a w9 b10 ha hg hb10 hge10 hlt10
  have hz10 : w0.heap.size ≤ b10 := Nat.le_trans hB.size hge10
  have hq6_10 : b6 < b10 := Nat.lt_of_lt_of_le (lt_of_block hb6) hge10
  replace hB := keepB0 hg hB
  replace hb6 := keepO0 hg hb6
  clear hg hge10 hlt10
  refine hK8 _ _ ?_; clear hK8 K7
  refine wp_seq_k fun K11 hK12 => ?_
  refine region ?_
  refine salloc ha zero_33Z5 rfl ?_
  clear ha a; intro a w13 b14 ha hg hb14 hge14 hlt14
  have hz14 : w0.heap.size ≤ b14 := Nat.le_trans hB.size hge14
  have hq6_14 : b6 < b14 := Nat.lt_of_lt_of_le (lt_of_block hb6) hge14
  have hq10_14 : b10 < b14 := Nat.lt_of_lt_of_le (lt_of_block hb10) hge14
  replace hB := keepB0 hg hB
  replace hb6 := keepO0 hg hb6
  replace hb10 := keepO0 hg hb10
  clear hg hge14 hlt14
  refine hK12 _ _ ?_; clear hK12 K11
  refine wp_seq_k fun K15 hK16 => ?_
  refine region ?_
  refine sv ha (r_indexArr (i := 0) ha 0 Tryd.runUnderlying33 Tryd.sizeOf3 rfl rfl (by omega) (by omega)) rfl rfl rfl ?_; clear ha a; intro a ha
  refine sstore ha (v := ei 1) rfl rfl rfl rfl Tryd.sizeOf3 hb6 (by rw [List.length_map, List.length_replicate]; omega) ?_
  clear ha a; intro a w17 ha hg hb6'
  rw [set_map] at hb6'
  clear hb6; have hb6 := hb6'; clear hb6'
  replace hB := keepB1 hg (by omega) hB
  replace hb10 := keepO1 hg (by omega) hb10
  replace hb14 := keepO1 hg (by omega) hb14
  clear hg
  refine hK16 _ _ ?_; clear hK16 K15
  refine wp_seq_k fun K18 hK19 => ?_
  refine region ?_
  refine sv ha (r_indexArr (i := 255) ha 255 Tryd.runUnderlying33 Tryd.sizeOf3 rfl rfl (by omega) (by omega)) rfl rfl rfl ?_; clear ha a; intro a ha
  refine sstore ha (v := ei 1) rfl rfl rfl rfl Tryd.sizeOf3 hb10 (by rw [List.length_map, List.length_replicate]; omega) ?_
  clear ha a; intro a w20 ha hg hb10'
  rw [set_map] at hb10'
  clear hb10; have hb10 := hb10'; clear hb10'
  replace hB := keepB1 hg (by omega) hB
  replace hb6 := keepO1 hg (by omega) hb6
  replace hb14 := keepO1 hg (by omega) hb14
  clear hg
  refine hK19 _ _ ?_; clear hK19 K18
  refine wp_seq_k fun K21 hK22 => ?_
  refine region ?_
  refine sv ha (r_indexArr (i := 1) ha 1 Tryd.runUnderlying33 Tryd.sizeOf3 rfl rfl (by omega) (by omega)) rfl rfl rfl ?_; clear ha a; intro a ha
  refine sstore ha (v := ei 1) rfl rfl rfl rfl Tryd.sizeOf3 hb14 (by rw [List.length_map, List.length_replicate]; omega) ?_
  clear ha a; intro a w23 ha hg hb14'
  rw [set_map] at hb14'
  clear hb14; have hb14 := hb14'; clear hb14'
  replace hB := keepB1 hg (by omega) hB
  replace hb6 := keepO1 hg (by omega) hb6
  replace hb10 := keepO1 hg (by omega) hb10
  clear hg
  refine hK22 _ _ ?_; clear hK22 K21
  refine wp_seq_k fun K24 hK25 => ?_
  refine region ?_
  refine sv ha (r_loadR ha rfl Tryd.isAgg33 Tryd.sizeOf33 (C := ((List.replicate 256 (0 : Int)).set 255 1).map ei) (by rw [List.length_map, List.length_set, List.length_replicate]) (cells_all hb10)) rfl rfl rfl ?_; clear ha a; intro a ha
  refine sv ha (r_loadR ha rfl Tryd.isAgg33 Tryd.sizeOf33 (C := ((List.replicate 256 (0 : Int)).set 1 1).map ei) (by rw [List.length_map, List.length_set, List.length_replicate]) (cells_all hb14)) rfl rfl rfl ?_; clear ha a; intro a ha
  refine sc ha (r_call ha [.agg ((((List.replicate 256 (0 : Int)).set 255 1)).map ei).toArray, .agg ((((List.replicate 256 (0 : Int)).set 1 1)).map ei).toArray] rfl Tryd.call48) rfl rfl rfl (c_prod ((List.replicate 256 (0 : Int)).set 255 1) ((List.replicate 256 (0 : Int)).set 1 1) _ (by rw [List.length_set, List.length_replicate]) (by rw [List.length_set, List.length_replicate]) (glob_keep hG hB)) ?_
  clear ha a
  rintro e w26 ⟨rfl, hBc⟩
  have hg := grown_call hBc; clear hBc
  replace hB := keepB0 hg hB
  replace hb6 := keepO0 hg hb6
  replace hb10 := keepO0 hg hb10
  replace hb14 := keepO0 hg hb14
  clear hg
  refine ⟨_, rfl, ?_⟩; intro a ha
  refine salloc ha zero_34Z5 rfl ?_
  clear ha a; intro a w27 b28 ha hg hb28 hge28 hlt28
  have hz28 : w0.heap.size ≤ b28 := Nat.le_trans hB.size hge28
  have hq6_28 : b6 < b28 := Nat.lt_of_lt_of_le (lt_of_block hb6) hge28
  have hq10_28 : b10 < b28 := Nat.lt_of_lt_of_le (lt_of_block hb10) hge28
  have hq14_28 : b14 < b28 := Nat.lt_of_lt_of_le (lt_of_block hb14) hge28
  replace hB := keepB0 hg hB
  replace hb6 := keepO0 hg hb6
  replace hb10 := keepO0 hg hb10
  replace hb14 := keepO0 hg hb14
  clear hg hge28 hlt28
  refine sstoreW ha rfl rfl (one_ei _) Tryd.sizeOf34 (by rw [List.length_map, (prd_red _ _).len]) hb28 (by rw [List.length_map, List.length_replicate]) ?_
  clear ha a; intro a w29 ha hg hb28'
  clear hb28; have hb28 := hb28'; clear hb28'
  replace hB := keepB1 hg (by omega) hB
  replace hb6 := keepO1 hg (by omega) hb6
  replace hb10 := keepO1 hg (by omega) hb10
  replace hb14 := keepO1 hg (by omega) hb14
  clear hg
  refine hK25 _ _ ?_; clear hK25 K24
  refine wp_seq_k fun K30 hK31 => ?_
  refine region ?_
  refine sv ha (r_loadR ha rfl Tryd.isAgg33 Tryd.sizeOf33 (C := ((List.replicate 256 (0 : Int)).set 0 1).map ei) (by rw [List.length_map, List.length_set, List.length_replicate]) (cells_all hb6)) rfl rfl rfl ?_; clear ha a; intro a ha
  refine sc ha (r_call ha [.agg ((((List.replicate 256 (0 : Int)).set 0 1)).map ei).toArray] rfl Tryd.call42) rfl rfl rfl (c_fwd ((List.replicate 256 (0 : Int)).set 0 1) _ (by rw [List.length_set, List.length_replicate]) (glob_keep hG hB)) ?_
  clear ha a
  rintro e w32 ⟨rfl, hBc⟩
  have hg := grown_call hBc; clear hBc
  replace hB := keepB0 hg hB
  replace hb6 := keepO0 hg hb6
  replace hb10 := keepO0 hg hb10
  replace hb14 := keepO0 hg hb14
  replace hb28 := keepO0 hg hb28
  clear hg
  refine ⟨_, rfl, ?_⟩; intro a ha
  refine salloc ha zero_34Z5 rfl ?_
  clear ha a; intro a w33 b34 ha hg hb34 hge34 hlt34
  have hz34 : w0.heap.size ≤ b34 := Nat.le_trans hB.size hge34
  have hq6_34 : b6 < b34 := Nat.lt_of_lt_of_le (lt_of_block hb6) hge34
  have hq10_34 : b10 < b34 := Nat.lt_of_lt_of_le (lt_of_block hb10) hge34
  have hq14_34 : b14 < b34 := Nat.lt_of_lt_of_le (lt_of_block hb14) hge34
  have hq28_34 : b28 < b34 := Nat.lt_of_lt_of_le (lt_of_block hb28) hge34
  replace hB := keepB0 hg hB
  replace hb6 := keepO0 hg hb6
  replace hb10 := keepO0 hg hb10
  replace hb14 := keepO0 hg hb14
  replace hb28 := keepO0 hg hb28
  clear hg hge34 hlt34
  refine sstoreW ha rfl rfl (one_ei _) Tryd.sizeOf34 (by rw [List.length_map, (fwd_red _ (by rw [List.length_set, List.length_replicate])).len]) hb34 (by rw [List.length_map, List.length_replicate]) ?_
  clear ha a; intro a w35 ha hg hb34'
  clear hb34; have hb34 := hb34'; clear hb34'
  replace hB := keepB1 hg (by omega) hB
  replace hb6 := keepO1 hg (by omega) hb6
  replace hb10 := keepO1 hg (by omega) hb10
  replace hb14 := keepO1 hg (by omega) hb14
  replace hb28 := keepO1 hg (by omega) hb28
  clear hg
  refine hK31 _ _ ?_; clear hK31 K30
  refine wp_seq_k fun K36 hK37 => ?_
  refine region ?_
  refine sv ha (r_loadR ha rfl Tryd.isAgg34 Tryd.sizeOf34 (C := (fwd ((List.replicate 256 (0 : Int)).set 0 1)).map ei) (by rw [List.length_map, (fwd_red _ (by rw [List.length_set, List.length_replicate])).len]) (cells_all hb34)) rfl rfl rfl ?_; clear ha a; intro a ha
  refine sc ha (r_call ha [.agg (((fwd ((List.replicate 256 (0 : Int)).set 0 1))).map ei).toArray] rfl Tryd.call44) rfl rfl rfl (c_inv (fwd ((List.replicate 256 (0 : Int)).set 0 1)) _ (by rw [(fwd_red _ (by rw [List.length_set, List.length_replicate])).len]) (glob_keep hG hB)) ?_
  clear ha a
  rintro e w38 ⟨rfl, hBc⟩
  have hg := grown_call hBc; clear hBc
  replace hB := keepB0 hg hB
  replace hb6 := keepO0 hg hb6
  replace hb10 := keepO0 hg hb10
  replace hb14 := keepO0 hg hb14
  replace hb28 := keepO0 hg hb28
  replace hb34 := keepO0 hg hb34
  clear hg
  refine ⟨_, rfl, ?_⟩; intro a ha
  refine salloc ha zero_34Z5 rfl ?_
  clear ha a; intro a w39 b40 ha hg hb40 hge40 hlt40
  have hz40 : w0.heap.size ≤ b40 := Nat.le_trans hB.size hge40
  have hq6_40 : b6 < b40 := Nat.lt_of_lt_of_le (lt_of_block hb6) hge40
  have hq10_40 : b10 < b40 := Nat.lt_of_lt_of_le (lt_of_block hb10) hge40
  have hq14_40 : b14 < b40 := Nat.lt_of_lt_of_le (lt_of_block hb14) hge40
  have hq28_40 : b28 < b40 := Nat.lt_of_lt_of_le (lt_of_block hb28) hge40
  have hq34_40 : b34 < b40 := Nat.lt_of_lt_of_le (lt_of_block hb34) hge40
  replace hB := keepB0 hg hB
  replace hb6 := keepO0 hg hb6
  replace hb10 := keepO0 hg hb10
  replace hb14 := keepO0 hg hb14
  replace hb28 := keepO0 hg hb28
  replace hb34 := keepO0 hg hb34
  clear hg hge40 hlt40
  refine sstoreW ha rfl rfl (one_ei _) Tryd.sizeOf34 (by rw [List.length_map, (inv_red _ (by rw [(fwd_red _ (by rw [List.length_set, List.length_replicate])).len])).len]) hb40 (by rw [List.length_map, List.length_replicate]) ?_
  clear ha a; intro a w41 ha hg hb40'
  clear hb40; have hb40 := hb40'; clear hb40'
  replace hB := keepB1 hg (by omega) hB
  replace hb6 := keepO1 hg (by omega) hb6
  replace hb10 := keepO1 hg (by omega) hb10
  replace hb14 := keepO1 hg (by omega) hb14
  replace hb28 := keepO1 hg (by omega) hb28
  replace hb34 := keepO1 hg (by omega) hb34
  clear hg
  refine hK37 _ _ ?_; clear hK37 K36
  refine wp_seq_k fun K42 hK43 => ?_
  refine region ?_
  refine sv ha (r_loadR ha rfl Tryd.isAgg34 Tryd.sizeOf34 (C := (fwd ((List.replicate 256 (0 : Int)).set 0 1)).map ei) (by rw [List.length_map, (fwd_red _ (by rw [List.length_set, List.length_replicate])).len]) (cells_all hb34)) rfl rfl rfl ?_; clear ha a; intro a ha
  refine sv ha (r_loadR ha rfl Tryd.isAgg34 Tryd.sizeOf34 (C := (fwd ((List.replicate 256 (0 : Int)).set 0 1)).map ei) (by rw [List.length_map, (fwd_red _ (by rw [List.length_set, List.length_replicate])).len]) (cells_all hb34)) rfl rfl rfl ?_; clear ha a; intro a ha
  refine sc ha (r_call ha [.agg (((fwd ((List.replicate 256 (0 : Int)).set 0 1))).map ei).toArray, .agg (((fwd ((List.replicate 256 (0 : Int)).set 0 1))).map ei).toArray] rfl Tryd.call46) rfl rfl rfl (c_times (fwd ((List.replicate 256 (0 : Int)).set 0 1)) (fwd ((List.replicate 256 (0 : Int)).set 0 1)) _ (by rw [(fwd_red _ (by rw [List.length_set, List.length_replicate])).len]) (by rw [(fwd_red _ (by rw [List.length_set, List.length_replicate])).len]) (glob_keep hG hB)) ?_
  clear ha a
  rintro e w44 ⟨rfl, hBc⟩
  have hg := grown_call hBc; clear hBc
  replace hB := keepB0 hg hB
  replace hb6 := keepO0 hg hb6
  replace hb10 := keepO0 hg hb10
  replace hb14 := keepO0 hg hb14
  replace hb28 := keepO0 hg hb28
  replace hb34 := keepO0 hg hb34
  replace hb40 := keepO0 hg hb40
  clear hg
  refine ⟨_, rfl, ?_⟩; intro a ha
  refine salloc ha zero_34Z5 rfl ?_
  clear ha a; intro a w45 b46 ha hg hb46 hge46 hlt46
  have hz46 : w0.heap.size ≤ b46 := Nat.le_trans hB.size hge46
  have hq6_46 : b6 < b46 := Nat.lt_of_lt_of_le (lt_of_block hb6) hge46
  have hq10_46 : b10 < b46 := Nat.lt_of_lt_of_le (lt_of_block hb10) hge46
  have hq14_46 : b14 < b46 := Nat.lt_of_lt_of_le (lt_of_block hb14) hge46
  have hq28_46 : b28 < b46 := Nat.lt_of_lt_of_le (lt_of_block hb28) hge46
  have hq34_46 : b34 < b46 := Nat.lt_of_lt_of_le (lt_of_block hb34) hge46
  have hq40_46 : b40 < b46 := Nat.lt_of_lt_of_le (lt_of_block hb40) hge46
  replace hB := keepB0 hg hB
  replace hb6 := keepO0 hg hb6
  replace hb10 := keepO0 hg hb10
  replace hb14 := keepO0 hg hb14
  replace hb28 := keepO0 hg hb28
  replace hb34 := keepO0 hg hb34
  replace hb40 := keepO0 hg hb40
  clear hg hge46 hlt46
  refine sstoreW ha rfl rfl (one_ei _) Tryd.sizeOf34 (by rw [List.length_map, (tms_red _ _).len]) hb46 (by rw [List.length_map, List.length_replicate]) ?_
  clear ha a; intro a w47 ha hg hb46'
  clear hb46; have hb46 := hb46'; clear hb46'
  replace hB := keepB1 hg (by omega) hB
  replace hb6 := keepO1 hg (by omega) hb6
  replace hb10 := keepO1 hg (by omega) hb10
  replace hb14 := keepO1 hg (by omega) hb14
  replace hb28 := keepO1 hg (by omega) hb28
  replace hb34 := keepO1 hg (by omega) hb34
  replace hb40 := keepO1 hg (by omega) hb40
  clear hg
  refine hK43 _ _ ?_; clear hK43 K42
  refine wp_seq_k fun K48 hK49 => ?_
  refine region ?_
  refine sv ha (r_loadR ha rfl Tryd.isAgg33 Tryd.sizeOf33 (C := ((List.replicate 256 (0 : Int)).set 0 1).map ei) (by rw [List.length_map, List.length_set, List.length_replicate]) (cells_all hb6)) rfl rfl rfl ?_; clear ha a; intro a ha
  refine sv ha (r_loadR ha rfl Tryd.isAgg33 Tryd.sizeOf33 (C := ((List.replicate 256 (0 : Int)).set 0 1).map ei) (by rw [List.length_map, List.length_set, List.length_replicate]) (cells_all hb6)) rfl rfl rfl ?_; clear ha a; intro a ha
  refine sc ha (r_call ha [.agg ((((List.replicate 256 (0 : Int)).set 0 1)).map ei).toArray, .agg ((((List.replicate 256 (0 : Int)).set 0 1)).map ei).toArray] rfl Tryd.call36) rfl rfl rfl (c_plus ((List.replicate 256 (0 : Int)).set 0 1) ((List.replicate 256 (0 : Int)).set 0 1) _ (by rw [List.length_set, List.length_replicate]) (by rw [List.length_set, List.length_replicate])) ?_
  clear ha a
  rintro e w50 ⟨rfl, hBc⟩
  have hg := grown_call hBc; clear hBc
  replace hB := keepB0 hg hB
  replace hb6 := keepO0 hg hb6
  replace hb10 := keepO0 hg hb10
  replace hb14 := keepO0 hg hb14
  replace hb28 := keepO0 hg hb28
  replace hb34 := keepO0 hg hb34
  replace hb40 := keepO0 hg hb40
  replace hb46 := keepO0 hg hb46
  clear hg
  refine ⟨_, rfl, ?_⟩; intro a ha
  refine salloc ha zero_34Z5 rfl ?_
  clear ha a; intro a w51 b52 ha hg hb52 hge52 hlt52
  have hz52 : w0.heap.size ≤ b52 := Nat.le_trans hB.size hge52
  have hq6_52 : b6 < b52 := Nat.lt_of_lt_of_le (lt_of_block hb6) hge52
  have hq10_52 : b10 < b52 := Nat.lt_of_lt_of_le (lt_of_block hb10) hge52
  have hq14_52 : b14 < b52 := Nat.lt_of_lt_of_le (lt_of_block hb14) hge52
  have hq28_52 : b28 < b52 := Nat.lt_of_lt_of_le (lt_of_block hb28) hge52
  have hq34_52 : b34 < b52 := Nat.lt_of_lt_of_le (lt_of_block hb34) hge52
  have hq40_52 : b40 < b52 := Nat.lt_of_lt_of_le (lt_of_block hb40) hge52
  have hq46_52 : b46 < b52 := Nat.lt_of_lt_of_le (lt_of_block hb46) hge52
  replace hB := keepB0 hg hB
  replace hb6 := keepO0 hg hb6
  replace hb10 := keepO0 hg hb10
  replace hb14 := keepO0 hg hb14
  replace hb28 := keepO0 hg hb28
  replace hb34 := keepO0 hg hb34
  replace hb40 := keepO0 hg hb40
  replace hb46 := keepO0 hg hb46
  clear hg hge52 hlt52
  refine sstoreW ha rfl rfl (one_ei _) Tryd.sizeOf34 (by rw [List.length_map, (pl_red _ _ (by rw [List.length_set, List.length_replicate])).len]) hb52 (by rw [List.length_map, List.length_replicate]) ?_
  clear ha a; intro a w53 ha hg hb52'
  clear hb52; have hb52 := hb52'; clear hb52'
  replace hB := keepB1 hg (by omega) hB
  replace hb6 := keepO1 hg (by omega) hb6
  replace hb10 := keepO1 hg (by omega) hb10
  replace hb14 := keepO1 hg (by omega) hb14
  replace hb28 := keepO1 hg (by omega) hb28
  replace hb34 := keepO1 hg (by omega) hb34
  replace hb40 := keepO1 hg (by omega) hb40
  replace hb46 := keepO1 hg (by omega) hb46
  clear hg
  refine hK49 _ _ ?_; clear hK49 K48
  refine wp_seq_k fun K54 hK55 => ?_
  refine region ?_
  refine sv ha (r_loadR ha rfl Tryd.isAgg33 Tryd.sizeOf33 (C := ((List.replicate 256 (0 : Int)).set 1 1).map ei) (by rw [List.length_map, List.length_set, List.length_replicate]) (cells_all hb14)) rfl rfl rfl ?_; clear ha a; intro a ha
  refine sv ha (r_loadR ha rfl Tryd.isAgg33 Tryd.sizeOf33 (C := ((List.replicate 256 (0 : Int)).set 255 1).map ei) (by rw [List.length_map, List.length_set, List.length_replicate]) (cells_all hb10)) rfl rfl rfl ?_; clear ha a; intro a ha
  refine sc ha (r_call ha [.agg ((((List.replicate 256 (0 : Int)).set 1 1)).map ei).toArray, .agg ((((List.replicate 256 (0 : Int)).set 255 1)).map ei).toArray] rfl Tryd.call38) rfl rfl rfl (c_minus ((List.replicate 256 (0 : Int)).set 1 1) ((List.replicate 256 (0 : Int)).set 255 1) _ (by rw [List.length_set, List.length_replicate]) (by rw [List.length_set, List.length_replicate])) ?_
  clear ha a
  rintro e w56 ⟨rfl, hBc⟩
  have hg := grown_call hBc; clear hBc
  replace hB := keepB0 hg hB
  replace hb6 := keepO0 hg hb6
  replace hb10 := keepO0 hg hb10
  replace hb14 := keepO0 hg hb14
  replace hb28 := keepO0 hg hb28
  replace hb34 := keepO0 hg hb34
  replace hb40 := keepO0 hg hb40
  replace hb46 := keepO0 hg hb46
  replace hb52 := keepO0 hg hb52
  clear hg
  refine ⟨_, rfl, ?_⟩; intro a ha
  refine salloc ha zero_34Z5 rfl ?_
  clear ha a; intro a w57 b58 ha hg hb58 hge58 hlt58
  have hz58 : w0.heap.size ≤ b58 := Nat.le_trans hB.size hge58
  have hq6_58 : b6 < b58 := Nat.lt_of_lt_of_le (lt_of_block hb6) hge58
  have hq10_58 : b10 < b58 := Nat.lt_of_lt_of_le (lt_of_block hb10) hge58
  have hq14_58 : b14 < b58 := Nat.lt_of_lt_of_le (lt_of_block hb14) hge58
  have hq28_58 : b28 < b58 := Nat.lt_of_lt_of_le (lt_of_block hb28) hge58
  have hq34_58 : b34 < b58 := Nat.lt_of_lt_of_le (lt_of_block hb34) hge58
  have hq40_58 : b40 < b58 := Nat.lt_of_lt_of_le (lt_of_block hb40) hge58
  have hq46_58 : b46 < b58 := Nat.lt_of_lt_of_le (lt_of_block hb46) hge58
  have hq52_58 : b52 < b58 := Nat.lt_of_lt_of_le (lt_of_block hb52) hge58
  replace hB := keepB0 hg hB
  replace hb6 := keepO0 hg hb6
  replace hb10 := keepO0 hg hb10
  replace hb14 := keepO0 hg hb14
  replace hb28 := keepO0 hg hb28
  replace hb34 := keepO0 hg hb34
  replace hb40 := keepO0 hg hb40
  replace hb46 := keepO0 hg hb46
  replace hb52 := keepO0 hg hb52
  clear hg hge58 hlt58
  refine sstoreW ha rfl rfl (one_ei _) Tryd.sizeOf34 (by rw [List.length_map, (mi_red _ _ (by rw [List.length_set, List.length_replicate])).len]) hb58 (by rw [List.length_map, List.length_replicate]) ?_
  clear ha a; intro a w59 ha hg hb58'
  clear hb58; have hb58 := hb58'; clear hb58'
  replace hB := keepB1 hg (by omega) hB
  replace hb6 := keepO1 hg (by omega) hb6
  replace hb10 := keepO1 hg (by omega) hb10
  replace hb14 := keepO1 hg (by omega) hb14
  replace hb28 := keepO1 hg (by omega) hb28
  replace hb34 := keepO1 hg (by omega) hb34
  replace hb40 := keepO1 hg (by omega) hb40
  replace hb46 := keepO1 hg (by omega) hb46
  replace hb52 := keepO1 hg (by omega) hb52
  clear hg
  refine hK55 _ _ ?_; clear hK55 K54
  refine wp_seq_k fun K60 hK61 => ?_
  refine region ?_
  refine sv ha (r_loadR ha rfl Tryd.isAgg34 Tryd.sizeOf34 (C := (mi ((List.replicate 256 (0 : Int)).set 1 1) ((List.replicate 256 (0 : Int)).set 255 1)).map ei) (by rw [List.length_map, (mi_red _ _ (by rw [List.length_set, List.length_replicate])).len]) (cells_all hb58)) rfl rfl rfl ?_; clear ha a; intro a ha
  refine sc ha (r_call ha [.agg (((mi ((List.replicate 256 (0 : Int)).set 1 1) ((List.replicate 256 (0 : Int)).set 255 1))).map ei).toArray] rfl Tryd.call40) rfl rfl rfl (c_clean (mi ((List.replicate 256 (0 : Int)).set 1 1) ((List.replicate 256 (0 : Int)).set 255 1)) _ (by rw [(mi_red _ _ (by rw [List.length_set, List.length_replicate])).len])) ?_
  clear ha a
  rintro e w62 ⟨rfl, hBc⟩
  have hg := grown_call hBc; clear hBc
  replace hB := keepB0 hg hB
  replace hb6 := keepO0 hg hb6
  replace hb10 := keepO0 hg hb10
  replace hb14 := keepO0 hg hb14
  replace hb28 := keepO0 hg hb28
  replace hb34 := keepO0 hg hb34
  replace hb40 := keepO0 hg hb40
  replace hb46 := keepO0 hg hb46
  replace hb52 := keepO0 hg hb52
  replace hb58 := keepO0 hg hb58
  clear hg
  refine ⟨_, rfl, ?_⟩; intro a ha
  refine salloc ha zero_34Z5 rfl ?_
  clear ha a; intro a w63 b64 ha hg hb64 hge64 hlt64
  have hz64 : w0.heap.size ≤ b64 := Nat.le_trans hB.size hge64
  have hq6_64 : b6 < b64 := Nat.lt_of_lt_of_le (lt_of_block hb6) hge64
  have hq10_64 : b10 < b64 := Nat.lt_of_lt_of_le (lt_of_block hb10) hge64
  have hq14_64 : b14 < b64 := Nat.lt_of_lt_of_le (lt_of_block hb14) hge64
  have hq28_64 : b28 < b64 := Nat.lt_of_lt_of_le (lt_of_block hb28) hge64
  have hq34_64 : b34 < b64 := Nat.lt_of_lt_of_le (lt_of_block hb34) hge64
  have hq40_64 : b40 < b64 := Nat.lt_of_lt_of_le (lt_of_block hb40) hge64
  have hq46_64 : b46 < b64 := Nat.lt_of_lt_of_le (lt_of_block hb46) hge64
  have hq52_64 : b52 < b64 := Nat.lt_of_lt_of_le (lt_of_block hb52) hge64
  have hq58_64 : b58 < b64 := Nat.lt_of_lt_of_le (lt_of_block hb58) hge64
  replace hB := keepB0 hg hB
  replace hb6 := keepO0 hg hb6
  replace hb10 := keepO0 hg hb10
  replace hb14 := keepO0 hg hb14
  replace hb28 := keepO0 hg hb28
  replace hb34 := keepO0 hg hb34
  replace hb40 := keepO0 hg hb40
  replace hb46 := keepO0 hg hb46
  replace hb52 := keepO0 hg hb52
  replace hb58 := keepO0 hg hb58
  clear hg hge64 hlt64
  refine sstoreW ha rfl rfl (one_ei _) Tryd.sizeOf34 (by rw [List.length_map, (cl_red _ (by rw [(mi_red _ _ (by rw [List.length_set, List.length_replicate])).len])).len]) hb64 (by rw [List.length_map, List.length_replicate]) ?_
  clear ha a; intro a w65 ha hg hb64'
  clear hb64; have hb64 := hb64'; clear hb64'
  replace hB := keepB1 hg (by omega) hB
  replace hb6 := keepO1 hg (by omega) hb6
  replace hb10 := keepO1 hg (by omega) hb10
  replace hb14 := keepO1 hg (by omega) hb14
  replace hb28 := keepO1 hg (by omega) hb28
  replace hb34 := keepO1 hg (by omega) hb34
  replace hb40 := keepO1 hg (by omega) hb40
  replace hb46 := keepO1 hg (by omega) hb46
  replace hb52 := keepO1 hg (by omega) hb52
  replace hb58 := keepO1 hg (by omega) hb58
  clear hg
  refine hK61 _ _ ?_; clear hK61 K60
  refine wp_seq_k fun K66 hK67 => ?_
  refine region ?_
  refine sv ha (r_indexArr (i := 0) ha 0 Tryd.runUnderlying34 Tryd.sizeOf3 rfl rfl (by omega) (by omega)) rfl rfl rfl ?_; clear ha a; intro a ha
  refine sv ha (r_load ha rfl Tryd.isAgg3 (cell_of hb28 (get_map ei (prd ((List.replicate 256 (0 : Int)).set 255 1) ((List.replicate 256 (0 : Int)).set 1 1)) 0 0 (by rw [(prd_red _ _).len]; omega)))) rfl rfl rfl ?_; clear ha a; intro a ha
  refine sv ha (r_eql ha ((prd ((List.replicate 256 (0 : Int)).set 255 1) ((List.replicate 256 (0 : Int)).set 1 1)).getD 0 0) 3328 true rfl rfl (decide_eq_true w_p0)) rfl rfl rfl ?_; clear ha a; intro a ha
  refine sv ha (r_move ha rfl) rfl rfl rfl ?_; clear ha a; intro a ha
  refine svg ha (r_indexArr (i := 1) ha 1 Tryd.runUnderlying34 Tryd.sizeOf3 rfl rfl (by omega) (by omega)) rfl rfl rfl rfl rfl ?_; clear ha a; intro a ha
  refine svg ha (r_load ha rfl Tryd.isAgg3 (cell_of hb28 (get_map ei (prd ((List.replicate 256 (0 : Int)).set 255 1) ((List.replicate 256 (0 : Int)).set 1 1)) 0 1 (by rw [(prd_red _ _).len]; omega)))) rfl rfl rfl rfl rfl ?_; clear ha a; intro a ha
  refine svg ha (r_eql ha ((prd ((List.replicate 256 (0 : Int)).set 255 1) ((List.replicate 256 (0 : Int)).set 1 1)).getD 1 0) 0 true rfl rfl (decide_eq_true w_p1)) rfl rfl rfl rfl rfl ?_; clear ha a; intro a ha
  refine sv ha (r_pick ha true rfl rfl) rfl rfl rfl ?_; clear ha a; intro a ha
  refine sv ha (r_move ha rfl) rfl rfl rfl ?_; clear ha a; intro a ha
  refine svg ha (r_indexArr (i := 0) ha 0 Tryd.runUnderlying34 Tryd.sizeOf3 rfl rfl (by omega) (by omega)) rfl rfl rfl rfl rfl ?_; clear ha a; intro a ha
  refine svg ha (r_load ha rfl Tryd.isAgg3 (cell_of hb34 (get_map ei (fwd ((List.replicate 256 (0 : Int)).set 0 1)) 0 0 (by rw [(fwd_red _ (by rw [List.length_set, List.length_replicate])).len]; omega)))) rfl rfl rfl rfl rfl ?_; clear ha a; intro a ha
  refine svg ha (r_eql ha ((fwd ((List.replicate 256 (0 : Int)).set 0 1)).getD 0 0) 1 true rfl rfl (decide_eq_true w_f0)) rfl rfl rfl rfl rfl ?_; clear ha a; intro a ha
  refine sv ha (r_pick ha true rfl rfl) rfl rfl rfl ?_; clear ha a; intro a ha
  refine sv ha (r_move ha rfl) rfl rfl rfl ?_; clear ha a; intro a ha
  refine svg ha (r_indexArr (i := 254) ha 254 Tryd.runUnderlying34 Tryd.sizeOf3 rfl rfl (by omega) (by omega)) rfl rfl rfl rfl rfl ?_; clear ha a; intro a ha
  refine svg ha (r_load ha rfl Tryd.isAgg3 (cell_of hb34 (get_map ei (fwd ((List.replicate 256 (0 : Int)).set 0 1)) 0 254 (by rw [(fwd_red _ (by rw [List.length_set, List.length_replicate])).len]; omega)))) rfl rfl rfl rfl rfl ?_; clear ha a; intro a ha
  refine svg ha (r_eql ha ((fwd ((List.replicate 256 (0 : Int)).set 0 1)).getD 254 0) 1 true rfl rfl (decide_eq_true w_f254)) rfl rfl rfl rfl rfl ?_; clear ha a; intro a ha
  refine sv ha (r_pick ha true rfl rfl) rfl rfl rfl ?_; clear ha a; intro a ha
  refine sv ha (r_move ha rfl) rfl rfl rfl ?_; clear ha a; intro a ha
  refine svg ha (r_indexArr (i := 1) ha 1 Tryd.runUnderlying34 Tryd.sizeOf3 rfl rfl (by omega) (by omega)) rfl rfl rfl rfl rfl ?_; clear ha a; intro a ha
  refine svg ha (r_load ha rfl Tryd.isAgg3 (cell_of hb34 (get_map ei (fwd ((List.replicate 256 (0 : Int)).set 0 1)) 0 1 (by rw [(fwd_red _ (by rw [List.length_set, List.length_replicate])).len]; omega)))) rfl rfl rfl rfl rfl ?_; clear ha a; intro a ha
  refine svg ha (r_eql ha ((fwd ((List.replicate 256 (0 : Int)).set 0 1)).getD 1 0) 0 true rfl rfl (decide_eq_true w_f1)) rfl rfl rfl rfl rfl ?_; clear ha a; intro a ha
  refine sv ha (r_pick ha true rfl rfl) rfl rfl rfl ?_; clear ha a; intro a ha
  refine sv ha (r_move ha rfl) rfl rfl rfl ?_; clear ha a; intro a ha
  refine svg ha (r_indexArr (i := 0) ha 0 Tryd.runUnderlying34 Tryd.sizeOf3 rfl rfl (by omega) (by omega)) rfl rfl rfl rfl rfl ?_; clear ha a; intro a ha
  refine svg ha (r_load ha rfl Tryd.isAgg3 (cell_of hb40 (get_map ei (inv (fwd ((List.replicate 256 (0 : Int)).set 0 1))) 0 0 (by rw [(inv_red _ (by rw [(fwd_red _ (by rw [List.length_set, List.length_replicate])).len])).len]; omega)))) rfl rfl rfl rfl rfl ?_; clear ha a; intro a ha
  refine svg ha (r_eql ha ((inv (fwd ((List.replicate 256 (0 : Int)).set 0 1))).getD 0 0) 1 true rfl rfl (decide_eq_true w_g0)) rfl rfl rfl rfl rfl ?_; clear ha a; intro a ha
  refine sv ha (r_pick ha true rfl rfl) rfl rfl rfl ?_; clear ha a; intro a ha
  refine sv ha (r_move ha rfl) rfl rfl rfl ?_; clear ha a; intro a ha
  refine svg ha (r_indexArr (i := 2) ha 2 Tryd.runUnderlying34 Tryd.sizeOf3 rfl rfl (by omega) (by omega)) rfl rfl rfl rfl rfl ?_; clear ha a; intro a ha
  refine svg ha (r_load ha rfl Tryd.isAgg3 (cell_of hb40 (get_map ei (inv (fwd ((List.replicate 256 (0 : Int)).set 0 1))) 0 2 (by rw [(inv_red _ (by rw [(fwd_red _ (by rw [List.length_set, List.length_replicate])).len])).len]; omega)))) rfl rfl rfl rfl rfl ?_; clear ha a; intro a ha
  refine svg ha (r_eql ha ((inv (fwd ((List.replicate 256 (0 : Int)).set 0 1))).getD 2 0) 0 true rfl rfl (decide_eq_true w_g2)) rfl rfl rfl rfl rfl ?_; clear ha a; intro a ha
  refine sv ha (r_pick ha true rfl rfl) rfl rfl rfl ?_; clear ha a; intro a ha
  refine sv ha (r_move ha rfl) rfl rfl rfl ?_; clear ha a; intro a ha
  refine svg ha (r_indexArr (i := 2) ha 2 Tryd.runUnderlying34 Tryd.sizeOf3 rfl rfl (by omega) (by omega)) rfl rfl rfl rfl rfl ?_; clear ha a; intro a ha
  refine svg ha (r_load ha rfl Tryd.isAgg3 (cell_of hb46 (get_map ei (tms (fwd ((List.replicate 256 (0 : Int)).set 0 1)) (fwd ((List.replicate 256 (0 : Int)).set 0 1))) 0 2 (by rw [(tms_red _ _).len]; omega)))) rfl rfl rfl rfl rfl ?_; clear ha a; intro a ha
  refine svg ha (r_eql ha ((tms (fwd ((List.replicate 256 (0 : Int)).set 0 1)) (fwd ((List.replicate 256 (0 : Int)).set 0 1))).getD 2 0) 1 true rfl rfl (decide_eq_true w_h2)) rfl rfl rfl rfl rfl ?_; clear ha a; intro a ha
  refine sv ha (r_pick ha true rfl rfl) rfl rfl rfl ?_; clear ha a; intro a ha
  refine sv ha (r_move ha rfl) rfl rfl rfl ?_; clear ha a; intro a ha
  refine svg ha (r_indexArr (i := 0) ha 0 Tryd.runUnderlying34 Tryd.sizeOf3 rfl rfl (by omega) (by omega)) rfl rfl rfl rfl rfl ?_; clear ha a; intro a ha
  refine svg ha (r_load ha rfl Tryd.isAgg3 (cell_of hb52 (get_map ei (pl ((List.replicate 256 (0 : Int)).set 0 1) ((List.replicate 256 (0 : Int)).set 0 1)) 0 0 (by rw [(pl_red _ _ (by rw [List.length_set, List.length_replicate])).len]; omega)))) rfl rfl rfl rfl rfl ?_; clear ha a; intro a ha
  refine svg ha (r_eql ha ((pl ((List.replicate 256 (0 : Int)).set 0 1) ((List.replicate 256 (0 : Int)).set 0 1)).getD 0 0) 2 true rfl rfl (decide_eq_true w_i0)) rfl rfl rfl rfl rfl ?_; clear ha a; intro a ha
  refine sv ha (r_pick ha true rfl rfl) rfl rfl rfl ?_; clear ha a; intro a ha
  refine sv ha (r_move ha rfl) rfl rfl rfl ?_; clear ha a; intro a ha
  refine svg ha (r_indexArr (i := 255) ha 255 Tryd.runUnderlying34 Tryd.sizeOf3 rfl rfl (by omega) (by omega)) rfl rfl rfl rfl rfl ?_; clear ha a; intro a ha
  refine svg ha (r_load ha rfl Tryd.isAgg3 (cell_of hb58 (get_map ei (mi ((List.replicate 256 (0 : Int)).set 1 1) ((List.replicate 256 (0 : Int)).set 255 1)) 0 255 (by rw [(mi_red _ _ (by rw [List.length_set, List.length_replicate])).len]; omega)))) rfl rfl rfl rfl rfl ?_; clear ha a; intro a ha
  refine svg ha (r_eql ha ((mi ((List.replicate 256 (0 : Int)).set 1 1) ((List.replicate 256 (0 : Int)).set 255 1)).getD 255 0) 3328 true rfl rfl (decide_eq_true w_j255)) rfl rfl rfl rfl rfl ?_; clear ha a; intro a ha
  refine sv ha (r_pick ha true rfl rfl) rfl rfl rfl ?_; clear ha a; intro a ha
  refine sv ha (r_move ha rfl) rfl rfl rfl ?_; clear ha a; intro a ha
  refine svg ha (r_indexArr (i := 1) ha 1 Tryd.runUnderlying34 Tryd.sizeOf3 rfl rfl (by omega) (by omega)) rfl rfl rfl rfl rfl ?_; clear ha a; intro a ha
  refine svg ha (r_load ha rfl Tryd.isAgg3 (cell_of hb64 (get_map ei (cl (mi ((List.replicate 256 (0 : Int)).set 1 1) ((List.replicate 256 (0 : Int)).set 255 1))) 0 1 (by rw [(cl_red _ (by rw [(mi_red _ _ (by rw [List.length_set, List.length_replicate])).len])).len]; omega)))) rfl rfl rfl rfl rfl ?_; clear ha a; intro a ha
  refine svg ha (r_eql ha ((cl (mi ((List.replicate 256 (0 : Int)).set 1 1) ((List.replicate 256 (0 : Int)).set 255 1))).getD 1 0) 1 true rfl rfl (decide_eq_true w_k1)) rfl rfl rfl rfl rfl ?_; clear ha a; intro a ha
  refine sv ha (r_pick ha true rfl rfl) rfl rfl rfl ?_; clear ha a; intro a ha
  refine sv ha (r_assign ha rfl) rfl rfl rfl ?_; clear ha a; intro a ha
  refine hK67 _ _ ?_; clear hK67 K66
  refine wp_ret ?_
  repeat (first | (with_reducible refine t_ret ?_) | (with_reducible refine x_ret ?_))
  exact ret1 ha Tryd.results35 rfl ⟨rfl, hB⟩

theorem law_NttSums (p q : List Int) (w0 : World) (hp : p.length = 256) (hq : q.length = 256) (hG : Glob w0) :
    Calls Tryd.prog 11 #[.agg ((p).map ei).toArray, .agg ((q).map ei).toArray] w0 fun e w' => e = .returned (.bool true) ∧ Below w0.heap.size w0 w' := by
  refine enter (args := [_, _]) Tryd.func11 rfl Tryd.ntmps11 rfl ?_
  intro a ha
  have hB := Below.refl w0.heap.size w0
  refine wp_seq_k fun K1 hK2 => ?_
  refine region ?_
  refine sbox ha rfl rfl ?_
  clear ha a; intro a w3 b4 ha hg hb4 hge4 hlt4
  have hz4 : w0.heap.size ≤ b4 := Nat.le_trans hB.size hge4
  replace hB := keepB0 hg hB
  clear hg hge4 hlt4
  refine sbox ha rfl rfl ?_
  clear ha a; intro a w5 b6 ha hg hb6 hge6 hlt6
  have hz6 : w0.heap.size ≤ b6 := Nat.le_trans hB.size hge6
  have hq4_6 : b4 < b6 := Nat.lt_of_lt_of_le (lt_of_block hb4) hge6
  replace hB := keepB0 hg hB
  replace hb4 := keepO0 hg hb4
  clear hg hge6 hlt6
  refine sv ha (r_assign ha rfl) rfl rfl rfl ?_; clear ha a; intro a ha
  refine hK2 _ _ ?_; clear hK2 K1
  refine wp_seq_k fun K7 hK8 => ?_
  refine region ?_
  refine sc ha (r_call ha [] rfl Tryd.call35) rfl rfl rfl (c_awake11  _ (glob_keep hG hB)) ?_
  clear ha a
  rintro e w9 ⟨rfl, hBc⟩
  have hg := grown_call hBc; clear hBc
  replace hB := keepB0 hg hB
  replace hb4 := keepO0 hg hb4
  replace hb6 := keepO0 hg hb6
  clear hg
  refine ⟨_, rfl, ?_⟩; intro a ha
  refine sv ha (r_assign ha rfl) rfl rfl rfl ?_; clear ha a; intro a ha
  refine hK8 _ _ ?_; clear hK8 K7
  refine wp_seq_k fun K10 hK11 => ?_
  refine wp_seq_k fun K12 hK13 => ?_
  refine region ?_
  refine sv ha (r_move ha rfl) rfl rfl rfl ?_; clear ha a; intro a ha
  refine sv ha (r_not ha true false rfl rfl) rfl rfl rfl ?_; clear ha a; intro a ha
  refine hK13 _ _ ?_; clear hK13 K12
  refine cond_f ha rfl ?_
  refine wp_skip ?_
  refine hK11 _ _ ?_; clear hK11 K10
  refine wp_seq_k fun K14 hK15 => ?_
  refine regionD (S := fun w => Below w0.heap.size w0 w ∧ w.heap[b4]? = some (.cells ((p).map ei).toArray 33 (0, 0)) ∧ w.heap[b6]? = some (.cells ((q).map ei).toArray 33 (0, 0)) ∧ True) [] [0, 1, 3, 4, 6, 7, 8, 9, 11, 12, 14, 15, 16, 17, 19, 21, 22, 23] [0, 1, 3, 4, 2, 5, 6, 7, 8, 9, 11, 12, 10, 13, 14, 15, 16, 17, 19, 18, 20, 21, 22, 23] mixed (by kernel_rfl) (fun w hg => ⟨keepB0 hg hB, keepO0 hg hb4, keepO0 hg hb6, trivial⟩) ?_
  intro w16 hg
  replace hB := keepB0 hg hB
  replace hb4 := keepO0 hg hb4
  replace hb6 := keepO0 hg hb6
  clear hg
  refine cv ha rfl rfl (fun w ⟨hB, hb4, hb6, _⟩ => r_loadR ha rfl Tryd.isAgg33 Tryd.sizeOf33 (C := (p).map ei) (by rw [List.length_map, hp]) (cells_all hb4)) rfl rfl rfl ?_; clear ha a; intro a ha
  refine cv ha rfl rfl (fun w ⟨hB, hb4, hb6, _⟩ => r_loadR ha rfl Tryd.isAgg33 Tryd.sizeOf33 (C := (q).map ei) (by rw [List.length_map, hq]) (cells_all hb6)) rfl rfl rfl ?_; clear ha a; intro a ha
  refine cv ha rfl rfl (fun w ⟨hB, hb4, hb6, _⟩ => r_loadR ha rfl Tryd.isAgg33 Tryd.sizeOf33 (C := (p).map ei) (by rw [List.length_map, hp]) (cells_all hb4)) rfl rfl rfl ?_; clear ha a; intro a ha
  refine cv ha rfl rfl (fun w ⟨hB, hb4, hb6, _⟩ => r_loadR ha rfl Tryd.isAgg33 Tryd.sizeOf33 (C := (q).map ei) (by rw [List.length_map, hq]) (cells_all hb6)) rfl rfl rfl ?_; clear ha a; intro a ha
  refine cc ha rfl rfl (r_call ha [.agg ((p).map ei).toArray, .agg ((q).map ei).toArray] rfl Tryd.call36) rfl rfl rfl (c_plus p q _ (by rw [hp]) (by rw [hq])) ?_
  clear ha a
  rintro e w17 ⟨rfl, hBc⟩
  have hg := grown_call hBc; clear hBc
  replace hB := keepB0 hg hB
  replace hb4 := keepO0 hg hb4
  replace hb6 := keepO0 hg hb6
  clear hg
  refine ⟨fun _ => ⟨hB, hb4, hb6, trivial⟩, _, rfl, ?_⟩; intro a ha
  refine cc ha rfl rfl (r_call ha [.agg ((p).map ei).toArray, .agg ((q).map ei).toArray] rfl Tryd.call37) rfl rfl rfl (c_rplus p q _ (by rw [hp]) (by rw [hq])) ?_
  clear ha a
  rintro e w18 ⟨rfl, hBc⟩
  have hg := grown_call hBc; clear hBc
  replace hB := keepB0 hg hB
  replace hb4 := keepO0 hg hb4
  replace hb6 := keepO0 hg hb6
  clear hg
  refine ⟨fun _ => ⟨hB, hb4, hb6, trivial⟩, _, rfl, ?_⟩; intro a ha
  refine cv ha rfl rfl (fun w _ => r_eqA (f := (fun z : Int => z)) (fun x y h => h) (pl p q) (pl p q) ha rfl rfl (by rw [(pl_red _ _ (by rw [hp])).len]) (by rw [(pl_red _ _ (by rw [hp])).len]) Tryd.eqGuardType34 Tryd.runUnderlying34 Tryd.sizeOf3 Tryd.underlying3 Tryd.isAgg3 true (decide_eq_true rfl)) rfl rfl rfl ?_; clear ha a; intro a ha
  refine cv ha rfl rfl (fun w _ => r_move ha rfl) rfl rfl rfl ?_; clear ha a; intro a ha
  refine cvg ha rfl rfl (fun w ⟨hB, hb4, hb6, _⟩ => r_loadR ha rfl Tryd.isAgg33 Tryd.sizeOf33 (C := (p).map ei) (by rw [List.length_map, hp]) (cells_all hb4)) rfl rfl rfl rfl rfl ?_; clear ha a; intro a ha
  refine cvg ha rfl rfl (fun w ⟨hB, hb4, hb6, _⟩ => r_loadR ha rfl Tryd.isAgg33 Tryd.sizeOf33 (C := (q).map ei) (by rw [List.length_map, hq]) (cells_all hb6)) rfl rfl rfl rfl rfl ?_; clear ha a; intro a ha
  refine cvg ha rfl rfl (fun w ⟨hB, hb4, hb6, _⟩ => r_loadR ha rfl Tryd.isAgg33 Tryd.sizeOf33 (C := (p).map ei) (by rw [List.length_map, hp]) (cells_all hb4)) rfl rfl rfl rfl rfl ?_; clear ha a; intro a ha
  refine cvg ha rfl rfl (fun w ⟨hB, hb4, hb6, _⟩ => r_loadR ha rfl Tryd.isAgg33 Tryd.sizeOf33 (C := (q).map ei) (by rw [List.length_map, hq]) (cells_all hb6)) rfl rfl rfl rfl rfl ?_; clear ha a; intro a ha
  refine ccg ha rfl rfl (r_call ha [.agg ((p).map ei).toArray, .agg ((q).map ei).toArray] rfl Tryd.call38) rfl rfl rfl rfl rfl (c_minus p q _ (by rw [hp]) (by rw [hq])) ?_
  clear ha a
  rintro e w19 ⟨rfl, hBc⟩
  have hg := grown_call hBc; clear hBc
  replace hB := keepB0 hg hB
  replace hb4 := keepO0 hg hb4
  replace hb6 := keepO0 hg hb6
  clear hg
  refine ⟨fun _ => ⟨hB, hb4, hb6, trivial⟩, _, rfl, ?_⟩; intro a ha
  refine ccg ha rfl rfl (r_call ha [.agg ((p).map ei).toArray, .agg ((q).map ei).toArray] rfl Tryd.call39) rfl rfl rfl rfl rfl (c_rminus p q _ (by rw [hp]) (by rw [hq])) ?_
  clear ha a
  rintro e w20 ⟨rfl, hBc⟩
  have hg := grown_call hBc; clear hBc
  replace hB := keepB0 hg hB
  replace hb4 := keepO0 hg hb4
  replace hb6 := keepO0 hg hb6
  clear hg
  refine ⟨fun _ => ⟨hB, hb4, hb6, trivial⟩, _, rfl, ?_⟩; intro a ha
  refine cvg ha rfl rfl (fun w _ => r_eqA (f := (fun z : Int => z)) (fun x y h => h) (mi p q) (mi p q) ha rfl rfl (by rw [(mi_red _ _ (by rw [hp])).len]) (by rw [(mi_red _ _ (by rw [hp])).len]) Tryd.eqGuardType34 Tryd.runUnderlying34 Tryd.sizeOf3 Tryd.underlying3 Tryd.isAgg3 true (decide_eq_true rfl)) rfl rfl rfl rfl rfl ?_; clear ha a; intro a ha
  refine cv ha rfl rfl (fun w _ => r_pick ha true rfl rfl) rfl rfl rfl ?_; clear ha a; intro a ha
  refine cv ha rfl rfl (fun w _ => r_move ha rfl) rfl rfl rfl ?_; clear ha a; intro a ha
  refine cvg ha rfl rfl (fun w ⟨hB, hb4, hb6, _⟩ => r_loadR ha rfl Tryd.isAgg33 Tryd.sizeOf33 (C := (p).map ei) (by rw [List.length_map, hp]) (cells_all hb4)) rfl rfl rfl rfl rfl ?_; clear ha a; intro a ha
  refine cvg ha rfl rfl (fun w ⟨hB, hb4, hb6, _⟩ => r_loadR ha rfl Tryd.isAgg33 Tryd.sizeOf33 (C := (p).map ei) (by rw [List.length_map, hp]) (cells_all hb4)) rfl rfl rfl rfl rfl ?_; clear ha a; intro a ha
  refine ccg ha rfl rfl (r_call ha [.agg ((p).map ei).toArray] rfl Tryd.call40) rfl rfl rfl rfl rfl (c_clean p _ (by rw [hp])) ?_
  clear ha a
  rintro e w21 ⟨rfl, hBc⟩
  have hg := grown_call hBc; clear hBc
  replace hB := keepB0 hg hB
  replace hb4 := keepO0 hg hb4
  replace hb6 := keepO0 hg hb6
  clear hg
  refine ⟨fun _ => ⟨hB, hb4, hb6, trivial⟩, _, rfl, ?_⟩; intro a ha
  refine ccg ha rfl rfl (r_call ha [.agg ((p).map ei).toArray] rfl Tryd.call41) rfl rfl rfl rfl rfl (c_rclean p _ (by rw [hp])) ?_
  clear ha a
  rintro e w22 ⟨rfl, hBc⟩
  have hg := grown_call hBc; clear hBc
  replace hB := keepB0 hg hB
  replace hb4 := keepO0 hg hb4
  replace hb6 := keepO0 hg hb6
  clear hg
  refine ⟨fun _ => ⟨hB, hb4, hb6, trivial⟩, _, rfl, ?_⟩; intro a ha
  refine cvg ha rfl rfl (fun w _ => r_eqA (f := (fun z : Int => z)) (fun x y h => h) (cl p) (cl p) ha rfl rfl (by rw [(cl_red _ (by rw [hp])).len]) (by rw [(cl_red _ (by rw [hp])).len]) Tryd.eqGuardType34 Tryd.runUnderlying34 Tryd.sizeOf3 Tryd.underlying3 Tryd.isAgg3 true (decide_eq_true rfl)) rfl rfl rfl rfl rfl ?_; clear ha a; intro a ha
  refine cv ha rfl rfl (fun w _ => r_pick ha true rfl rfl) rfl rfl rfl ?_; clear ha a; intro a ha
  refine cv ha rfl rfl (fun w _ => r_assign ha rfl) rfl rfl rfl ?_; clear ha a; intro a ha
  refine cfin (hK15 _ _ ?_); clear hK15 K14
  refine wp_ret ?_
  repeat (first | (with_reducible refine t_ret ?_) | (with_reducible refine x_ret ?_))
  exact ret1 ha Tryd.results11 rfl ⟨rfl, hB⟩

theorem law_NttForward (p : List Int) (w0 : World) (hp : p.length = 256) (hG : Glob w0) :
    Calls Tryd.prog 12 #[.agg ((p).map ei).toArray] w0 fun e w' => e = .returned (.bool true) ∧ Below w0.heap.size w0 w' := by
  refine enter (args := [_]) Tryd.func12 rfl Tryd.ntmps12 rfl ?_
  intro a ha
  have hB := Below.refl w0.heap.size w0
  refine wp_seq_k fun K1 hK2 => ?_
  refine region ?_
  refine sbox ha rfl rfl ?_
  clear ha a; intro a w3 b4 ha hg hb4 hge4 hlt4
  have hz4 : w0.heap.size ≤ b4 := Nat.le_trans hB.size hge4
  replace hB := keepB0 hg hB
  clear hg hge4 hlt4
  refine sv ha (r_assign ha rfl) rfl rfl rfl ?_; clear ha a; intro a ha
  refine hK2 _ _ ?_; clear hK2 K1
  refine wp_seq_k fun K5 hK6 => ?_
  refine region ?_
  refine sc ha (r_call ha [] rfl Tryd.call35) rfl rfl rfl (c_awake11  _ (glob_keep hG hB)) ?_
  clear ha a
  rintro e w7 ⟨rfl, hBc⟩
  have hg := grown_call hBc; clear hBc
  replace hB := keepB0 hg hB
  replace hb4 := keepO0 hg hb4
  clear hg
  refine ⟨_, rfl, ?_⟩; intro a ha
  refine sv ha (r_assign ha rfl) rfl rfl rfl ?_; clear ha a; intro a ha
  refine hK6 _ _ ?_; clear hK6 K5
  refine wp_seq_k fun K8 hK9 => ?_
  refine regionD (S := fun w => Below w0.heap.size w0 w ∧ w.heap[b4]? = some (.cells ((p).map ei).toArray 33 (0, 0)) ∧ True) [] [0, 1, 2, 4, 6, 7, 8] [0, 1, 2, 4, 3, 5, 6, 7, 8] mixed (by kernel_rfl) (fun w hg => ⟨keepB0 hg hB, keepO0 hg hb4, trivial⟩) ?_
  intro w10 hg
  replace hB := keepB0 hg hB
  replace hb4 := keepO0 hg hb4
  clear hg
  refine cv ha rfl rfl (fun w _ => r_move ha rfl) rfl rfl rfl ?_; clear ha a; intro a ha
  refine cv ha rfl rfl (fun w _ => r_move ha rfl) rfl rfl rfl ?_; clear ha a; intro a ha
  refine cvg ha rfl rfl (fun w ⟨hB, hb4, _⟩ => r_loadR ha rfl Tryd.isAgg33 Tryd.sizeOf33 (C := (p).map ei) (by rw [List.length_map, hp]) (cells_all hb4)) rfl rfl rfl rfl rfl ?_; clear ha a; intro a ha
  refine cvg ha rfl rfl (fun w ⟨hB, hb4, _⟩ => r_loadR ha rfl Tryd.isAgg33 Tryd.sizeOf33 (C := (p).map ei) (by rw [List.length_map, hp]) (cells_all hb4)) rfl rfl rfl rfl rfl ?_; clear ha a; intro a ha
  refine ccg ha rfl rfl (r_call ha [.agg ((p).map ei).toArray] rfl Tryd.call42) rfl rfl rfl rfl rfl (c_fwd p _ (by rw [hp]) (glob_keep hG hB)) ?_
  clear ha a
  rintro e w11 ⟨rfl, hBc⟩
  have hg := grown_call hBc; clear hBc
  replace hB := keepB0 hg hB
  replace hb4 := keepO0 hg hb4
  clear hg
  refine ⟨fun _ => ⟨hB, hb4, trivial⟩, _, rfl, ?_⟩; intro a ha
  refine ccg ha rfl rfl (r_call ha [.agg ((p).map ei).toArray] rfl Tryd.call43) rfl rfl rfl rfl rfl (c_rfwd p _ (by rw [hp])) ?_
  clear ha a
  rintro e w12 ⟨rfl, hBc⟩
  have hg := grown_call hBc; clear hBc
  replace hB := keepB0 hg hB
  replace hb4 := keepO0 hg hb4
  clear hg
  refine ⟨fun _ => ⟨hB, hb4, trivial⟩, _, rfl, ?_⟩; intro a ha
  refine cvg ha rfl rfl (fun w _ => r_eqA (f := (fun z : Int => z)) (fun x y h => h) (fwd p) (fwd p) ha rfl rfl (by rw [(fwd_red _ (by rw [hp])).len]) (by rw [(fwd_red _ (by rw [hp])).len]) Tryd.eqGuardType34 Tryd.runUnderlying34 Tryd.sizeOf3 Tryd.underlying3 Tryd.isAgg3 true (decide_eq_true rfl)) rfl rfl rfl rfl rfl ?_; clear ha a; intro a ha
  refine cv ha rfl rfl (fun w _ => r_pick ha true rfl rfl) rfl rfl rfl ?_; clear ha a; intro a ha
  refine cv ha rfl rfl (fun w _ => r_assign ha rfl) rfl rfl rfl ?_; clear ha a; intro a ha
  refine cfin (hK9 _ _ ?_); clear hK9 K8
  refine wp_ret ?_
  repeat (first | (with_reducible refine t_ret ?_) | (with_reducible refine x_ret ?_))
  exact ret1 ha Tryd.results12 rfl ⟨rfl, hB⟩

theorem law_NttInverse (p : List Int) (w0 : World) (hp : p.length = 256) (hG : Glob w0) :
    Calls Tryd.prog 13 #[.agg ((p).map ei).toArray] w0 fun e w' => e = .returned (.bool true) ∧ Below w0.heap.size w0 w' := by
  refine enter (args := [_]) Tryd.func13 rfl Tryd.ntmps13 rfl ?_
  intro a ha
  have hB := Below.refl w0.heap.size w0
  refine wp_seq_k fun K1 hK2 => ?_
  refine region ?_
  refine sbox ha rfl rfl ?_
  clear ha a; intro a w3 b4 ha hg hb4 hge4 hlt4
  have hz4 : w0.heap.size ≤ b4 := Nat.le_trans hB.size hge4
  replace hB := keepB0 hg hB
  clear hg hge4 hlt4
  refine sv ha (r_assign ha rfl) rfl rfl rfl ?_; clear ha a; intro a ha
  refine hK2 _ _ ?_; clear hK2 K1
  refine wp_seq_k fun K5 hK6 => ?_
  refine region ?_
  refine sc ha (r_call ha [] rfl Tryd.call35) rfl rfl rfl (c_awake11  _ (glob_keep hG hB)) ?_
  clear ha a
  rintro e w7 ⟨rfl, hBc⟩
  have hg := grown_call hBc; clear hBc
  replace hB := keepB0 hg hB
  replace hb4 := keepO0 hg hb4
  clear hg
  refine ⟨_, rfl, ?_⟩; intro a ha
  refine sv ha (r_assign ha rfl) rfl rfl rfl ?_; clear ha a; intro a ha
  refine hK6 _ _ ?_; clear hK6 K5
  refine wp_seq_k fun K8 hK9 => ?_
  refine wp_seq_k fun K10 hK11 => ?_
  refine region ?_
  refine sv ha (r_move ha rfl) rfl rfl rfl ?_; clear ha a; intro a ha
  refine sv ha (r_not ha true false rfl rfl) rfl rfl rfl ?_; clear ha a; intro a ha
  refine hK11 _ _ ?_; clear hK11 K10
  refine cond_f ha rfl ?_
  refine wp_skip ?_
  refine hK9 _ _ ?_; clear hK9 K8
  refine wp_seq_k fun K12 hK13 => ?_
  refine region ?_
  refine sv ha (r_loadR ha rfl Tryd.isAgg33 Tryd.sizeOf33 (C := (p).map ei) (by rw [List.length_map, hp]) (cells_all hb4)) rfl rfl rfl ?_; clear ha a; intro a ha
  refine sc ha (r_call ha [.agg ((p).map ei).toArray] rfl Tryd.call44) rfl rfl rfl (c_inv p _ (by rw [hp]) (glob_keep hG hB)) ?_
  clear ha a
  rintro e w14 ⟨rfl, hBc⟩
  have hg := grown_call hBc; clear hBc
  replace hB := keepB0 hg hB
  replace hb4 := keepO0 hg hb4
  clear hg
  refine ⟨_, rfl, ?_⟩; intro a ha
  refine salloc ha zero_34Z5 rfl ?_
  clear ha a; intro a w15 b16 ha hg hb16 hge16 hlt16
  have hz16 : w0.heap.size ≤ b16 := Nat.le_trans hB.size hge16
  have hq4_16 : b4 < b16 := Nat.lt_of_lt_of_le (lt_of_block hb4) hge16
  replace hB := keepB0 hg hB
  replace hb4 := keepO0 hg hb4
  clear hg hge16 hlt16
  refine sstoreW ha rfl rfl (one_ei _) Tryd.sizeOf34 (by rw [List.length_map, (inv_red _ (by rw [hp])).len]) hb16 (by rw [List.length_map, List.length_replicate]) ?_
  clear ha a; intro a w17 ha hg hb16'
  clear hb16; have hb16 := hb16'; clear hb16'
  replace hB := keepB1 hg (by omega) hB
  replace hb4 := keepO1 hg (by omega) hb4
  clear hg
  refine hK13 _ _ ?_; clear hK13 K12
  refine wp_seq_k fun K18 hK19 => ?_
  refine region ?_
  refine sv ha (r_loadR ha rfl Tryd.isAgg33 Tryd.sizeOf33 (C := (p).map ei) (by rw [List.length_map, hp]) (cells_all hb4)) rfl rfl rfl ?_; clear ha a; intro a ha
  refine sc ha (r_call ha [.agg ((p).map ei).toArray] rfl Tryd.call41) rfl rfl rfl (c_rclean p _ (by rw [hp])) ?_
  clear ha a
  rintro e w20 ⟨rfl, hBc⟩
  have hg := grown_call hBc; clear hBc
  replace hB := keepB0 hg hB
  replace hb4 := keepO0 hg hb4
  replace hb16 := keepO0 hg hb16
  clear hg
  refine ⟨_, rfl, ?_⟩; intro a ha
  refine salloc ha zero_33Z5 rfl ?_
  clear ha a; intro a w21 b22 ha hg hb22 hge22 hlt22
  have hz22 : w0.heap.size ≤ b22 := Nat.le_trans hB.size hge22
  have hq4_22 : b4 < b22 := Nat.lt_of_lt_of_le (lt_of_block hb4) hge22
  have hq16_22 : b16 < b22 := Nat.lt_of_lt_of_le (lt_of_block hb16) hge22
  replace hB := keepB0 hg hB
  replace hb4 := keepO0 hg hb4
  replace hb16 := keepO0 hg hb16
  clear hg hge22 hlt22
  refine sstoreW ha rfl rfl (one_ei _) Tryd.sizeOf33 (by rw [List.length_map, (cl_red _ (by rw [hp])).len]) hb22 (by rw [List.length_map, List.length_replicate]) ?_
  clear ha a; intro a w23 ha hg hb22'
  clear hb22; have hb22 := hb22'; clear hb22'
  replace hB := keepB1 hg (by omega) hB
  replace hb4 := keepO1 hg (by omega) hb4
  replace hb16 := keepO1 hg (by omega) hb16
  clear hg
  refine hK19 _ _ ?_; clear hK19 K18
  refine wp_seq_k fun K24 hK25 => ?_
  refine regionD (S := fun w => Below w0.heap.size w0 w ∧ w.heap[b4]? = some (.cells ((p).map ei).toArray 33 (0, 0)) ∧ w.heap[b16]? = some (.cells ((inv p).map ei).toArray 34 (0, 0)) ∧ w.heap[b22]? = some (.cells ((cl p).map ei).toArray 33 (0, 0)) ∧ True) [] [0, 1, 3, 4, 5, 7, 8, 9, 10, 11, 14, 15, 16, 17] [0, 1, 2, 3, 4, 5, 7, 6, 8, 9, 10, 11, 14, 12, 13, 15, 16, 17] mixed (by kernel_rfl) (fun w hg => ⟨keepB0 hg hB, keepO0 hg hb4, keepO0 hg hb16, keepO0 hg hb22, trivial⟩) ?_
  intro w26 hg
  replace hB := keepB0 hg hB
  replace hb4 := keepO0 hg hb4
  replace hb16 := keepO0 hg hb16
  replace hb22 := keepO0 hg hb22
  clear hg
  refine cv ha rfl rfl (fun w ⟨hB, hb4, hb16, hb22, _⟩ => r_loadR ha rfl Tryd.isAgg34 Tryd.sizeOf34 (C := (inv p).map ei) (by rw [List.length_map, (inv_red _ (by rw [hp])).len]) (cells_all hb16)) rfl rfl rfl ?_; clear ha a; intro a ha
  refine cv ha rfl rfl (fun w ⟨hB, hb4, hb16, hb22, _⟩ => r_loadR ha rfl Tryd.isAgg33 Tryd.sizeOf33 (C := (p).map ei) (by rw [List.length_map, hp]) (cells_all hb4)) rfl rfl rfl ?_; clear ha a; intro a ha
  refine cc ha rfl rfl (r_call ha [.agg ((p).map ei).toArray] rfl Tryd.call45) rfl rfl rfl (c_rinv p _ (by rw [hp])) ?_
  clear ha a
  rintro e w27 ⟨rfl, hBc⟩
  have hg := grown_call hBc; clear hBc
  replace hB := keepB0 hg hB
  replace hb4 := keepO0 hg hb4
  replace hb16 := keepO0 hg hb16
  replace hb22 := keepO0 hg hb22
  clear hg
  refine ⟨fun _ => ⟨hB, hb4, hb16, hb22, trivial⟩, _, rfl, ?_⟩; intro a ha
  refine cv ha rfl rfl (fun w _ => r_eqA (f := (fun z : Int => z)) (fun x y h => h) (inv p) (inv p) ha rfl rfl (by rw [(inv_red _ (by rw [hp])).len]) (by rw [(inv_red _ (by rw [hp])).len]) Tryd.eqGuardType34 Tryd.runUnderlying34 Tryd.sizeOf3 Tryd.underlying3 Tryd.isAgg3 true (decide_eq_true rfl)) rfl rfl rfl ?_; clear ha a; intro a ha
  refine cv ha rfl rfl (fun w _ => r_move ha rfl) rfl rfl rfl ?_; clear ha a; intro a ha
  refine cvg ha rfl rfl (fun w ⟨hB, hb4, hb16, hb22, _⟩ => r_loadR ha rfl Tryd.isAgg34 Tryd.sizeOf34 (C := (inv p).map ei) (by rw [List.length_map, (inv_red _ (by rw [hp])).len]) (cells_all hb16)) rfl rfl rfl rfl rfl ?_; clear ha a; intro a ha
  refine cvg ha rfl rfl (fun w ⟨hB, hb4, hb16, hb22, _⟩ => r_loadR ha rfl Tryd.isAgg33 Tryd.sizeOf33 (C := (cl p).map ei) (by rw [List.length_map, (cl_red _ (by rw [hp])).len]) (cells_all hb22)) rfl rfl rfl rfl rfl ?_; clear ha a; intro a ha
  refine ccg ha rfl rfl (r_call ha [.agg (((inv p)).map ei).toArray] rfl Tryd.call42) rfl rfl rfl rfl rfl (c_fwd (inv p) _ (by rw [(inv_red _ (by rw [hp])).len]) (glob_keep hG hB)) ?_
  clear ha a
  rintro e w28 ⟨rfl, hBc⟩
  have hg := grown_call hBc; clear hBc
  replace hB := keepB0 hg hB
  replace hb4 := keepO0 hg hb4
  replace hb16 := keepO0 hg hb16
  replace hb22 := keepO0 hg hb22
  clear hg
  refine ⟨fun _ => ⟨hB, hb4, hb16, hb22, trivial⟩, _, rfl, ?_⟩; intro a ha
  refine cvg ha rfl rfl (fun w _ => r_eqA (f := (fun z : Int => z)) (fun x y h => h) (fwd (inv p)) (cl p) ha rfl rfl (by rw [(fwd_red _ (by rw [(inv_red _ (by rw [hp])).len])).len]) (by rw [(cl_red _ (by rw [hp])).len]) Tryd.eqGuardType34 Tryd.runUnderlying34 Tryd.sizeOf3 Tryd.underlying3 Tryd.isAgg3 true (decide_eq_true (fwd_inv p hp))) rfl rfl rfl rfl rfl ?_; clear ha a; intro a ha
  refine cv ha rfl rfl (fun w _ => r_pick ha true rfl rfl) rfl rfl rfl ?_; clear ha a; intro a ha
  refine cv ha rfl rfl (fun w _ => r_move ha rfl) rfl rfl rfl ?_; clear ha a; intro a ha
  refine cvg ha rfl rfl (fun w ⟨hB, hb4, hb16, hb22, _⟩ => r_loadR ha rfl Tryd.isAgg33 Tryd.sizeOf33 (C := (p).map ei) (by rw [List.length_map, hp]) (cells_all hb4)) rfl rfl rfl rfl rfl ?_; clear ha a; intro a ha
  refine cvg ha rfl rfl (fun w ⟨hB, hb4, hb16, hb22, _⟩ => r_loadR ha rfl Tryd.isAgg33 Tryd.sizeOf33 (C := (cl p).map ei) (by rw [List.length_map, (cl_red _ (by rw [hp])).len]) (cells_all hb22)) rfl rfl rfl rfl rfl ?_; clear ha a; intro a ha
  refine ccg ha rfl rfl (r_call ha [.agg ((p).map ei).toArray] rfl Tryd.call42) rfl rfl rfl rfl rfl (c_fwd p _ (by rw [hp]) (glob_keep hG hB)) ?_
  clear ha a
  rintro e w29 ⟨rfl, hBc⟩
  have hg := grown_call hBc; clear hBc
  replace hB := keepB0 hg hB
  replace hb4 := keepO0 hg hb4
  replace hb16 := keepO0 hg hb16
  replace hb22 := keepO0 hg hb22
  clear hg
  refine ⟨fun _ => ⟨hB, hb4, hb16, hb22, trivial⟩, _, rfl, ?_⟩; intro a ha
  refine ccg ha rfl rfl (r_call ha [.agg (((fwd p)).map ei).toArray] rfl Tryd.call44) rfl rfl rfl rfl rfl (c_inv (fwd p) _ (by rw [(fwd_red _ (by rw [hp])).len]) (glob_keep hG hB)) ?_
  clear ha a
  rintro e w30 ⟨rfl, hBc⟩
  have hg := grown_call hBc; clear hBc
  replace hB := keepB0 hg hB
  replace hb4 := keepO0 hg hb4
  replace hb16 := keepO0 hg hb16
  replace hb22 := keepO0 hg hb22
  clear hg
  refine ⟨fun _ => ⟨hB, hb4, hb16, hb22, trivial⟩, _, rfl, ?_⟩; intro a ha
  refine cvg ha rfl rfl (fun w _ => r_eqA (f := (fun z : Int => z)) (fun x y h => h) (inv (fwd p)) (cl p) ha rfl rfl (by rw [(inv_red _ (by rw [(fwd_red _ (by rw [hp])).len])).len]) (by rw [(cl_red _ (by rw [hp])).len]) Tryd.eqGuardType34 Tryd.runUnderlying34 Tryd.sizeOf3 Tryd.underlying3 Tryd.isAgg3 true (decide_eq_true (inv_fwd p hp))) rfl rfl rfl rfl rfl ?_; clear ha a; intro a ha
  refine cv ha rfl rfl (fun w _ => r_pick ha true rfl rfl) rfl rfl rfl ?_; clear ha a; intro a ha
  refine cv ha rfl rfl (fun w _ => r_assign ha rfl) rfl rfl rfl ?_; clear ha a; intro a ha
  refine cfin (hK25 _ _ ?_); clear hK25 K24
  refine wp_ret ?_
  repeat (first | (with_reducible refine t_ret ?_) | (with_reducible refine x_ret ?_))
  exact ret1 ha Tryd.results13 rfl ⟨rfl, hB⟩

theorem law_NttTimes (p q : List Int) (w0 : World) (hp : p.length = 256) (hq : q.length = 256) (hG : Glob w0) :
    Calls Tryd.prog 14 #[.agg ((p).map ei).toArray, .agg ((q).map ei).toArray] w0 fun e w' => e = .returned (.bool true) ∧ Below w0.heap.size w0 w' := by
  refine enter (args := [_, _]) Tryd.func14 rfl Tryd.ntmps14 rfl ?_
  intro a ha
  have hB := Below.refl w0.heap.size w0
  refine wp_seq_k fun K1 hK2 => ?_
  refine region ?_
  refine sbox ha rfl rfl ?_
  clear ha a; intro a w3 b4 ha hg hb4 hge4 hlt4
  have hz4 : w0.heap.size ≤ b4 := Nat.le_trans hB.size hge4
  replace hB := keepB0 hg hB
  clear hg hge4 hlt4
  refine sbox ha rfl rfl ?_
  clear ha a; intro a w5 b6 ha hg hb6 hge6 hlt6
  have hz6 : w0.heap.size ≤ b6 := Nat.le_trans hB.size hge6
  have hq4_6 : b4 < b6 := Nat.lt_of_lt_of_le (lt_of_block hb4) hge6
  replace hB := keepB0 hg hB
  replace hb4 := keepO0 hg hb4
  clear hg hge6 hlt6
  refine sv ha (r_assign ha rfl) rfl rfl rfl ?_; clear ha a; intro a ha
  refine hK2 _ _ ?_; clear hK2 K1
  refine wp_seq_k fun K7 hK8 => ?_
  refine region ?_
  refine sc ha (r_call ha [] rfl Tryd.call35) rfl rfl rfl (c_awake11  _ (glob_keep hG hB)) ?_
  clear ha a
  rintro e w9 ⟨rfl, hBc⟩
  have hg := grown_call hBc; clear hBc
  replace hB := keepB0 hg hB
  replace hb4 := keepO0 hg hb4
  replace hb6 := keepO0 hg hb6
  clear hg
  refine ⟨_, rfl, ?_⟩; intro a ha
  refine sv ha (r_assign ha rfl) rfl rfl rfl ?_; clear ha a; intro a ha
  refine hK8 _ _ ?_; clear hK8 K7
  refine wp_seq_k fun K10 hK11 => ?_
  refine regionD (S := fun w => Below w0.heap.size w0 w ∧ w.heap[b4]? = some (.cells ((p).map ei).toArray 33 (0, 0)) ∧ w.heap[b6]? = some (.cells ((q).map ei).toArray 33 (0, 0)) ∧ True) [] [0, 1, 2, 3, 5, 6, 8, 9, 10] [0, 1, 2, 3, 5, 6, 4, 7, 8, 9, 10] mixed (by kernel_rfl) (fun w hg => ⟨keepB0 hg hB, keepO0 hg hb4, keepO0 hg hb6, trivial⟩) ?_
  intro w12 hg
  replace hB := keepB0 hg hB
  replace hb4 := keepO0 hg hb4
  replace hb6 := keepO0 hg hb6
  clear hg
  refine cv ha rfl rfl (fun w _ => r_move ha rfl) rfl rfl rfl ?_; clear ha a; intro a ha
  refine cv ha rfl rfl (fun w _ => r_move ha rfl) rfl rfl rfl ?_; clear ha a; intro a ha
  refine cvg ha rfl rfl (fun w ⟨hB, hb4, hb6, _⟩ => r_loadR ha rfl Tryd.isAgg33 Tryd.sizeOf33 (C := (p).map ei) (by rw [List.length_map, hp]) (cells_all hb4)) rfl rfl rfl rfl rfl ?_; clear ha a; intro a ha
  refine cvg ha rfl rfl (fun w ⟨hB, hb4, hb6, _⟩ => r_loadR ha rfl Tryd.isAgg33 Tryd.sizeOf33 (C := (q).map ei) (by rw [List.length_map, hq]) (cells_all hb6)) rfl rfl rfl rfl rfl ?_; clear ha a; intro a ha
  refine cvg ha rfl rfl (fun w ⟨hB, hb4, hb6, _⟩ => r_loadR ha rfl Tryd.isAgg33 Tryd.sizeOf33 (C := (p).map ei) (by rw [List.length_map, hp]) (cells_all hb4)) rfl rfl rfl rfl rfl ?_; clear ha a; intro a ha
  refine cvg ha rfl rfl (fun w ⟨hB, hb4, hb6, _⟩ => r_loadR ha rfl Tryd.isAgg33 Tryd.sizeOf33 (C := (q).map ei) (by rw [List.length_map, hq]) (cells_all hb6)) rfl rfl rfl rfl rfl ?_; clear ha a; intro a ha
  refine ccg ha rfl rfl (r_call ha [.agg ((p).map ei).toArray, .agg ((q).map ei).toArray] rfl Tryd.call46) rfl rfl rfl rfl rfl (c_times p q _ (by rw [hp]) (by rw [hq]) (glob_keep hG hB)) ?_
  clear ha a
  rintro e w13 ⟨rfl, hBc⟩
  have hg := grown_call hBc; clear hBc
  replace hB := keepB0 hg hB
  replace hb4 := keepO0 hg hb4
  replace hb6 := keepO0 hg hb6
  clear hg
  refine ⟨fun _ => ⟨hB, hb4, hb6, trivial⟩, _, rfl, ?_⟩; intro a ha
  refine ccg ha rfl rfl (r_call ha [.agg ((p).map ei).toArray, .agg ((q).map ei).toArray] rfl Tryd.call47) rfl rfl rfl rfl rfl (c_rtimes p q _ (by rw [hp]) (by rw [hq])) ?_
  clear ha a
  rintro e w14 ⟨rfl, hBc⟩
  have hg := grown_call hBc; clear hBc
  replace hB := keepB0 hg hB
  replace hb4 := keepO0 hg hb4
  replace hb6 := keepO0 hg hb6
  clear hg
  refine ⟨fun _ => ⟨hB, hb4, hb6, trivial⟩, _, rfl, ?_⟩; intro a ha
  refine cvg ha rfl rfl (fun w _ => r_eqA (f := (fun z : Int => z)) (fun x y h => h) (tms p q) (tms p q) ha rfl rfl (by rw [(tms_red _ _).len]) (by rw [(tms_red _ _).len]) Tryd.eqGuardType34 Tryd.runUnderlying34 Tryd.sizeOf3 Tryd.underlying3 Tryd.isAgg3 true (decide_eq_true rfl)) rfl rfl rfl rfl rfl ?_; clear ha a; intro a ha
  refine cv ha rfl rfl (fun w _ => r_pick ha true rfl rfl) rfl rfl rfl ?_; clear ha a; intro a ha
  refine cv ha rfl rfl (fun w _ => r_assign ha rfl) rfl rfl rfl ?_; clear ha a; intro a ha
  refine cfin (hK11 _ _ ?_); clear hK11 K10
  refine wp_ret ?_
  repeat (first | (with_reducible refine t_ret ?_) | (with_reducible refine x_ret ?_))
  exact ret1 ha Tryd.results14 rfl ⟨rfl, hB⟩

theorem law_NttLaws (p q r : List Int) (w0 : World) (hp : p.length = 256) (hq : q.length = 256) (hr : r.length = 256) (hG : Glob w0) :
    Calls Tryd.prog 16 #[.agg ((p).map ei).toArray, .agg ((q).map ei).toArray, .agg ((r).map ei).toArray] w0 fun e w' => e = .returned (.bool true) ∧ Below w0.heap.size w0 w' := by
  refine enter (args := [_, _, _]) Tryd.func16 rfl Tryd.ntmps16 rfl ?_
  intro a ha
  have hB := Below.refl w0.heap.size w0
  refine wp_seq_k fun K1 hK2 => ?_
  refine region ?_
  refine sbox ha rfl rfl ?_
  clear ha a; intro a w3 b4 ha hg hb4 hge4 hlt4
  have hz4 : w0.heap.size ≤ b4 := Nat.le_trans hB.size hge4
  replace hB := keepB0 hg hB
  clear hg hge4 hlt4
  refine sbox ha rfl rfl ?_
  clear ha a; intro a w5 b6 ha hg hb6 hge6 hlt6
  have hz6 : w0.heap.size ≤ b6 := Nat.le_trans hB.size hge6
  have hq4_6 : b4 < b6 := Nat.lt_of_lt_of_le (lt_of_block hb4) hge6
  replace hB := keepB0 hg hB
  replace hb4 := keepO0 hg hb4
  clear hg hge6 hlt6
  refine sbox ha rfl rfl ?_
  clear ha a; intro a w7 b8 ha hg hb8 hge8 hlt8
  have hz8 : w0.heap.size ≤ b8 := Nat.le_trans hB.size hge8
  have hq4_8 : b4 < b8 := Nat.lt_of_lt_of_le (lt_of_block hb4) hge8
  have hq6_8 : b6 < b8 := Nat.lt_of_lt_of_le (lt_of_block hb6) hge8
  replace hB := keepB0 hg hB
  replace hb4 := keepO0 hg hb4
  replace hb6 := keepO0 hg hb6
  clear hg hge8 hlt8
  refine sv ha (r_assign ha rfl) rfl rfl rfl ?_; clear ha a; intro a ha
  refine hK2 _ _ ?_; clear hK2 K1
  refine wp_seq_k fun K9 hK10 => ?_
  refine region ?_
  refine sc ha (r_call ha [] rfl Tryd.call35) rfl rfl rfl (c_awake11  _ (glob_keep hG hB)) ?_
  clear ha a
  rintro e w11 ⟨rfl, hBc⟩
  have hg := grown_call hBc; clear hBc
  replace hB := keepB0 hg hB
  replace hb4 := keepO0 hg hb4
  replace hb6 := keepO0 hg hb6
  replace hb8 := keepO0 hg hb8
  clear hg
  refine ⟨_, rfl, ?_⟩; intro a ha
  refine sv ha (r_assign ha rfl) rfl rfl rfl ?_; clear ha a; intro a ha
  refine hK10 _ _ ?_; clear hK10 K9
  refine wp_seq_k fun K12 hK13 => ?_
  refine wp_seq_k fun K14 hK15 => ?_
  refine region ?_
  refine sv ha (r_move ha rfl) rfl rfl rfl ?_; clear ha a; intro a ha
  refine sv ha (r_not ha true false rfl rfl) rfl rfl rfl ?_; clear ha a; intro a ha
  refine hK15 _ _ ?_; clear hK15 K14
  refine cond_f ha rfl ?_
  refine wp_skip ?_
  refine hK13 _ _ ?_; clear hK13 K12
  refine wp_seq_k fun K16 hK17 => ?_
  refine regionD (S := fun w => Below w0.heap.size w0 w ∧ w.heap[b4]? = some (.cells ((p).map ei).toArray 33 (0, 0)) ∧ w.heap[b6]? = some (.cells ((q).map ei).toArray 33 (0, 0)) ∧ w.heap[b8]? = some (.cells ((r).map ei).toArray 33 (0, 0)) ∧ True) [] [0, 1, 4, 6, 9, 10] [0, 1, 4, 6, 2, 3, 5, 7, 8, 9, 10] mixed (by kernel_rfl) (fun w hg => ⟨keepB0 hg hB, keepO0 hg hb4, keepO0 hg hb6, keepO0 hg hb8, trivial⟩) ?_
  intro w18 hg
  replace hB := keepB0 hg hB
  replace hb4 := keepO0 hg hb4
  replace hb6 := keepO0 hg hb6
  replace hb8 := keepO0 hg hb8
  clear hg
  refine cv ha rfl rfl (fun w ⟨hB, hb4, hb6, hb8, _⟩ => r_loadR ha rfl Tryd.isAgg33 Tryd.sizeOf33 (C := (p).map ei) (by rw [List.length_map, hp]) (cells_all hb4)) rfl rfl rfl ?_; clear ha a; intro a ha
  refine cv ha rfl rfl (fun w ⟨hB, hb4, hb6, hb8, _⟩ => r_loadR ha rfl Tryd.isAgg33 Tryd.sizeOf33 (C := (q).map ei) (by rw [List.length_map, hq]) (cells_all hb6)) rfl rfl rfl ?_; clear ha a; intro a ha
  refine cv ha rfl rfl (fun w ⟨hB, hb4, hb6, hb8, _⟩ => r_loadR ha rfl Tryd.isAgg33 Tryd.sizeOf33 (C := (p).map ei) (by rw [List.length_map, hp]) (cells_all hb4)) rfl rfl rfl ?_; clear ha a; intro a ha
  refine cv ha rfl rfl (fun w ⟨hB, hb4, hb6, hb8, _⟩ => r_loadR ha rfl Tryd.isAgg33 Tryd.sizeOf33 (C := (q).map ei) (by rw [List.length_map, hq]) (cells_all hb6)) rfl rfl rfl ?_; clear ha a; intro a ha
  refine cc ha rfl rfl (r_call ha [.agg ((p).map ei).toArray, .agg ((q).map ei).toArray] rfl Tryd.call36) rfl rfl rfl (c_plus p q _ (by rw [hp]) (by rw [hq])) ?_
  clear ha a
  rintro e w19 ⟨rfl, hBc⟩
  have hg := grown_call hBc; clear hBc
  replace hB := keepB0 hg hB
  replace hb4 := keepO0 hg hb4
  replace hb6 := keepO0 hg hb6
  replace hb8 := keepO0 hg hb8
  clear hg
  refine ⟨fun _ => ⟨hB, hb4, hb6, hb8, trivial⟩, _, rfl, ?_⟩; intro a ha
  refine cc ha rfl rfl (r_call ha [.agg (((pl p q)).map ei).toArray] rfl Tryd.call42) rfl rfl rfl (c_fwd (pl p q) _ (by rw [(pl_red _ _ (by rw [hp])).len]) (glob_keep hG hB)) ?_
  clear ha a
  rintro e w20 ⟨rfl, hBc⟩
  have hg := grown_call hBc; clear hBc
  replace hB := keepB0 hg hB
  replace hb4 := keepO0 hg hb4
  replace hb6 := keepO0 hg hb6
  replace hb8 := keepO0 hg hb8
  clear hg
  refine ⟨fun _ => ⟨hB, hb4, hb6, hb8, trivial⟩, _, rfl, ?_⟩; intro a ha
  refine cc ha rfl rfl (r_call ha [.agg ((p).map ei).toArray] rfl Tryd.call42) rfl rfl rfl (c_fwd p _ (by rw [hp]) (glob_keep hG hB)) ?_
  clear ha a
  rintro e w21 ⟨rfl, hBc⟩
  have hg := grown_call hBc; clear hBc
  replace hB := keepB0 hg hB
  replace hb4 := keepO0 hg hb4
  replace hb6 := keepO0 hg hb6
  replace hb8 := keepO0 hg hb8
  clear hg
  refine ⟨fun _ => ⟨hB, hb4, hb6, hb8, trivial⟩, _, rfl, ?_⟩; intro a ha
  refine cc ha rfl rfl (r_call ha [.agg ((q).map ei).toArray] rfl Tryd.call42) rfl rfl rfl (c_fwd q _ (by rw [hq]) (glob_keep hG hB)) ?_
  clear ha a
  rintro e w22 ⟨rfl, hBc⟩
  have hg := grown_call hBc; clear hBc
  replace hB := keepB0 hg hB
  replace hb4 := keepO0 hg hb4
  replace hb6 := keepO0 hg hb6
  replace hb8 := keepO0 hg hb8
  clear hg
  refine ⟨fun _ => ⟨hB, hb4, hb6, hb8, trivial⟩, _, rfl, ?_⟩; intro a ha
  refine cc ha rfl rfl (r_call ha [.agg (((fwd p)).map ei).toArray, .agg (((fwd q)).map ei).toArray] rfl Tryd.call36) rfl rfl rfl (c_plus (fwd p) (fwd q) _ (by rw [(fwd_red _ (by rw [hp])).len]) (by rw [(fwd_red _ (by rw [hq])).len])) ?_
  clear ha a
  rintro e w23 ⟨rfl, hBc⟩
  have hg := grown_call hBc; clear hBc
  replace hB := keepB0 hg hB
  replace hb4 := keepO0 hg hb4
  replace hb6 := keepO0 hg hb6
  replace hb8 := keepO0 hg hb8
  clear hg
  refine ⟨fun _ => ⟨hB, hb4, hb6, hb8, trivial⟩, _, rfl, ?_⟩; intro a ha
  refine cv ha rfl rfl (fun w _ => r_eqA (f := (fun z : Int => z)) (fun x y h => h) (fwd (pl p q)) (pl (fwd p) (fwd q)) ha rfl rfl (by rw [(fwd_red _ (by rw [(pl_red _ _ (by rw [hp])).len])).len]) (by rw [(pl_red _ _ (by rw [(fwd_red _ (by rw [hp])).len])).len]) Tryd.eqGuardType34 Tryd.runUnderlying34 Tryd.sizeOf3 Tryd.underlying3 Tryd.isAgg3 true (decide_eq_true (fwd_plus p q hp hq))) rfl rfl rfl ?_; clear ha a; intro a ha
  refine cv ha rfl rfl (fun w _ => r_assign ha rfl) rfl rfl rfl ?_; clear ha a; intro a ha
  refine cfin (hK17 _ _ ?_); clear hK17 K16
  refine wp_seq_k fun K24 hK25 => ?_
  refine regionD (S := fun w => Below w0.heap.size w0 w ∧ w.heap[b4]? = some (.cells ((p).map ei).toArray 33 (0, 0)) ∧ w.heap[b6]? = some (.cells ((q).map ei).toArray 33 (0, 0)) ∧ w.heap[b8]? = some (.cells ((r).map ei).toArray 33 (0, 0)) ∧ True) [] [0, 1, 3, 4, 6, 7] [0, 1, 3, 4, 2, 5, 6, 7] mixed (by kernel_rfl) (fun w hg => ⟨keepB0 hg hB, keepO0 hg hb4, keepO0 hg hb6, keepO0 hg hb8, trivial⟩) ?_
  intro w26 hg
  replace hB := keepB0 hg hB
  replace hb4 := keepO0 hg hb4
  replace hb6 := keepO0 hg hb6
  replace hb8 := keepO0 hg hb8
  clear hg
  refine cv ha rfl rfl (fun w ⟨hB, hb4, hb6, hb8, _⟩ => r_loadR ha rfl Tryd.isAgg33 Tryd.sizeOf33 (C := (p).map ei) (by rw [List.length_map, hp]) (cells_all hb4)) rfl rfl rfl ?_; clear ha a; intro a ha
  refine cv ha rfl rfl (fun w ⟨hB, hb4, hb6, hb8, _⟩ => r_loadR ha rfl Tryd.isAgg33 Tryd.sizeOf33 (C := (q).map ei) (by rw [List.length_map, hq]) (cells_all hb6)) rfl rfl rfl ?_; clear ha a; intro a ha
  refine cv ha rfl rfl (fun w ⟨hB, hb4, hb6, hb8, _⟩ => r_loadR ha rfl Tryd.isAgg33 Tryd.sizeOf33 (C := (q).map ei) (by rw [List.length_map, hq]) (cells_all hb6)) rfl rfl rfl ?_; clear ha a; intro a ha
  refine cv ha rfl rfl (fun w ⟨hB, hb4, hb6, hb8, _⟩ => r_loadR ha rfl Tryd.isAgg33 Tryd.sizeOf33 (C := (p).map ei) (by rw [List.length_map, hp]) (cells_all hb4)) rfl rfl rfl ?_; clear ha a; intro a ha
  refine cc ha rfl rfl (r_call ha [.agg ((p).map ei).toArray, .agg ((q).map ei).toArray] rfl Tryd.call48) rfl rfl rfl (c_prod p q _ (by rw [hp]) (by rw [hq]) (glob_keep hG hB)) ?_
  clear ha a
  rintro e w27 ⟨rfl, hBc⟩
  have hg := grown_call hBc; clear hBc
  replace hB := keepB0 hg hB
  replace hb4 := keepO0 hg hb4
  replace hb6 := keepO0 hg hb6
  replace hb8 := keepO0 hg hb8
  clear hg
  refine ⟨fun _ => ⟨hB, hb4, hb6, hb8, trivial⟩, _, rfl, ?_⟩; intro a ha
  refine cc ha rfl rfl (r_call ha [.agg ((q).map ei).toArray, .agg ((p).map ei).toArray] rfl Tryd.call48) rfl rfl rfl (c_prod q p _ (by rw [hq]) (by rw [hp]) (glob_keep hG hB)) ?_
  clear ha a
  rintro e w28 ⟨rfl, hBc⟩
  have hg := grown_call hBc; clear hBc
  replace hB := keepB0 hg hB
  replace hb4 := keepO0 hg hb4
  replace hb6 := keepO0 hg hb6
  replace hb8 := keepO0 hg hb8
  clear hg
  refine ⟨fun _ => ⟨hB, hb4, hb6, hb8, trivial⟩, _, rfl, ?_⟩; intro a ha
  refine cv ha rfl rfl (fun w _ => r_eqA (f := (fun z : Int => z)) (fun x y h => h) (prd p q) (prd q p) ha rfl rfl (by rw [(prd_red _ _).len]) (by rw [(prd_red _ _).len]) Tryd.eqGuardType34 Tryd.runUnderlying34 Tryd.sizeOf3 Tryd.underlying3 Tryd.isAgg3 true (decide_eq_true (prd_comm p q hp hq))) rfl rfl rfl ?_; clear ha a; intro a ha
  refine cv ha rfl rfl (fun w _ => r_assign ha rfl) rfl rfl rfl ?_; clear ha a; intro a ha
  refine cfin (hK25 _ _ ?_); clear hK25 K24
  refine wp_seq_k fun K29 hK30 => ?_
  refine regionD (S := fun w => Below w0.heap.size w0 w ∧ w.heap[b4]? = some (.cells ((p).map ei).toArray 33 (0, 0)) ∧ w.heap[b6]? = some (.cells ((q).map ei).toArray 33 (0, 0)) ∧ w.heap[b8]? = some (.cells ((r).map ei).toArray 33 (0, 0)) ∧ True) [] [0, 1, 3, 5, 6, 7, 10, 11] [0, 1, 3, 5, 6, 7, 2, 4, 8, 9, 10, 11] mixed (by kernel_rfl) (fun w hg => ⟨keepB0 hg hB, keepO0 hg hb4, keepO0 hg hb6, keepO0 hg hb8, trivial⟩) ?_
  intro w31 hg
  replace hB := keepB0 hg hB
  replace hb4 := keepO0 hg hb4
  replace hb6 := keepO0 hg hb6
  replace hb8 := keepO0 hg hb8
  clear hg
  refine cv ha rfl rfl (fun w ⟨hB, hb4, hb6, hb8, _⟩ => r_loadR ha rfl Tryd.isAgg33 Tryd.sizeOf33 (C := (p).map ei) (by rw [List.length_map, hp]) (cells_all hb4)) rfl rfl rfl ?_; clear ha a; intro a ha
  refine cv ha rfl rfl (fun w ⟨hB, hb4, hb6, hb8, _⟩ => r_loadR ha rfl Tryd.isAgg33 Tryd.sizeOf33 (C := (q).map ei) (by rw [List.length_map, hq]) (cells_all hb6)) rfl rfl rfl ?_; clear ha a; intro a ha
  refine cv ha rfl rfl (fun w ⟨hB, hb4, hb6, hb8, _⟩ => r_loadR ha rfl Tryd.isAgg33 Tryd.sizeOf33 (C := (r).map ei) (by rw [List.length_map, hr]) (cells_all hb8)) rfl rfl rfl ?_; clear ha a; intro a ha
  refine cv ha rfl rfl (fun w ⟨hB, hb4, hb6, hb8, _⟩ => r_loadR ha rfl Tryd.isAgg33 Tryd.sizeOf33 (C := (p).map ei) (by rw [List.length_map, hp]) (cells_all hb4)) rfl rfl rfl ?_; clear ha a; intro a ha
  refine cv ha rfl rfl (fun w ⟨hB, hb4, hb6, hb8, _⟩ => r_loadR ha rfl Tryd.isAgg33 Tryd.sizeOf33 (C := (q).map ei) (by rw [List.length_map, hq]) (cells_all hb6)) rfl rfl rfl ?_; clear ha a; intro a ha
  refine cv ha rfl rfl (fun w ⟨hB, hb4, hb6, hb8, _⟩ => r_loadR ha rfl Tryd.isAgg33 Tryd.sizeOf33 (C := (r).map ei) (by rw [List.length_map, hr]) (cells_all hb8)) rfl rfl rfl ?_; clear ha a; intro a ha
  refine cc ha rfl rfl (r_call ha [.agg ((p).map ei).toArray, .agg ((q).map ei).toArray] rfl Tryd.call48) rfl rfl rfl (c_prod p q _ (by rw [hp]) (by rw [hq]) (glob_keep hG hB)) ?_
  clear ha a
  rintro e w32 ⟨rfl, hBc⟩
  have hg := grown_call hBc; clear hBc
  replace hB := keepB0 hg hB
  replace hb4 := keepO0 hg hb4
  replace hb6 := keepO0 hg hb6
  replace hb8 := keepO0 hg hb8
  clear hg
  refine ⟨fun _ => ⟨hB, hb4, hb6, hb8, trivial⟩, _, rfl, ?_⟩; intro a ha
  refine cc ha rfl rfl (r_call ha [.agg (((prd p q)).map ei).toArray, .agg ((r).map ei).toArray] rfl Tryd.call48) rfl rfl rfl (c_prod (prd p q) r _ (by rw [(prd_red _ _).len]) (by rw [hr]) (glob_keep hG hB)) ?_
  clear ha a
  rintro e w33 ⟨rfl, hBc⟩
  have hg := grown_call hBc; clear hBc
  replace hB := keepB0 hg hB
  replace hb4 := keepO0 hg hb4
  replace hb6 := keepO0 hg hb6
  replace hb8 := keepO0 hg hb8
  clear hg
  refine ⟨fun _ => ⟨hB, hb4, hb6, hb8, trivial⟩, _, rfl, ?_⟩; intro a ha
  refine cc ha rfl rfl (r_call ha [.agg ((q).map ei).toArray, .agg ((r).map ei).toArray] rfl Tryd.call48) rfl rfl rfl (c_prod q r _ (by rw [hq]) (by rw [hr]) (glob_keep hG hB)) ?_
  clear ha a
  rintro e w34 ⟨rfl, hBc⟩
  have hg := grown_call hBc; clear hBc
  replace hB := keepB0 hg hB
  replace hb4 := keepO0 hg hb4
  replace hb6 := keepO0 hg hb6
  replace hb8 := keepO0 hg hb8
  clear hg
  refine ⟨fun _ => ⟨hB, hb4, hb6, hb8, trivial⟩, _, rfl, ?_⟩; intro a ha
  refine cc ha rfl rfl (r_call ha [.agg ((p).map ei).toArray, .agg (((prd q r)).map ei).toArray] rfl Tryd.call48) rfl rfl rfl (c_prod p (prd q r) _ (by rw [hp]) (by rw [(prd_red _ _).len]) (glob_keep hG hB)) ?_
  clear ha a
  rintro e w35 ⟨rfl, hBc⟩
  have hg := grown_call hBc; clear hBc
  replace hB := keepB0 hg hB
  replace hb4 := keepO0 hg hb4
  replace hb6 := keepO0 hg hb6
  replace hb8 := keepO0 hg hb8
  clear hg
  refine ⟨fun _ => ⟨hB, hb4, hb6, hb8, trivial⟩, _, rfl, ?_⟩; intro a ha
  refine cv ha rfl rfl (fun w _ => r_eqA (f := (fun z : Int => z)) (fun x y h => h) (prd (prd p q) r) (prd p (prd q r)) ha rfl rfl (by rw [(prd_red _ _).len]) (by rw [(prd_red _ _).len]) Tryd.eqGuardType34 Tryd.runUnderlying34 Tryd.sizeOf3 Tryd.underlying3 Tryd.isAgg3 true (decide_eq_true (prd_assoc p q r hp hq hr))) rfl rfl rfl ?_; clear ha a; intro a ha
  refine cv ha rfl rfl (fun w _ => r_assign ha rfl) rfl rfl rfl ?_; clear ha a; intro a ha
  refine cfin (hK30 _ _ ?_); clear hK30 K29
  refine wp_seq_k fun K36 hK37 => ?_
  refine regionD (S := fun w => Below w0.heap.size w0 w ∧ w.heap[b4]? = some (.cells ((p).map ei).toArray 33 (0, 0)) ∧ w.heap[b6]? = some (.cells ((q).map ei).toArray 33 (0, 0)) ∧ w.heap[b8]? = some (.cells ((r).map ei).toArray 33 (0, 0)) ∧ True) [] [0, 1, 2, 5, 6, 8, 9, 12, 13] [0, 1, 2, 5, 6, 8, 9, 3, 4, 7, 10, 11, 12, 13] mixed (by kernel_rfl) (fun w hg => ⟨keepB0 hg hB, keepO0 hg hb4, keepO0 hg hb6, keepO0 hg hb8, trivial⟩) ?_
  intro w38 hg
  replace hB := keepB0 hg hB
  replace hb4 := keepO0 hg hb4
  replace hb6 := keepO0 hg hb6
  replace hb8 := keepO0 hg hb8
  clear hg
  refine cv ha rfl rfl (fun w ⟨hB, hb4, hb6, hb8, _⟩ => r_loadR ha rfl Tryd.isAgg33 Tryd.sizeOf33 (C := (p).map ei) (by rw [List.length_map, hp]) (cells_all hb4)) rfl rfl rfl ?_; clear ha a; intro a ha
  refine cv ha rfl rfl (fun w ⟨hB, hb4, hb6, hb8, _⟩ => r_loadR ha rfl Tryd.isAgg33 Tryd.sizeOf33 (C := (q).map ei) (by rw [List.length_map, hq]) (cells_all hb6)) rfl rfl rfl ?_; clear ha a; intro a ha
  refine cv ha rfl rfl (fun w ⟨hB, hb4, hb6, hb8, _⟩ => r_loadR ha rfl Tryd.isAgg33 Tryd.sizeOf33 (C := (r).map ei) (by rw [List.length_map, hr]) (cells_all hb8)) rfl rfl rfl ?_; clear ha a; intro a ha
  refine cv ha rfl rfl (fun w ⟨hB, hb4, hb6, hb8, _⟩ => r_loadR ha rfl Tryd.isAgg33 Tryd.sizeOf33 (C := (p).map ei) (by rw [List.length_map, hp]) (cells_all hb4)) rfl rfl rfl ?_; clear ha a; intro a ha
  refine cv ha rfl rfl (fun w ⟨hB, hb4, hb6, hb8, _⟩ => r_loadR ha rfl Tryd.isAgg33 Tryd.sizeOf33 (C := (q).map ei) (by rw [List.length_map, hq]) (cells_all hb6)) rfl rfl rfl ?_; clear ha a; intro a ha
  refine cv ha rfl rfl (fun w ⟨hB, hb4, hb6, hb8, _⟩ => r_loadR ha rfl Tryd.isAgg33 Tryd.sizeOf33 (C := (p).map ei) (by rw [List.length_map, hp]) (cells_all hb4)) rfl rfl rfl ?_; clear ha a; intro a ha
  refine cv ha rfl rfl (fun w ⟨hB, hb4, hb6, hb8, _⟩ => r_loadR ha rfl Tryd.isAgg33 Tryd.sizeOf33 (C := (r).map ei) (by rw [List.length_map, hr]) (cells_all hb8)) rfl rfl rfl ?_; clear ha a; intro a ha
  refine cc ha rfl rfl (r_call ha [.agg ((q).map ei).toArray, .agg ((r).map ei).toArray] rfl Tryd.call36) rfl rfl rfl (c_plus q r _ (by rw [hq]) (by rw [hr])) ?_
  clear ha a
  rintro e w39 ⟨rfl, hBc⟩
  have hg := grown_call hBc; clear hBc
  replace hB := keepB0 hg hB
  replace hb4 := keepO0 hg hb4
  replace hb6 := keepO0 hg hb6
  replace hb8 := keepO0 hg hb8
  clear hg
  refine ⟨fun _ => ⟨hB, hb4, hb6, hb8, trivial⟩, _, rfl, ?_⟩; intro a ha
  refine cc ha rfl rfl (r_call ha [.agg ((p).map ei).toArray, .agg (((pl q r)).map ei).toArray] rfl Tryd.call48) rfl rfl rfl (c_prod p (pl q r) _ (by rw [hp]) (by rw [(pl_red _ _ (by rw [hq])).len]) (glob_keep hG hB)) ?_
  clear ha a
  rintro e w40 ⟨rfl, hBc⟩
  have hg := grown_call hBc; clear hBc
  replace hB := keepB0 hg hB
  replace hb4 := keepO0 hg hb4
  replace hb6 := keepO0 hg hb6
  replace hb8 := keepO0 hg hb8
  clear hg
  refine ⟨fun _ => ⟨hB, hb4, hb6, hb8, trivial⟩, _, rfl, ?_⟩; intro a ha
  refine cc ha rfl rfl (r_call ha [.agg ((p).map ei).toArray, .agg ((q).map ei).toArray] rfl Tryd.call48) rfl rfl rfl (c_prod p q _ (by rw [hp]) (by rw [hq]) (glob_keep hG hB)) ?_
  clear ha a
  rintro e w41 ⟨rfl, hBc⟩
  have hg := grown_call hBc; clear hBc
  replace hB := keepB0 hg hB
  replace hb4 := keepO0 hg hb4
  replace hb6 := keepO0 hg hb6
  replace hb8 := keepO0 hg hb8
  clear hg
  refine ⟨fun _ => ⟨hB, hb4, hb6, hb8, trivial⟩, _, rfl, ?_⟩; intro a ha
  refine cc ha rfl rfl (r_call ha [.agg ((p).map ei).toArray, .agg ((r).map ei).toArray] rfl Tryd.call48) rfl rfl rfl (c_prod p r _ (by rw [hp]) (by rw [hr]) (glob_keep hG hB)) ?_
  clear ha a
  rintro e w42 ⟨rfl, hBc⟩
  have hg := grown_call hBc; clear hBc
  replace hB := keepB0 hg hB
  replace hb4 := keepO0 hg hb4
  replace hb6 := keepO0 hg hb6
  replace hb8 := keepO0 hg hb8
  clear hg
  refine ⟨fun _ => ⟨hB, hb4, hb6, hb8, trivial⟩, _, rfl, ?_⟩; intro a ha
  refine cc ha rfl rfl (r_call ha [.agg (((prd p q)).map ei).toArray, .agg (((prd p r)).map ei).toArray] rfl Tryd.call36) rfl rfl rfl (c_plus (prd p q) (prd p r) _ (by rw [(prd_red _ _).len]) (by rw [(prd_red _ _).len])) ?_
  clear ha a
  rintro e w43 ⟨rfl, hBc⟩
  have hg := grown_call hBc; clear hBc
  replace hB := keepB0 hg hB
  replace hb4 := keepO0 hg hb4
  replace hb6 := keepO0 hg hb6
  replace hb8 := keepO0 hg hb8
  clear hg
  refine ⟨fun _ => ⟨hB, hb4, hb6, hb8, trivial⟩, _, rfl, ?_⟩; intro a ha
  refine cv ha rfl rfl (fun w _ => r_eqA (f := (fun z : Int => z)) (fun x y h => h) (prd p (pl q r)) (pl (prd p q) (prd p r)) ha rfl rfl (by rw [(prd_red _ _).len]) (by rw [(pl_red _ _ (by rw [(prd_red _ _).len])).len]) Tryd.eqGuardType34 Tryd.runUnderlying34 Tryd.sizeOf3 Tryd.underlying3 Tryd.isAgg3 true (decide_eq_true (prd_dist p q r hp hq hr))) rfl rfl rfl ?_; clear ha a; intro a ha
  refine cv ha rfl rfl (fun w _ => r_assign ha rfl) rfl rfl rfl ?_; clear ha a; intro a ha
  refine cfin (hK37 _ _ ?_); clear hK37 K36
  refine wp_seq_k fun K44 hK45 => ?_
  refine regionD (S := fun w => Below w0.heap.size w0 w ∧ w.heap[b4]? = some (.cells ((p).map ei).toArray 33 (0, 0)) ∧ w.heap[b6]? = some (.cells ((q).map ei).toArray 33 (0, 0)) ∧ w.heap[b8]? = some (.cells ((r).map ei).toArray 33 (0, 0)) ∧ True) [] [0, 1, 2, 3, 4, 5, 6, 7, 8, 9, 10, 11, 12, 14, 16, 18, 19, 20] [0, 1, 2, 3, 4, 5, 6, 7, 8, 9, 10, 11, 12, 14, 16, 13, 15, 17, 18, 19, 20] mixed (by kernel_rfl) (fun w hg => ⟨keepB0 hg hB, keepO0 hg hb4, keepO0 hg hb6, keepO0 hg hb8, trivial⟩) ?_
  intro w46 hg
  replace hB := keepB0 hg hB
  replace hb4 := keepO0 hg hb4
  replace hb6 := keepO0 hg hb6
  replace hb8 := keepO0 hg hb8
  clear hg
  refine cv ha rfl rfl (fun w _ => r_move ha rfl) rfl rfl rfl ?_; clear ha a; intro a ha
  refine cv ha rfl rfl (fun w _ => r_move ha rfl) rfl rfl rfl ?_; clear ha a; intro a ha
  refine cvg ha rfl rfl (fun w _ => r_move ha rfl) rfl rfl rfl rfl rfl ?_; clear ha a; intro a ha
  refine cv ha rfl rfl (fun w _ => r_pick ha true rfl rfl) rfl rfl rfl ?_; clear ha a; intro a ha
  refine cv ha rfl rfl (fun w _ => r_move ha rfl) rfl rfl rfl ?_; clear ha a; intro a ha
  refine cvg ha rfl rfl (fun w _ => r_move ha rfl) rfl rfl rfl rfl rfl ?_; clear ha a; intro a ha
  refine cv ha rfl rfl (fun w _ => r_pick ha true rfl rfl) rfl rfl rfl ?_; clear ha a; intro a ha
  refine cv ha rfl rfl (fun w _ => r_move ha rfl) rfl rfl rfl ?_; clear ha a; intro a ha
  refine cvg ha rfl rfl (fun w _ => r_move ha rfl) rfl rfl rfl rfl rfl ?_; clear ha a; intro a ha
  refine cv ha rfl rfl (fun w _ => r_pick ha true rfl rfl) rfl rfl rfl ?_; clear ha a; intro a ha
  refine cv ha rfl rfl (fun w _ => r_move ha rfl) rfl rfl rfl ?_; clear ha a; intro a ha
  refine cvg ha rfl rfl (fun w ⟨hB, hb4, hb6, hb8, _⟩ => r_loadR ha rfl Tryd.isAgg33 Tryd.sizeOf33 (C := (p).map ei) (by rw [List.length_map, hp]) (cells_all hb4)) rfl rfl rfl rfl rfl ?_; clear ha a; intro a ha
  refine cvg ha rfl rfl (fun w ⟨hB, hb4, hb6, hb8, _⟩ => r_loadR ha rfl Tryd.isAgg33 Tryd.sizeOf33 (C := (q).map ei) (by rw [List.length_map, hq]) (cells_all hb6)) rfl rfl rfl rfl rfl ?_; clear ha a; intro a ha
  refine cvg ha rfl rfl (fun w ⟨hB, hb4, hb6, hb8, _⟩ => r_loadR ha rfl Tryd.isAgg33 Tryd.sizeOf33 (C := (q).map ei) (by rw [List.length_map, hq]) (cells_all hb6)) rfl rfl rfl rfl rfl ?_; clear ha a; intro a ha
  refine cvg ha rfl rfl (fun w ⟨hB, hb4, hb6, hb8, _⟩ => r_loadR ha rfl Tryd.isAgg33 Tryd.sizeOf33 (C := (p).map ei) (by rw [List.length_map, hp]) (cells_all hb4)) rfl rfl rfl rfl rfl ?_; clear ha a; intro a ha
  refine ccg ha rfl rfl (r_call ha [.agg ((p).map ei).toArray, .agg ((q).map ei).toArray] rfl Tryd.call36) rfl rfl rfl rfl rfl (c_plus p q _ (by rw [hp]) (by rw [hq])) ?_
  clear ha a
  rintro e w47 ⟨rfl, hBc⟩
  have hg := grown_call hBc; clear hBc
  replace hB := keepB0 hg hB
  replace hb4 := keepO0 hg hb4
  replace hb6 := keepO0 hg hb6
  replace hb8 := keepO0 hg hb8
  clear hg
  refine ⟨fun _ => ⟨hB, hb4, hb6, hb8, trivial⟩, _, rfl, ?_⟩; intro a ha
  refine ccg ha rfl rfl (r_call ha [.agg (((pl p q)).map ei).toArray, .agg ((q).map ei).toArray] rfl Tryd.call38) rfl rfl rfl rfl rfl (c_minus (pl p q) q _ (by rw [(pl_red _ _ (by rw [hp])).len]) (by rw [hq])) ?_
  clear ha a
  rintro e w48 ⟨rfl, hBc⟩
  have hg := grown_call hBc; clear hBc
  replace hB := keepB0 hg hB
  replace hb4 := keepO0 hg hb4
  replace hb6 := keepO0 hg hb6
  replace hb8 := keepO0 hg hb8
  clear hg
  refine ⟨fun _ => ⟨hB, hb4, hb6, hb8, trivial⟩, _, rfl, ?_⟩; intro a ha
  refine ccg ha rfl rfl (r_call ha [.agg ((p).map ei).toArray] rfl Tryd.call40) rfl rfl rfl rfl rfl (c_clean p _ (by rw [hp])) ?_
  clear ha a
  rintro e w49 ⟨rfl, hBc⟩
  have hg := grown_call hBc; clear hBc
  replace hB := keepB0 hg hB
  replace hb4 := keepO0 hg hb4
  replace hb6 := keepO0 hg hb6
  replace hb8 := keepO0 hg hb8
  clear hg
  refine ⟨fun _ => ⟨hB, hb4, hb6, hb8, trivial⟩, _, rfl, ?_⟩; intro a ha
  refine cvg ha rfl rfl (fun w _ => r_eqA (f := (fun z : Int => z)) (fun x y h => h) (mi (pl p q) q) (cl p) ha rfl rfl (by rw [(mi_red _ _ (by rw [(pl_red _ _ (by rw [hp])).len])).len]) (by rw [(cl_red _ (by rw [hp])).len]) Tryd.eqGuardType34 Tryd.runUnderlying34 Tryd.sizeOf3 Tryd.underlying3 Tryd.isAgg3 true (decide_eq_true (minus_plus p q hp hq))) rfl rfl rfl rfl rfl ?_; clear ha a; intro a ha
  refine cv ha rfl rfl (fun w _ => r_pick ha true rfl rfl) rfl rfl rfl ?_; clear ha a; intro a ha
  refine cv ha rfl rfl (fun w _ => r_assign ha rfl) rfl rfl rfl ?_; clear ha a; intro a ha
  refine cfin (hK45 _ _ ?_); clear hK45 K44
  refine wp_ret ?_
  repeat (first | (with_reducible refine t_ret ?_) | (with_reducible refine x_ret ?_))
  exact ret1 ha Tryd.results16 rfl ⟨rfl, hB⟩

theorem law_NttPowers (p : List Int) (k c : Int) (w0 : World) (hp : p.length = 256) (hG : Glob w0) :
    Calls Tryd.prog 17 #[.agg ((p).map ei).toArray, ei k, ei c] w0 fun e w' => e = .returned (.bool true) ∧ Below w0.heap.size w0 w' := by
  refine enter (args := [_, _, _]) Tryd.func17 rfl Tryd.ntmps17 rfl ?_
  intro a ha
  have hB := Below.refl w0.heap.size w0
  refine wp_seq_k fun K1 hK2 => ?_
  refine region ?_
  refine sbox ha rfl rfl ?_
  clear ha a; intro a w3 b4 ha hg hb4 hge4 hlt4
  have hz4 : w0.heap.size ≤ b4 := Nat.le_trans hB.size hge4
  replace hB := keepB0 hg hB
  clear hg hge4 hlt4
  refine sv ha (r_assign ha rfl) rfl rfl rfl ?_; clear ha a; intro a ha
  refine hK2 _ _ ?_; clear hK2 K1
  refine wp_seq_k fun K5 hK6 => ?_
  refine region ?_
  refine sc ha (r_call ha [] rfl Tryd.call35) rfl rfl rfl (c_awake11  _ (glob_keep hG hB)) ?_
  clear ha a
  rintro e w7 ⟨rfl, hBc⟩
  have hg := grown_call hBc; clear hBc
  replace hB := keepB0 hg hB
  replace hb4 := keepO0 hg hb4
  clear hg
  refine ⟨_, rfl, ?_⟩; intro a ha
  refine sv ha (r_assign ha rfl) rfl rfl rfl ?_; clear ha a; intro a ha
  refine hK6 _ _ ?_; clear hK6 K5
  refine wp_seq_k fun K8 hK9 => ?_
  refine wp_seq_k fun K10 hK11 => ?_
  refine region ?_
  refine sv ha (r_move ha rfl) rfl rfl rfl ?_; clear ha a; intro a ha
  refine sv ha (r_not ha true false rfl rfl) rfl rfl rfl ?_; clear ha a; intro a ha
  refine hK11 _ _ ?_; clear hK11 K10
  refine cond_f ha rfl ?_
  refine wp_skip ?_
  refine hK9 _ _ ?_; clear hK9 K8
  refine wp_seq_k fun K12 hK13 => ?_
  refine region ?_
  refine sv ha (r_move ha rfl) rfl rfl rfl ?_; clear ha a; intro a ha
  refine sv ha (r_mask ha k 8 (by omega) (m := 255) rfl rfl rfl) rfl rfl rfl ?_; clear ha a; intro a ha
  refine sv ha (r_assign ha rfl) rfl rfl rfl ?_; clear ha a; intro a ha
  refine hK13 _ _ ?_; clear hK13 K12
  refine wp_seq_k fun K14 hK15 => ?_
  refine region ?_
  refine salloc ha zero_33Z5 rfl ?_
  clear ha a; intro a w16 b17 ha hg hb17 hge17 hlt17
  have hz17 : w0.heap.size ≤ b17 := Nat.le_trans hB.size hge17
  have hq4_17 : b4 < b17 := Nat.lt_of_lt_of_le (lt_of_block hb4) hge17
  replace hB := keepB0 hg hB
  replace hb4 := keepO0 hg hb4
  clear hg hge17 hlt17
  refine hK15 _ _ ?_; clear hK15 K14
  refine wp_seq_k fun K18 hK19 => ?_
  refine region ?_
  refine sv ha (r_move ha rfl) rfl rfl rfl ?_; clear ha a; intro a ha
  refine sv ha (r_move ha rfl) rfl rfl rfl ?_; clear ha a; intro a ha
  refine sv ha (r_indexArr (i := (k % (2 ^ 8 : Nat)).toNat) ha ((k % (2 ^ 8 : Nat)).toNat) Tryd.runUnderlying33 Tryd.sizeOf3 rfl rfl (by omega) (by omega)) rfl rfl rfl ?_; clear ha a; intro a ha
  refine sstore ha (v := ei c) rfl rfl rfl rfl Tryd.sizeOf3 hb17 (by rw [List.length_map, List.length_replicate]; omega) ?_
  clear ha a; intro a w20 ha hg hb17'
  rw [set_map] at hb17'
  clear hb17; have hb17 := hb17'; clear hb17'
  replace hB := keepB1 hg (by omega) hB
  replace hb4 := keepO1 hg (by omega) hb4
  clear hg
  refine hK19 _ _ ?_; clear hK19 K18
  refine wp_seq_k fun K21 hK22 => ?_
  refine region ?_
  refine sv ha (r_loadR ha rfl Tryd.isAgg33 Tryd.sizeOf33 (C := (p).map ei) (by rw [List.length_map, hp]) (cells_all hb4)) rfl rfl rfl ?_; clear ha a; intro a ha
  refine sv ha (r_loadR ha rfl Tryd.isAgg33 Tryd.sizeOf33 (C := ((List.replicate 256 (0 : Int)).set ((k % (2 ^ 8 : Nat)).toNat) c).map ei) (by rw [List.length_map, List.length_set, List.length_replicate]) (cells_all hb17)) rfl rfl rfl ?_; clear ha a; intro a ha
  refine sc ha (r_call ha [.agg ((p).map ei).toArray, .agg ((((List.replicate 256 (0 : Int)).set ((k % (2 ^ 8 : Nat)).toNat) c)).map ei).toArray] rfl Tryd.call48) rfl rfl rfl (c_prod p ((List.replicate 256 (0 : Int)).set ((k % (2 ^ 8 : Nat)).toNat) c) _ (by rw [hp]) (by rw [List.length_set, List.length_replicate]) (glob_keep hG hB)) ?_
  clear ha a
  rintro e w23 ⟨rfl, hBc⟩
  have hg := grown_call hBc; clear hBc
  replace hB := keepB0 hg hB
  replace hb4 := keepO0 hg hb4
  replace hb17 := keepO0 hg hb17
  clear hg
  refine ⟨_, rfl, ?_⟩; intro a ha
  refine salloc ha zero_34Z5 rfl ?_
  clear ha a; intro a w24 b25 ha hg hb25 hge25 hlt25
  have hz25 : w0.heap.size ≤ b25 := Nat.le_trans hB.size hge25
  have hq4_25 : b4 < b25 := Nat.lt_of_lt_of_le (lt_of_block hb4) hge25
  have hq17_25 : b17 < b25 := Nat.lt_of_lt_of_le (lt_of_block hb17) hge25
  replace hB := keepB0 hg hB
  replace hb4 := keepO0 hg hb4
  replace hb17 := keepO0 hg hb17
  clear hg hge25 hlt25
  refine sstoreW ha rfl rfl (one_ei _) Tryd.sizeOf34 (by rw [List.length_map, (prd_red _ _).len]) hb25 (by rw [List.length_map, List.length_replicate]) ?_
  clear ha a; intro a w26 ha hg hb25'
  clear hb25; have hb25 := hb25'; clear hb25'
  replace hB := keepB1 hg (by omega) hB
  replace hb4 := keepO1 hg (by omega) hb4
  replace hb17 := keepO1 hg (by omega) hb17
  clear hg
  refine hK22 _ _ ?_; clear hK22 K21
  refine wp_seq_k fun K27 hK28 => ?_
  refine wp_seq_k fun K29 hK30 => ?_
  refine region ?_
  refine sv ha (r_assign ha rfl) rfl rfl rfl ?_; clear ha a; intro a ha
  refine hK30 _ _ ?_; clear hK30 K29
  refine wp_block ?_
  refine loopG (fun (i : Nat) a w => (i ≤ 256) ∧ Has 52 [(0, .agg ((p).map ei).toArray), (1, en ((k % (2 ^ 8 : Nat)).toNat)), (2, ei c), (3, .pointer (some ⟨b4, 0, none⟩)), (13, .bool true), (7, .bool true), (14, .bool true), (15, .bool false), (16, ei k), (17, en ((k % (2 ^ 8 : Nat)).toNat)), (8, .pointer (some ⟨b17, 0, none⟩)), (18, en ((k % (2 ^ 8 : Nat)).toNat)), (19, ei c), (20, .pointer (some ⟨b17, (k % (2 ^ 8 : Nat)).toNat, none⟩)), (21, .agg ((p).map ei).toArray), (22, .agg (((List.replicate 256 (0 : Int)).set ((k % (2 ^ 8 : Nat)).toNat) c).map ei).toArray), (23, .agg ((prd p ((List.replicate 256 (0 : Int)).set ((k % (2 ^ 8 : Nat)).toNat) c)).map ei).toArray), (9, .pointer (some ⟨b25, 0, none⟩)), (10, en i)] a ∧ Below w0.heap.size w0 w ∧ w.heap[b4]? = some (.cells ((p).map ei).toArray 33 (0, 0)) ∧ w.heap[b17]? = some (.cells (((List.replicate 256 (0 : Int)).set ((k % (2 ^ 8 : Nat)).toNat) c).map ei).toArray 33 (0, 0)) ∧ w.heap[b25]? = some (.cells ((prd p ((List.replicate 256 (0 : Int)).set ((k % (2 ^ 8 : Nat)).toNat) c)).map ei).toArray 34 (0, 0))) (fun i => 256 - i) 0 ⟨(by omega), ha.to [0, 1, 2, 3, 13, 7, 14, 15, 16, 17, 8, 18, 19, 20, 21, 22, 23, 9, 10] rfl, hB, hb4, hb17, hb25⟩ ?_
  clear ha a hB hb4 hb17 hb25
  intro i a w31 ⟨hki, ha, hB, hb4, hb17, hb25⟩
  refine wp_seq_k fun K32 hK33 => ?_
  refine wp_seq_k fun K34 hK35 => ?_
  refine region ?_
  refine sv ha (r_move ha rfl) rfl rfl rfl ?_; clear ha a; intro a ha
  refine sv ha (r_lss ha ((i : Nat) : Int) 256 (decide (i < 256)) rfl rfl (decide_eq_decide.2 (by omega))) rfl rfl rfl ?_; clear ha a; intro a ha
  refine hK35 _ _ ?_; clear hK35 K34
  refine cond_if ha rfl (fun hc36 => ?_) (fun hc36 => ?_)
  · skip
    replace hc36 := of_decide_eq_true hc36
    refine wp_skip ?_
    refine hK33 _ _ ?_; clear hK33 K32
    refine wp_seq_k fun K37 hK38 => ?_
    refine wp_block ?_
    refine wp_seq_k fun K39 hK40 => ?_
    refine region ?_
    refine sv ha (r_move ha rfl) rfl rfl rfl ?_; clear ha a; intro a ha
    refine sv ha (r_indexArr (i := i) ha i Tryd.runUnderlying33 Tryd.sizeOf3 rfl rfl (by omega) (by omega)) rfl rfl rfl ?_; clear ha a; intro a ha
    refine sv ha (r_load ha rfl Tryd.isAgg3 (cell_of hb4 (get_map ei p 0 i (by rw [hp]; omega)))) rfl rfl rfl ?_; clear ha a; intro a ha
    refine sv ha (r_move ha rfl) rfl rfl rfl ?_; clear ha a; intro a ha
    refine sc ha (r_call ha [ei (p.getD i 0), ei c] rfl Tryd.call23) rfl rfl rfl (c_mul (p.getD i 0) c _ ) ?_
    clear ha a
    rintro e w41 ⟨rfl, hBc⟩
    have hg := grown_call hBc; clear hBc
    replace hB := keepB0 hg hB
    replace hb4 := keepO0 hg hb4
    replace hb17 := keepO0 hg hb17
    replace hb25 := keepO0 hg hb25
    clear hg
    refine ⟨_, rfl, ?_⟩; intro a ha
    refine sv ha (r_assign ha rfl) rfl rfl rfl ?_; clear ha a; intro a ha
    refine hK40 _ _ ?_; clear hK40 K39
    refine wp_seq_k fun K42 hK43 => ?_
    refine region ?_
    refine sv ha (r_move ha rfl) rfl rfl rfl ?_; clear ha a; intro a ha
    refine sv ha (r_move ha rfl) rfl rfl rfl ?_; clear ha a; intro a ha
    refine sv ha (rn_add ha i ((k % (2 ^ 8 : Nat)).toNat) rfl rfl (by omega)) rfl rfl rfl ?_; clear ha a; intro a ha
    refine sv ha (r_assign ha rfl) rfl rfl rfl ?_; clear ha a; intro a ha
    refine hK43 _ _ ?_; clear hK43 K42
    refine wp_seq_k fun K44 hK45 => ?_
    refine wp_seq_k fun K46 hK47 => ?_
    refine region ?_
    refine sv ha (r_move ha rfl) rfl rfl rfl ?_; clear ha a; intro a ha
    refine sv ha (r_geq ha ((i + ((k % (2 ^ 8 : Nat)).toNat) : Nat) : Int) 256 (decide (i + ((k % (2 ^ 8 : Nat)).toNat) ≥ 256)) rfl rfl (decide_eq_decide.2 (by omega))) rfl rfl rfl ?_; clear ha a; intro a ha
    refine hK47 _ _ ?_; clear hK47 K46
    refine cond_if ha rfl (fun hc48 => ?_) (fun hc48 => ?_)
    · skip
      replace hc48 := of_decide_eq_true hc48
      refine wp_seq_k fun K49 hK50 => ?_
      refine region ?_
      refine sv ha (r_move ha rfl) rfl rfl rfl ?_; clear ha a; intro a ha
      refine sv ha (rn_sub ha (i + ((k % (2 ^ 8 : Nat)).toNat)) 256 rfl rfl (by omega) (by omega)) rfl rfl rfl ?_; clear ha a; intro a ha
      refine sv ha (r_assign ha rfl) rfl rfl rfl ?_; clear ha a; intro a ha
      refine hK50 _ _ ?_; clear hK50 K49
      refine region ?_
      refine sv ha (r_move ha rfl) rfl rfl rfl ?_; clear ha a; intro a ha
      refine sc ha (r_call ha [ei 0, ei ((zmul (p.getD i 0) c : Nat) : Int)] rfl Tryd.call22) rfl rfl rfl (c_sub 0 ((zmul (p.getD i 0) c : Nat) : Int) _ ) ?_
      clear ha a
      rintro e w51 ⟨rfl, hBc⟩
      have hg := grown_call hBc; clear hBc
      replace hB := keepB0 hg hB
      replace hb4 := keepO0 hg hb4
      replace hb17 := keepO0 hg hb17
      replace hb25 := keepO0 hg hb25
      clear hg
      refine ⟨_, rfl, ?_⟩; intro a ha
      refine sv ha (r_assign ha rfl) rfl rfl rfl ?_; clear ha a; intro a ha
      refine hK45 _ _ ?_; clear hK45 K44
      refine wp_seq_k fun K52 hK53 => ?_
      refine region ?_
      refine sv ha (r_move ha rfl) rfl rfl rfl ?_; clear ha a; intro a ha
      refine sv ha (r_indexArr (i := (i + ((k % (2 ^ 8 : Nat)).toNat)) - 256) ha ((i + ((k % (2 ^ 8 : Nat)).toNat)) - 256) Tryd.runUnderlying34 Tryd.sizeOf3 rfl rfl (by omega) (by omega)) rfl rfl rfl ?_; clear ha a; intro a ha
      refine sv ha (r_load ha rfl Tryd.isAgg3 (cell_of hb25 (get_map ei (prd p ((List.replicate 256 (0 : Int)).set ((k % (2 ^ 8 : Nat)).toNat) c)) 0 ((i + ((k % (2 ^ 8 : Nat)).toNat)) - 256) (by rw [(prd_red _ _).len]; omega)))) rfl rfl rfl ?_; clear ha a; intro a ha
      refine sv ha (r_move ha rfl) rfl rfl rfl ?_; clear ha a; intro a ha
      refine sv ha (r_neq ha ((prd p ((List.replicate 256 (0 : Int)).set ((k % (2 ^ 8 : Nat)).toNat) c)).getD ((i + ((k % (2 ^ 8 : Nat)).toNat)) - 256) 0) ((zsub 0 ((zmul (p.getD i 0) c : Nat) : Int) : Nat) : Int) false rfl rfl (decide_eq_false (fun h => h (by have e := prd_xk_get p hp c ((k % (2 ^ 8 : Nat)).toNat) (by omega) i (by omega); unfold mvP mvV at e; first | (rw [if_pos (by omega), if_pos (by omega)] at e; exact e) | (rw [if_neg (by omega), if_neg (by omega)] at e; exact e))))) rfl rfl rfl ?_; clear ha a; intro a ha
      refine hK53 _ _ ?_; clear hK53 K52
      refine cond_f ha rfl ?_
      refine wp_skip ?_
      refine hK38 _ _ ?_; clear hK38 K37
      refine region ?_
      refine sv ha (r_move ha rfl) rfl rfl rfl ?_; clear ha a; intro a ha
      refine sv ha (rn_add ha i 1 rfl rfl (by omega)) rfl rfl rfl ?_; clear ha a; intro a ha
      refine sv ha (r_assign ha rfl) rfl rfl rfl ?_; clear ha a; intro a ha
      exact ⟨i + 1, by omega, (by omega), ha.to [0, 1, 2, 3, 13, 7, 14, 15, 16, 17, 8, 18, 19, 20, 21, 22, 23, 9, 10] rfl, hB, hb4, hb17, hb25⟩
    · skip
      replace hc48 := of_decide_eq_false hc48
      refine wp_skip ?_
      refine hK45 _ _ ?_; clear hK45 K44
      refine wp_seq_k fun K54 hK55 => ?_
      refine region ?_
      refine sv ha (r_move ha rfl) rfl rfl rfl ?_; clear ha a; intro a ha
      refine sv ha (r_indexArr (i := i + ((k % (2 ^ 8 : Nat)).toNat)) ha (i + ((k % (2 ^ 8 : Nat)).toNat)) Tryd.runUnderlying34 Tryd.sizeOf3 rfl rfl (by omega) (by omega)) rfl rfl rfl ?_; clear ha a; intro a ha
      refine sv ha (r_load ha rfl Tryd.isAgg3 (cell_of hb25 (get_map ei (prd p ((List.replicate 256 (0 : Int)).set ((k % (2 ^ 8 : Nat)).toNat) c)) 0 (i + ((k % (2 ^ 8 : Nat)).toNat)) (by rw [(prd_red _ _).len]; omega)))) rfl rfl rfl ?_; clear ha a; intro a ha
      refine sv ha (r_move ha rfl) rfl rfl rfl ?_; clear ha a; intro a ha
      refine sv ha (r_neq ha ((prd p ((List.replicate 256 (0 : Int)).set ((k % (2 ^ 8 : Nat)).toNat) c)).getD (i + ((k % (2 ^ 8 : Nat)).toNat)) 0) ((zmul (p.getD i 0) c : Nat) : Int) false rfl rfl (decide_eq_false (fun h => h (by have e := prd_xk_get p hp c ((k % (2 ^ 8 : Nat)).toNat) (by omega) i (by omega); unfold mvP mvV at e; first | (rw [if_pos (by omega), if_pos (by omega)] at e; exact e) | (rw [if_neg (by omega), if_neg (by omega)] at e; exact e))))) rfl rfl rfl ?_; clear ha a; intro a ha
      refine hK55 _ _ ?_; clear hK55 K54
      refine cond_f ha rfl ?_
      refine wp_skip ?_
      refine hK38 _ _ ?_; clear hK38 K37
      refine region ?_
      refine sv ha (r_move ha rfl) rfl rfl rfl ?_; clear ha a; intro a ha
      refine sv ha (rn_add ha i 1 rfl rfl (by omega)) rfl rfl rfl ?_; clear ha a; intro a ha
      refine sv ha (r_assign ha rfl) rfl rfl rfl ?_; clear ha a; intro a ha
      exact ⟨i + 1, by omega, (by omega), ha.to [0, 1, 2, 3, 13, 7, 14, 15, 16, 17, 8, 18, 19, 20, 21, 22, 23, 9, 10] rfl, hB, hb4, hb17, hb25⟩
  · skip
    replace hc36 := of_decide_eq_false hc36
    refine wp_exit ?_
    obtain rfl : i = 256 := by omega
    refine hK28 _ _ ?_; clear hK33 K32 hK28 K27
    refine wp_seq_k fun K56 hK57 => ?_
    refine regionD (S := fun w => Below w0.heap.size w0 w ∧ w.heap[b4]? = some (.cells ((p).map ei).toArray 33 (0, 0)) ∧ w.heap[b17]? = some (.cells (((List.replicate 256 (0 : Int)).set ((k % (2 ^ 8 : Nat)).toNat) c).map ei).toArray 33 (0, 0)) ∧ w.heap[b25]? = some (.cells ((prd p ((List.replicate 256 (0 : Int)).set ((k % (2 ^ 8 : Nat)).toNat) c)).map ei).toArray 34 (0, 0)) ∧ True) [] [0, 2, 4, 5] [0, 2, 1, 3, 4, 5] mixed (by kernel_rfl) (fun w hg => ⟨keepB0 hg hB, keepO0 hg hb4, keepO0 hg hb17, keepO0 hg hb25, trivial⟩) ?_
    intro w58 hg
    replace hB := keepB0 hg hB
    replace hb4 := keepO0 hg hb4
    replace hb17 := keepO0 hg hb17
    replace hb25 := keepO0 hg hb25
    clear hg
    refine cv ha rfl rfl (fun w ⟨hB, hb4, hb17, hb25, _⟩ => r_loadR ha rfl Tryd.isAgg33 Tryd.sizeOf33 (C := ((List.replicate 256 (0 : Int)).set ((k % (2 ^ 8 : Nat)).toNat) c).map ei) (by rw [List.length_map, List.length_set, List.length_replicate]) (cells_all hb17)) rfl rfl rfl ?_; clear ha a; intro a ha
    refine cv ha rfl rfl (fun w ⟨hB, hb4, hb17, hb25, _⟩ => r_loadR ha rfl Tryd.isAgg33 Tryd.sizeOf33 (C := ((List.replicate 256 (0 : Int)).set ((k % (2 ^ 8 : Nat)).toNat) c).map ei) (by rw [List.length_map, List.length_set, List.length_replicate]) (cells_all hb17)) rfl rfl rfl ?_; clear ha a; intro a ha
    refine cc ha rfl rfl (r_call ha [.agg ((((List.replicate 256 (0 : Int)).set ((k % (2 ^ 8 : Nat)).toNat) c)).map ei).toArray] rfl Tryd.call42) rfl rfl rfl (c_fwd ((List.replicate 256 (0 : Int)).set ((k % (2 ^ 8 : Nat)).toNat) c) _ (by rw [List.length_set, List.length_replicate]) (glob_keep hG hB)) ?_
    clear ha a
    rintro e w59 ⟨rfl, hBc⟩
    have hg := grown_call hBc; clear hBc
    replace hB := keepB0 hg hB
    replace hb4 := keepO0 hg hb4
    replace hb17 := keepO0 hg hb17
    replace hb25 := keepO0 hg hb25
    clear hg
    refine ⟨fun _ => ⟨hB, hb4, hb17, hb25, trivial⟩, _, rfl, ?_⟩; intro a ha
    refine cc ha rfl rfl (r_call ha [.agg ((((List.replicate 256 (0 : Int)).set ((k % (2 ^ 8 : Nat)).toNat) c)).map ei).toArray] rfl Tryd.call43) rfl rfl rfl (c_rfwd ((List.replicate 256 (0 : Int)).set ((k % (2 ^ 8 : Nat)).toNat) c) _ (by rw [List.length_set, List.length_replicate])) ?_
    clear ha a
    rintro e w60 ⟨rfl, hBc⟩
    have hg := grown_call hBc; clear hBc
    replace hB := keepB0 hg hB
    replace hb4 := keepO0 hg hb4
    replace hb17 := keepO0 hg hb17
    replace hb25 := keepO0 hg hb25
    clear hg
    refine ⟨fun _ => ⟨hB, hb4, hb17, hb25, trivial⟩, _, rfl, ?_⟩; intro a ha
    refine cv ha rfl rfl (fun w _ => r_eqA (f := (fun z : Int => z)) (fun x y h => h) (fwd ((List.replicate 256 (0 : Int)).set ((k % (2 ^ 8 : Nat)).toNat) c)) (fwd ((List.replicate 256 (0 : Int)).set ((k % (2 ^ 8 : Nat)).toNat) c)) ha rfl rfl (by rw [(fwd_red _ (by rw [List.length_set, List.length_replicate])).len]) (by rw [(fwd_red _ (by rw [List.length_set, List.length_replicate])).len]) Tryd.eqGuardType34 Tryd.runUnderlying34 Tryd.sizeOf3 Tryd.underlying3 Tryd.isAgg3 true (decide_eq_true rfl)) rfl rfl rfl ?_; clear ha a; intro a ha
    refine cv ha rfl rfl (fun w _ => r_assign ha rfl) rfl rfl rfl ?_; clear ha a; intro a ha
    refine cfin (hK57 _ _ ?_); clear hK57 K56
    refine wp_ret ?_
    repeat (first | (with_reducible refine t_ret ?_) | (with_reducible refine x_ret ?_))
    exact ret1 ha Tryd.results17 rfl ⟨rfl, hB⟩
end Go.Proofs.YtdiddkcoihpnhaaDoor
